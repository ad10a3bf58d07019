/-
  route.fill, walked: what stands for names and numbers.
-/
import Derived.Test.YtnfimhdcpmakpaaDoorOp26
import Derived.Test.YtnfimhdcpmakpaaDoorSx4
import Derived.Test.YtnfimhdcpmakpaaDoorSx5
import Derived.Test.YtnfimhdcpmakpaaDoorSx6
namespace Go.Proofs.YtnfimhdcpmakpaaDoor.S
open Go.RowKit Go.Proofs.YtnfimhdcpmakpaaDoorW.PrintWords
set_option linter.unusedVariables false
set_option linter.unusedSimpArgs false
/-- What is filled in: 'HEX' is left out here. -/
def fillF (K : Nat) : List ByteArray → List ByteArray → OpV → Option (Bool × OpV)
  | [], _, o => some (true, o)
  | _ :: _, [], _ => none
  | x :: xs, p :: ps, o =>
    if x.toList = [78, 65, 77, 69] then (names_May.f K p).bind fun b => if b = true then fillF K xs ps { o with ten := p } else some (false, { o with ten := p })
    else if x.toList = [72, 69, 88] then none
    else if x.toList = [78] then (names_Number.f K p).bind fun n => if n.2 = 0 then fillF K xs ps { o with num := n.1 } else some (false, { o with num := n.1 })
    else fillF K xs ps o
theorem toList_lit (x : ByteArray) (l : List UInt8) (h : x.toList = l) : x = ⟨l.toArray⟩ := by
  rw [Lib.toList_data] at h
  apply ByteArray.ext
  simp [← h]
theorem fillF_of (K : Nat) {x : ByteArray} {xs : List ByteArray} {p : ByteArray} {ps : List ByteArray} {o : OpV} : fillF K (x :: xs) (p :: ps) o = if x.toList = [78, 65, 77, 69] then (names_May.f K p).bind fun b => if b = true then fillF K xs ps { o with ten := p } else some (false, { o with ten := p })
    else if x.toList = [72, 69, 88] then none
    else if x.toList = [78] then (names_Number.f K p).bind fun n => if n.2 = 0 then fillF K xs ps { o with num := n.1 } else some (false, { o with num := n.1 })
    else fillF K xs ps o := rfl
set_option maxHeartbeats 8000000 in
set_option maxRecDepth 100000 in
theorem fill_any (K : Nat) (x : S58) (g : Nat) (o : OpV) (ho : o.of_.length = 32) (A : Option Addr) (c : Nat) (ps : List ByteArray) (w : World) (form : List ByteArray) (r : Bool) (o' : OpV)
    (hg : w.heap[g]? = some (.cells (opA o) 33 (0, 0))) (hp : Kd.C Kd.string w A ps.length ps) (hc : ps.length ≤ c) (hA : ∀ ad, A = some ad → ad.block ≠ g)
    (hform : route_road_parts.f x.f0 x.f1 x.f2 x.f3 x.f4 x.f5 = some form) (hl : form.length = ps.length) (hlp : ps.length ≤ 1048576) (h : fillF K form ps o = some (r, o')) :
    Calls Tryd.prog 22 #[.agg #[.string x.f0, .string x.f1, .int .i64 x.f2, .bool x.f3, .bool x.f4, .bool x.f5], .pointer (some ⟨g, 0, none⟩), .slice A ps.length c] w
      fun e w' => e = .returned (.bool r) ∧ o'.of_.length = 32 ∧ w'.heap[g]? = some (.cells (opA o') 33 (0, 0)) ∧ KeepBut w w' g none ∧ Below g w w' := by
  have HA := Lib.hid hA
  have HP := Lib.hid hp
  have HF := Lib.hid h
  have HG := Lib.hid hg
  have HOL := Lib.hid ho
  have HFM := Lib.hid hform
  obtain ⟨x0, x1, x2, x3, x4, x5⟩ := x
  simp only at HFM
  clear hA hp h hg hform
  go_enter Tryd.func22, Tryd.ntmps22
  go_wp2_with fail
  refine (route_road_parts.calls x0 x1 x2 x3 x4 x5 form _ HFM.out).mono ?_
  rintro e w1 ⟨v, rfl, hR, hb⟩
  obtain ⟨Ao, co, eo⟩ := Kd.R_slice hR
  subst eo
  have hb1 : Below w.heap.size w w1 := below_then (below_alloc (Below.refl _ _) _) (below_alloc (Below.refl w.heap.size w) _).size hb
  have HR := Lib.hid (Kd.R_lower hR (below_alloc (Below.refl w.heap.size w) _).size)
  have HG1 := Lib.hid (blk_below HG.out hb1)
  have HK1 := Lib.hid (KeepBut.of_below hb1 g none)
  have HL1 := Lib.hid (show Below g w w1 from ⟨hb1.os, hb1.tape, hb1.output, hb1.size, fun i hi => hb1.block i (Nat.lt_trans hi (blk_lt HG.out))⟩)
  clear hR hb hb1 HG HFM
  go_wp2_with fail
  go_loopw [13] (fun i wr => ∃ (k : Nat) (q : OpV), k ≤ form.length ∧ i = .int .i64 k ∧ Hid (fillF K (form.drop k) (ps.drop k) q = some (r, o')) ∧ Hid (q.of_.length = 32) ∧ Hid (wr.heap[g]? = some (.cells (opA q) 33 (0, 0))) ∧ Hid (Kd.R Kd.string 9 wr w.heap.size (fun _ => True) (.slice Ao form.length co) form) ∧ Hid (KeepBut w wr g none) ∧ Hid (Below g w wr)) (fun i _ => form.length - (intOf i).toNat)
  case atStart => exact ⟨0, o, by omega, rfl, HF, HOL, HG1, HR, HK1, HL1⟩
  case round =>
    obtain ⟨k, q, hk, rfl, HFk, HQ, HGk, HRk, HKk, HLk⟩ := hrel
    clear HF HOL HG1 HR HK1 HL1
    by_cases hlt : k < form.length
    · have hltp : k < ps.length := by omega
      obtain ⟨ad, e0, hx⟩ := Kd.at_string (Kd.R_reads' HRk.out).2.2 (k : Int) (by omega) (by omega)
      obtain ⟨ap, e1, hy⟩ := Kd.at_string HP.out (k : Int) (by omega) (by omega)
      unfold rdOf at hx hy
      rw [Int.toNat_natCast] at hx hy
      have hne : (ap.add k).block ≠ g := by rw [add_block]; exact HA.out ap e1
      replace hy := keep_cell HKk.out hy hne
      have hdf : form.drop k = form.getD k ByteArray.empty :: form.drop (k + 1) := by rw [List.drop_eq_getElem_cons hlt, List.getD_eq_getElem?_getD, List.getElem?_eq_getElem hlt]; rfl
      have hdp : ps.drop k = ps.getD k ByteArray.empty :: ps.drop (k + 1) := by rw [List.drop_eq_getElem_cons hltp, List.getD_eq_getElem?_getD, List.getElem?_eq_getElem hltp]; rfl
      have hf := HFk.out
      rw [hdf, hdp, fillF_of] at hf
      generalize form.getD k ByteArray.empty = x at *
      generalize ps.getD k ByteArray.empty = p at *
      clear hdf hdp HFk hne
      cases e0
      cases e1
      have hgn : ad.block ≠ g := Kd.own_blk (Kd.R_ne HRk.out HGk.out (by decide))
      by_cases cN : x.toList = [78, 65, 77, 69]
      · rw [if_pos cN] at hf
        obtain rfl := toList_lit _ _ cN
        obtain ⟨b, hM, hf⟩ := Option.bind_eq_some_iff.1 hf
        have HM := Lib.hid hM
        have HFn := Lib.hid hf
        clear hM hf cN
        have hz1 : wr.cell? ⟨g, 1, none⟩ = some (.string q.ten) := (blk_cell HGk.out 1).trans (opA_1 HQ.out)
        have hfz := blk_frozen HGk.out 1
        go_wp2_with fail
        refine (names_May.calls K p b _ HM.out).mono ?_
        rintro e w2 ⟨rfl, ⟨nd, rfl⟩⟩
        have HG2 := Lib.hid (blk_drewN (blk_put HGk.out 1 (.string p) (set_ten HQ.out p)) nd)
        have HK2 := Lib.hid (keep_drewN (KeepBut.set_ HKk.out 1 (.string p)) nd)
        have HL2 := Lib.hid (pw_below_drewN (HLk.out.setCell (p := ⟨g, 1, none⟩) (Nat.le_refl g) (.string p)) nd)
        have HR2 := Lib.hid (Kd.R_drewN (Kd.R_mono (Kd.R_far (p := ⟨g, 1, none⟩) (Kd.R_types HRk.out HGk.out (by decide)) (fun _ hk => hk.2) (.string p)) (fun _ h_ => h_.1)) nd)
        clear HGk HKk HRk HLk HM
        cases b
        · have hf := Prod.mk.inj (Option.some.inj HFn.out)
          obtain ⟨rfl, rfl⟩ := hf
          go_wp2
          go_ret
          exact ⟨rfl, HQ.out, HG2.out, HK2.out, HL2.out⟩
        · have HF2 := Lib.hid (show fillF K (form.drop (k + 1)) (ps.drop (k + 1)) { q with ten := p } = some (r, o') from HFn.out)
          clear HFn
          go_wp2
          go_roundw
          case rel => exact ⟨k + 1, _, by omega, by go_num, HF2, Lib.hid HQ.out, HG2, HR2, HK2, HL2⟩
          case measure => simp [intOf]; omega
      · rw [if_neg cN] at hf
        by_cases cH : x.toList = [72, 69, 88]
        · rw [if_pos cH] at hf
          cases hf
        · rw [if_neg cH] at hf
          have qN : (x.toList == [78, 65, 77, 69]) = false := by simpa using cN
          have qH : (x.toList == [72, 69, 88]) = false := by simpa using cH
          by_cases c1 : x.toList = [78]
          · rw [if_pos c1] at hf
            obtain rfl := toList_lit _ _ c1
            obtain ⟨n, hM, hf⟩ := Option.bind_eq_some_iff.1 hf
            obtain ⟨n1, n2⟩ := n
            have HM := Lib.hid hM
            have HFn := Lib.hid hf
            clear hM hf c1 cN cH qN qH
            have hz1 : wr.cell? ⟨g, 34, none⟩ = some (.int .i64 q.num) := (blk_cell HGk.out 34).trans (opA_34 HQ.out)
            have hfz := blk_frozen HGk.out 34
            go_wp2_with fail
            refine (names_Number.calls K p n1 n2 _ HM.out).mono ?_
            rintro e w2 ⟨rfl, ⟨nd, rfl⟩⟩
            have HG2 := Lib.hid (blk_put (blk_drewN HGk.out nd) 34 (.int .i64 n1) (set_num HQ.out n1))
            have HK2 := Lib.hid (KeepBut.set_ (keep_drewN HKk.out nd) 34 (.int .i64 n1))
            have HL2 := Lib.hid ((pw_below_drewN HLk.out nd).setCell (p := ⟨g, 34, none⟩) (Nat.le_refl g) (.int .i64 n1))
            have HR2 := Lib.hid (Kd.R_mono (Kd.R_far (p := ⟨g, 34, none⟩) (Kd.R_types (Kd.R_drewN HRk.out nd) (blk_drewN HGk.out nd) (by decide)) (fun _ hk => hk.2) (.int .i64 n1)) (fun _ h_ => h_.1))
            clear HGk HKk HRk HLk HM
            by_cases h0 : n2 = 0
            · subst h0
              have HF2 := Lib.hid (show fillF K (form.drop (k + 1)) (ps.drop (k + 1)) { q with num := n1 } = some (r, o') from HFn.out)
              clear HFn
              go_wp2
              go_roundw
              case rel => exact ⟨k + 1, _, by omega, by go_num, HF2, Lib.hid HQ.out, HG2, HR2, HK2, HL2⟩
              case measure => simp [intOf]; omega
            · have hf := HFn.out
              rw [if_neg (show ¬ (n1, n2).2 = 0 from h0)] at hf
              obtain ⟨rfl, rfl⟩ := Prod.mk.inj (Option.some.inj hf)
              have h1 : (n2 != 0) = true := by simpa using h0
              have h2 : (n2 == 0) = false := by simpa using h0
              clear hf HFn
              go_wp2
              go_ret
              exact ⟨rfl, HQ.out, HG2.out, HK2.out, HL2.out⟩
          · rw [if_neg c1] at hf
            have q1 : (x.toList == [78]) = false := by simpa using c1
            have HF2 := Lib.hid hf
            clear hf c1 cN cH
            go_wp2
            go_roundw
            case rel => exact ⟨k + 1, q, by omega, by go_num, HF2, HQ, HGk, HRk, HKk, HLk⟩
            case measure => simp [intOf]; omega
    · obtain rfl : k = form.length := by omega
      have hf := HFk.out
      rw [List.drop_length] at hf
      obtain ⟨rfl, rfl⟩ := Prod.mk.inj (Option.some.inj hf)
      clear hf HFk
      go_wp2
      go_ret
      exact ⟨rfl, HQ.out, HGk.out, HKk.out, HLk.out⟩
end Go.Proofs.YtnfimhdcpmakpaaDoor.S
