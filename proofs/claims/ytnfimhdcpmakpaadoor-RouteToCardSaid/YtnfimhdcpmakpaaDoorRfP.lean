/-
 The reference's names, walked.
-/
import Derived.Test.YtnfimhdcpmakpaaDoorTw26P
import Derived.Test.YtnfimhdcpmakpaaDoorSx11P
import Derived.Test.YtnfimhdcpmakpaaDoorSx12P
import Derived.Test.YtnfimhdcpmakpaaDoorSx13P
namespace Go.Proofs.YtnfimhdcpmakpaaDoor.S
open Go.RowKit Go.Proofs.YtnfimhdcpmakpaaDoorW.PrintWords
set_option linter.unusedVariables false
set_option linter.unusedSimpArgs false
def rnG (K : Nat) : List ByteArray → List ByteArray → OpV → Option (Bool × OpV)
 | [], _, o => some (true, o)
 | _ :: _, [], _ => none
 | x :: xs, p :: ps, o =>
  if x.toList = [78, 65, 77, 69] then (cofferref4_May.f K p).bind fun b => if b = true then rnG K xs ps { o with ten := p } else some (false, { o with ten := p })
  else if x.toList = [72, 69, 88] then (if p.size ≤ 1048576 then (if (idOf (unh p)).2 = 0 then rnG K xs ps { o with of_ := (idOf (unh p)).1 } else some (false, { o with of_ := (idOf (unh p)).1 })) else none)
  else if x.toList = [78] then (cofferref4_Number.f K p).bind fun n => if n.2 = 0 then rnG K xs ps { o with num := n.1 } else some (false, { o with num := n.1 })
  else rnG K xs ps o
theorem rnG_of (K : Nat) {x : ByteArray} {xs : List ByteArray} {p : ByteArray} {ps : List ByteArray} {o : OpV} : rnG K (x :: xs) (p :: ps) o = if x.toList = [78, 65, 77, 69] then (cofferref4_May.f K p).bind fun b => if b = true then rnG K xs ps { o with ten := p } else some (false, { o with ten := p })
  else if x.toList = [72, 69, 88] then (if p.size ≤ 1048576 then (if (idOf (unh p)).2 = 0 then rnG K xs ps { o with of_ := (idOf (unh p)).1 } else some (false, { o with of_ := (idOf (unh p)).1 })) else none)
  else if x.toList = [78] then (cofferref4_Number.f K p).bind fun n => if n.2 = 0 then rnG K xs ps { o with num := n.1 } else some (false, { o with num := n.1 })
  else rnG K xs ps o := rfl
set_option maxHeartbeats 8000000 in
set_option maxRecDepth 100000 in
theorem rnames_all (K : Nat) (g : Nat) (o : OpV) (ho : o.of_.length = 32) (A : Option Addr) (c : Nat) (ps : List ByteArray) (B : Option Addr) (d : Nat) (w : World) (form : List ByteArray) (r : Bool) (o' : OpV)
  (hg : w.heap[g]? = some (.cells (opA o) 33 (0, 0))) (hp : Kd.C Kd.string w A ps.length ps) (hc : ps.length ≤ c) (hA : ∀ ad, A = some ad → ad.block ≠ g)
  (hform : Kd.C Kd.string w B form.length form) (hd : form.length ≤ d) (hB : ∀ ad, B = some ad → ad.block ≠ g) (hl : form.length = ps.length) (hlp : ps.length ≤ 1048576) (h : rnG K form ps o = some (r, o')) :
  Calls Tryd.prog 29 #[.slice B form.length d, .slice A ps.length c, .pointer (some ⟨g, 0, none⟩)] w
   fun e w' => e = .returned (.bool r) ∧ o'.of_.length = 32 ∧ w'.heap[g]? = some (.cells (opA o') 33 (0, 0)) ∧ KeepBut w w' g none ∧ Below g w w' := by
 have HA := Lib.hid hA
 have HP := Lib.hid hp
 have HF := Lib.hid h
 have HG1 := Lib.hid hg
 have HOL := Lib.hid ho
 have HBB := Lib.hid hB
 have HFM := Lib.hid hform
 have HK1 := Lib.hid (KeepBut.refl w g none)
 have HL1 := Lib.hid (Below.refl g w)
 have HLL := Lib.hid hl
 clear hA hp h hg hform hB ho hl
 go_enter Tryd.func29, Tryd.ntmps29
 go_wp2_with fail
 go_loopw [7] (fun i wr => ∃ (k : Nat) (q : OpV), k ≤ ps.length ∧ i = .int .i64 k ∧ Hid (rnG K (form.drop k) (ps.drop k) q = some (r, o')) ∧ Hid (q.of_.length = 32) ∧ Hid (wr.heap[g]? = some (.cells (opA q) 33 (0, 0))) ∧ Hid (KeepBut w wr g none) ∧ Hid (Below g w wr)) (fun i _ => ps.length - (intOf i).toNat)
 case atStart => exact ⟨0, o, by omega, rfl, HF, HOL, HG1, HK1, HL1⟩
 case round =>
  obtain ⟨k, q, hk, rfl, HFk, HQ, HGk, HKk, HLk⟩ := hrel
  clear HF HOL HG1 HK1 HL1
  by_cases hltp : k < ps.length
  ·
   have hlt : k < form.length := by have := HLL.out; omega
   obtain ⟨ad, e0, hx⟩ := Kd.at_string HFM.out (k : Int) (by omega) (by omega)
   obtain ⟨ap, e1, hy⟩ := Kd.at_string HP.out (k : Int) (by omega) (by omega)
   unfold rdOf at hx hy
   rw [Int.toNat_natCast] at hx hy
   have hne : (ap.add k).block ≠ g := by rw [add_block]; exact HA.out ap e1
   replace hy := keep_cell HKk.out hy hne
   have hne2 : (ad.add k).block ≠ g := by rw [add_block]; exact HBB.out ad e0
   replace hx := keep_cell HKk.out hx hne2
   clear hne2
   have hdf : form.drop k = form.getD k ByteArray.empty :: form.drop (k + 1) := by rw [List.drop_eq_getElem_cons hlt, List.getD_eq_getElem?_getD, List.getElem?_eq_getElem hlt]; rfl
   have hdp : ps.drop k = ps.getD k ByteArray.empty :: ps.drop (k + 1) := by rw [List.drop_eq_getElem_cons hltp, List.getD_eq_getElem?_getD, List.getElem?_eq_getElem hltp]; rfl
   have hf := HFk.out
   rw [hdf, hdp, rnG_of] at hf
   generalize form.getD k ByteArray.empty = x at *
   generalize ps.getD k ByteArray.empty = p at *
   have hy2 : ∀ u, (wr.setCell ⟨g, 1, none⟩ u).cell? (ap.add k) = some (.string p) := fun u => keep_cell (KeepBut.set_ (KeepBut.refl wr g none) 1 u) hy hne
   have HY2 := Lib.hid hy2
   clear hdf hdp HFk hne hy2
   cases e0
   cases e1
   by_cases cN : x.toList = [78, 65, 77, 69]
   ·
    rw [if_pos cN] at hf
    obtain rfl := toList_lit _ _ cN
    obtain ⟨b, hM, hf⟩ := Option.bind_eq_some_iff.1 hf
    have HM := Lib.hid hM
    have HFn := Lib.hid hf
    clear hM hf cN
    have hz1 : wr.cell? ⟨g, 1, none⟩ = some (.string q.ten) := (blk_cell HGk.out 1).trans (opA_1 HQ.out)
    have hfz := blk_frozen HGk.out 1
    have hy2 := HY2.out
    go_wp2_with fail
    refine (cofferref4_May.calls K p b _ HM.out).mono ?_
    rintro e w2 ⟨rfl, ⟨nd, rfl⟩⟩
    have HG2 := Lib.hid (blk_drewN (blk_put HGk.out 1 (.string p) (set_ten HQ.out p)) nd)
    have HK2 := Lib.hid (keep_drewN (KeepBut.set_ HKk.out 1 (.string p)) nd)
    have HL2 := Lib.hid (pw_below_drewN (HLk.out.setCell (p := ⟨g, 1, none⟩) (Nat.le_refl g) (.string p)) nd)
    clear HGk HKk HLk HM
    cases b
    ·
     have hf := Prod.mk.inj (Option.some.inj HFn.out)
     obtain ⟨rfl, rfl⟩ := hf
     go_wp2
     go_ret
     exact ⟨rfl, HQ.out, HG2.out, HK2.out, HL2.out⟩
    ·
     have HF2 := Lib.hid (show rnG K (form.drop (k + 1)) (ps.drop (k + 1)) { q with ten := p } = some (r, o') from HFn.out)
     clear HFn
     go_wp2
     go_roundw
     case rel => exact ⟨k + 1, _, by omega, by go_num, HF2, Lib.hid HQ.out, HG2, HK2, HL2⟩
     case measure => simp [intOf]; omega
   ·
    rw [if_neg cN] at hf
    by_cases cH : x.toList = [72, 69, 88]
    ·
     rw [if_pos cH] at hf
     obtain rfl := toList_lit _ _ cH
     by_cases hps : p.size ≤ 1048576
     rotate_left
     ·
      rw [if_neg hps] at hf; cases hf
     rw [if_pos hps] at hf
     have HFn := Lib.hid hf
     have hol := idOf_len (unh p)
     clear hf cN cH
     go_wp2_with fail
     refine (ref_id_any p _ hps).mono ?_
     rintro e w2 ⟨rfl, hb⟩
     generalize idOf (unh p) = u at *
     obtain ⟨l, n2⟩ := u
     simp only at hol HFn ⊢
     have HLE := Lib.hid (show w.heap.size ≤ wr.heap.size from HKk.out.1)
     have hbg : Below g wr w2 := ⟨hb.os, hb.tape, hb.output, hb.size, fun i hi => hb.block i (Nat.lt_trans hi (blk_lt HGk.out))⟩
     have HG1 := Lib.hid (blk_below HGk.out hb)
     have HK1 := Lib.hid (HKk.out.trans (KeepBut.of_below hb g none) (.inl rfl))
     have HL1 := Lib.hid (HLk.out.trans hbg)
     have o1 := Lib.hid (show (Tryd.prog.info? 30).map (·.size) = some (nums .u8 l).toArray.size by rw [info_id]; simp [nums, hol])
     have o2 := Lib.hid (show 2 + (nums .u8 l).toArray.size ≤ (opA q).size by rw [opA_size HQ.out]; simp [nums, hol])
     clear HGk HKk HLk hb hbg
     go_wp2_with ((refine wpList_store_mid rfl 30 _ _ rfl g 2 (nums .u8 l).toArray rfl rfl 33 (opA q) (opA { q with of_ := l }) HG1.out o1.out o2.out (one_nums l) (set_of HQ.out l hol) ?_); refine Hid.out ?_)
     refine Lib.hid ?_
     have HG2 := Lib.hid (setRow_heap w2 g _ (opA { q with of_ := l }) 33 _ HG1.out)
     have HK2 := Lib.hid (keep_setRow HK1.out (opA { q with of_ := l }))
     have HL2 := Lib.hid (below_setRow HL1.out (Nat.le_refl g) (opA { q with of_ := l }))
     have HQ2 := Lib.hid (show ({ q with of_ := l } : OpV).of_.length = 32 from hol)
     clear HG1 HK1 HL1 o1 o2 hol
     generalize w2.setRow g (opA { q with of_ := l }) = w3 at HG2 HK2 HL2 ⊢
     by_cases h0 : n2 = 0
     ·
      subst h0
      have HF2 := Lib.hid (show rnG K (form.drop (k + 1)) (ps.drop (k + 1)) { q with of_ := l } = some (r, o') from HFn.out)
      clear HFn
      go_wp2
      go_roundw
      case rel => exact ⟨k + 1, _, by omega, by go_num, HF2, HQ2, HG2, HK2, HL2⟩
      case measure => simp [intOf]; omega
     ·
      have hf := HFn.out
      rw [if_neg h0] at hf
      obtain ⟨rfl, rfl⟩ := Prod.mk.inj (Option.some.inj hf)
      have h1 : (n2 != 0) = true := by simpa using h0
      have h2 : (n2 == 0) = false := by simpa using h0
      clear hf HFn
      go_wp2
      go_ret
      exact ⟨rfl, HQ2.out, HG2.out, HK2.out, HL2.out⟩
    ·
     rw [if_neg cH] at hf
     have qN : (x.toList == [78, 65, 77, 69]) = false := by simpa using cN
     have qH : (x.toList == [72, 69, 88]) = false := by simpa using cH
     by_cases c1 : x.toList = [78]
     ·
      rw [if_pos c1] at hf
      obtain rfl := toList_lit _ _ c1
      obtain ⟨n, hM, hf⟩ := Option.bind_eq_some_iff.1 hf
      obtain ⟨n1, n2⟩ := n
      have HM := Lib.hid hM
      have HFn := Lib.hid hf
      clear hM hf c1 cN cH qN qH
      have hz1 : wr.cell? ⟨g, 34, none⟩ = some (.int .i64 q.num) := (blk_cell HGk.out 34).trans (opA_34 HQ.out)
      have hfz := blk_frozen HGk.out 34
      go_wp2_with fail
      refine (cofferref4_Number.calls K p n1 n2 _ HM.out).mono ?_
      rintro e w2 ⟨rfl, ⟨nd, rfl⟩⟩
      have HG2 := Lib.hid (blk_put (blk_drewN HGk.out nd) 34 (.int .i64 n1) (set_num HQ.out n1))
      have HK2 := Lib.hid (KeepBut.set_ (keep_drewN HKk.out nd) 34 (.int .i64 n1))
      have HL2 := Lib.hid ((pw_below_drewN HLk.out nd).setCell (p := ⟨g, 34, none⟩) (Nat.le_refl g) (.int .i64 n1))
      clear HGk HKk HLk HM
      by_cases h0 : n2 = 0
      ·
       subst h0
       have HF2 := Lib.hid (show rnG K (form.drop (k + 1)) (ps.drop (k + 1)) { q with num := n1 } = some (r, o') from HFn.out)
       clear HFn
       go_wp2
       go_roundw
       case rel => exact ⟨k + 1, _, by omega, by go_num, HF2, Lib.hid HQ.out, HG2, HK2, HL2⟩
       case measure => simp [intOf]; omega
      ·
       have hf := HFn.out
       rw [if_neg (show ¬ (n1, n2).2 = 0 from h0)] at hf
       obtain ⟨rfl, rfl⟩ := Prod.mk.inj (Option.some.inj hf)
       have h1 : (n2 != 0) = true := by simpa using h0
       have h2 : (n2 == 0) = false := by simpa using h0
       clear hf HFn
       go_wp2
       go_ret
       exact ⟨rfl, HQ.out, HG2.out, HK2.out, HL2.out⟩
     ·
      rw [if_neg c1] at hf
      have q1 : (x.toList == [78]) = false := by simpa using c1
      have HF2 := Lib.hid hf
      clear hf c1 cN cH
      go_wp2
      go_roundw
      case rel => exact ⟨k + 1, q, by omega, by go_num, HF2, HQ, HGk, HKk, HLk⟩
      case measure => simp [intOf]; omega
  ·
   obtain rfl : k = ps.length := by omega
   have hf := HFk.out
   rw [List.drop_of_length_le (by have := HLL.out; omega)] at hf
   obtain ⟨rfl, rfl⟩ := Prod.mk.inj (Option.some.inj hf)
   clear hf HFk
   go_wp2
   go_ret
   exact ⟨rfl, HQ.out, HGk.out, HKk.out, HLk.out⟩
end Go.Proofs.YtnfimhdcpmakpaaDoor.S
namespace Go.Proofs.YtnfimhdcpmakpaaDoor.S
open Go.RowKit Go.Proofs.YtnfimhdcpmakpaaDoorW.PrintWords
set_option linter.unusedVariables false
set_option linter.unusedSimpArgs false
def refV (K : Nat) (p : S91) (o : OpV) : Option (Bool × OpV) :=
 if p.f0.toList = [113, 117, 111, 116, 97] then (cofferref4_Number.f K p.f1).bind fun n => some (n.2 == 0, { o with num := n.1 })
 else if p.f0.toList = [117, 110, 116, 105, 108] then (cofferref4_Number.f K p.f1).bind fun n => some (n.2 == 0, { o with unt := n.1 })
 else if p.f0.toList = [114, 105, 103, 104, 116, 115] then (cofferref13_Parse.f K p.f1).bind fun n => some (n.2 == 0, { o with rig := n.1 })
 else (cofferref4_May.f K p.f1).bind fun b => some (b, { o with ten := p.f1 })
set_option maxHeartbeats 8000000 in
set_option maxRecDepth 100000 in
theorem rvalue_all (K : Nat) (n v : ByteArray) (g : Nat) (q : OpV) (ho : q.of_.length = 32) (w : World) (r : Bool) (o' : OpV)
  (hg : w.heap[g]? = some (.cells (opA q) 33 (0, 0))) (h : refV K ⟨n, v⟩ q = some (r, o')) :
  Calls Tryd.prog 54 #[.agg #[.string n, .string v], .pointer (some ⟨g, 0, none⟩)] w
   fun e w' => e = .returned (.bool r) ∧ o'.of_.length = 32 ∧ w'.heap[g]? = some (.cells (opA o') 33 (0, 0)) ∧ KeepBut w w' g none ∧ Below g w w' := by
 have HF := Lib.hid h
 have HG := Lib.hid hg
 have HQ := Lib.hid ho
 have HGL := Lib.hid (show g < w.heap.size from blk_lt hg)
 clear h hg ho
 go_enter Tryd.func54, Tryd.ntmps54
 go_upto_region 2 with fail
 have hb1 : Below w.heap.size w (w.alloc (.cells #[.string n, .string v] 91)) := below_alloc (Below.refl _ _) _
 have HGn := Lib.hid (blk_below HG.out hb1)
 have HKn := Lib.hid (KeepBut.of_below hb1 g none)
 have HLn := Lib.hid (lowB hb1 HGL.out)
 have f1 := heap_alloc_new w (.cells #[.string n, .string v] 91)
 have z0 : (w.alloc (.cells #[.string n, .string v] 91)).cell? ⟨w.heap.size, 0, none⟩ = some (.string n) := (blk_cell f1 0).trans rfl
 have z1 : (w.alloc (.cells #[.string n, .string v] 91)).cell? ⟨w.heap.size, 1, none⟩ = some (.string v) := (blk_cell f1 1).trans rfl
 have HNE := Lib.hid (show w.heap.size ≠ g from Nat.ne_of_gt HGL.out)
 clear hb1 HG f1
 generalize w.alloc (.cells #[.string n, .string v] 91) = wn at *
 generalize w.heap.size = g9 at z0 z1 HNE ⊢
 have hf := HF.out
 unfold refV at hf
 simp only at hf
 clear HF
 by_cases cQ : n.toList = [113, 117, 111, 116, 97]
 ·
  rw [if_pos cQ] at hf
  have pcQ : (n.toList == [113, 117, 111, 116, 97]) = true := by simpa using cQ
  obtain ⟨⟨n1, n2⟩, hM, hf⟩ := Option.bind_eq_some_iff.1 hf
  have HM := Lib.hid hM
  obtain ⟨rfl, rfl⟩ := Prod.mk.inj (Option.some.inj hf)
  clear hM hf cQ 
  go_wp2_with fail
  refine (cofferref4_Number.calls K v n1 n2 _ HM.out).mono ?_
  rintro e w2 ⟨rfl, hb⟩
  obtain ⟨nd, rfl⟩ := hb
  have hb : Below wn.heap.size wn (wn.drewN nd) := pw_below_drewN (Below.refl _ _) nd
  generalize wn.drewN nd = w2 at hb ⊢
  have HK2 := Lib.hid (KeepBut.set_ (HKn.out.trans (KeepBut.of_below hb g none) (.inl rfl)) 34 (.int .i64 n1))
  have HL2 := Lib.hid ((HLn.out.trans (lowB hb (blk_lt HGn.out))).setCell (p := ⟨g, 34, none⟩) (Nat.le_refl g) (.int .i64 n1))
  have hz1 : w2.cell? ⟨g, 34, none⟩ = some (.int .i64 q.num) := (blk_cell (blk_below HGn.out hb) 34).trans (opA_34 HQ.out)
  have hfz := blk_frozen (blk_below HGn.out hb) 34
  have HG2 := Lib.hid (blk_put (blk_below HGn.out hb) 34 (.int .i64 n1) (set_num HQ.out n1))
  clear HGn HKn HLn HM hb z0 z1 HGL
  go_wp2
  go_ret
  exact ⟨rfl, HQ.out, HG2.out, HK2.out, HL2.out⟩
 have qcQ : (n.toList == [113, 117, 111, 116, 97]) = false := by simpa using cQ
 rw [if_neg cQ] at hf
 by_cases cU : n.toList = [117, 110, 116, 105, 108]
 ·
  rw [if_pos cU] at hf
  have pcU : (n.toList == [117, 110, 116, 105, 108]) = true := by simpa using cU
  obtain ⟨⟨n1, n2⟩, hM, hf⟩ := Option.bind_eq_some_iff.1 hf
  have HM := Lib.hid hM
  obtain ⟨rfl, rfl⟩ := Prod.mk.inj (Option.some.inj hf)
  clear hM hf cU cQ
  go_wp2_with fail
  refine (cofferref4_Number.calls K v n1 n2 _ HM.out).mono ?_
  rintro e w2 ⟨rfl, hb⟩
  obtain ⟨nd, rfl⟩ := hb
  have hb : Below wn.heap.size wn (wn.drewN nd) := pw_below_drewN (Below.refl _ _) nd
  generalize wn.drewN nd = w2 at hb ⊢
  have HK2 := Lib.hid (KeepBut.set_ (HKn.out.trans (KeepBut.of_below hb g none) (.inl rfl)) 35 (.int .i64 n1))
  have HL2 := Lib.hid ((HLn.out.trans (lowB hb (blk_lt HGn.out))).setCell (p := ⟨g, 35, none⟩) (Nat.le_refl g) (.int .i64 n1))
  have hz1 : w2.cell? ⟨g, 35, none⟩ = some (.int .i64 q.unt) := (blk_cell (blk_below HGn.out hb) 35).trans (opA_35 HQ.out)
  have hfz := blk_frozen (blk_below HGn.out hb) 35
  have HG2 := Lib.hid (blk_put (blk_below HGn.out hb) 35 (.int .i64 n1) (set_unt HQ.out n1))
  clear HGn HKn HLn HM hb z0 z1 HGL
  go_wp2
  go_ret
  exact ⟨rfl, HQ.out, HG2.out, HK2.out, HL2.out⟩
 have qcU : (n.toList == [117, 110, 116, 105, 108]) = false := by simpa using cU
 rw [if_neg cU] at hf
 by_cases cR : n.toList = [114, 105, 103, 104, 116, 115]
 ·
  rw [if_pos cR] at hf
  have pcR : (n.toList == [114, 105, 103, 104, 116, 115]) = true := by simpa using cR
  obtain ⟨⟨n1, n2⟩, hM, hf⟩ := Option.bind_eq_some_iff.1 hf
  have HM := Lib.hid hM
  obtain ⟨rfl, rfl⟩ := Prod.mk.inj (Option.some.inj hf)
  clear hM hf cR cQ cU
  go_wp2_with fail
  refine (cofferref13_Parse.calls K v n1 n2 _ HM.out).mono ?_
  rintro e w2 ⟨rfl, hb⟩
  obtain ⟨nd, rfl⟩ := hb
  have hb : Below wn.heap.size wn (wn.drewN nd) := pw_below_drewN (Below.refl _ _) nd
  generalize wn.drewN nd = w2 at hb ⊢
  have HK2 := Lib.hid (KeepBut.set_ (HKn.out.trans (KeepBut.of_below hb g none) (.inl rfl)) 36 (.int .u8 n1))
  have HL2 := Lib.hid ((HLn.out.trans (lowB hb (blk_lt HGn.out))).setCell (p := ⟨g, 36, none⟩) (Nat.le_refl g) (.int .u8 n1))
  have hz1 : w2.cell? ⟨g, 36, none⟩ = some (.int .u8 q.rig) := (blk_cell (blk_below HGn.out hb) 36).trans (opA_36 HQ.out)
  have hfz := blk_frozen (blk_below HGn.out hb) 36
  have HG2 := Lib.hid (blk_put (blk_below HGn.out hb) 36 (.int .u8 n1) (set_rig HQ.out n1))
  clear HGn HKn HLn HM hb z0 z1 HGL
  go_wp2
  go_ret
  exact ⟨rfl, HQ.out, HG2.out, HK2.out, HL2.out⟩
 have qcR : (n.toList == [114, 105, 103, 104, 116, 115]) = false := by simpa using cR
 rw [if_neg cR] at hf
 obtain ⟨b, hM, hf⟩ := Option.bind_eq_some_iff.1 hf
 have HM := Lib.hid hM
 obtain ⟨rfl, rfl⟩ := Prod.mk.inj (Option.some.inj hf)
 clear hM hf cQ cU cR
 have hz1 : wn.cell? ⟨g, 1, none⟩ = some (.string q.ten) := (blk_cell HGn.out 1).trans (opA_1 HQ.out)
 have hfz := blk_frozen HGn.out 1
 have hz2 : ∀ u, (wn.setCell ⟨g, 1, none⟩ u).cell? ⟨g9, 1, none⟩ = some (.string v) := fun u => keep_cell (KeepBut.set_ (KeepBut.refl wn g none) 1 u) z1 HNE.out
 go_wp2_with fail
 refine (cofferref4_May.calls K v b _ HM.out).mono ?_
 rintro e w2 ⟨rfl, ⟨nd, rfl⟩⟩
 have HG2 := Lib.hid (blk_drewN (blk_put HGn.out 1 (.string v) (set_ten HQ.out v)) nd)
 have HK2 := Lib.hid (keep_drewN (KeepBut.set_ HKn.out 1 (.string v)) nd)
 have HL2 := Lib.hid (pw_below_drewN (HLn.out.setCell (p := ⟨g, 1, none⟩) (Nat.le_refl g) (.string v)) nd)
 clear HGn HKn HLn HM z0 z1 hz1 hz2 hfz
 go_wp2
 go_ret
 exact ⟨rfl, HQ.out, HG2.out, HK2.out, HL2.out⟩
end Go.Proofs.YtnfimhdcpmakpaaDoor.S
namespace Go.Proofs.YtnfimhdcpmakpaaDoor.S
open Go.RowKit Go.Proofs.YtnfimhdcpmakpaaDoorW.PrintWords
set_option linter.unusedVariables false
set_option linter.unusedSimpArgs false
def prM (K : Nat) (q : List S91) : List ByteArray → Option Bool
 | [] => some true
 | m :: ms => (cofferref21_Get.f K [] q m).bind fun z => if z.2 = true then prM K q ms else some false
def prV (K : Nat) (must may : List ByteArray) : List S91 → OpV → Option (Bool × OpV)
 | [], o => some (true, o)
 | p :: ps, o => (cofferref26_has.f K must p.f0).bind fun a => if a = true then ((refV K p o).bind fun z => if z.1 = true then prV K must may ps z.2 else some (false, z.2)) else
   (cofferref26_has.f K may p.f0).bind fun b => if b = true then ((refV K p o).bind fun z => if z.1 = true then prV K must may ps z.2 else some (false, z.2)) else some (false, o)
theorem prV_of (K : Nat) {must may : List ByteArray} {p : S91} {ps : List S91} {o : OpV} : prV K must may (p :: ps) o = (cofferref26_has.f K must p.f0).bind fun a => if a = true then ((refV K p o).bind fun z => if z.1 = true then prV K must may ps z.2 else some (false, z.2)) else
   (cofferref26_has.f K may p.f0).bind fun b => if b = true then ((refV K p o).bind fun z => if z.1 = true then prV K must may ps z.2 else some (false, z.2)) else some (false, o) := rfl
def prR (K : Nat) (x2 x3 : ByteArray) (q : List S91) (o : OpV) : Option (Bool × OpV) :=
 (cofferref26_cut.f K x2 44).bind fun must => (cofferref26_cut.f K x3 44).bind fun may => if must.length ≤ 1048576 ∧ q.length ≤ 1048576 then ((prM K q must).bind fun b => if b = true then prV K must may q o else some (false, o)) else none
theorem notexts (w : World) : Kd.C Kd.string w none ([] : List ByteArray).length [] := ⟨rfl, by decide, fun h => absurd h (by decide)⟩
set_option maxHeartbeats 8000000 in
set_option maxRecDepth 100000 in
theorem rparams_all (K : Nat) (x0 x1 x2 x3 : ByteArray) (x4 : Int) (g : Nat) (o : OpV) (ho : o.of_.length = 32) (A : Option Addr) (c : Nat) (l : List S91) (w : World) (r : Bool) (o' : OpV)
  (hg : w.heap[g]? = some (.cells (opA o) 33 (0, 0))) (hp : Kd.C k91 w A l.length l) (hc : l.length ≤ c) (hA : ∀ ad, A = some ad → ad.block ≠ g) (h : prR K x2 x3 l o = some (r, o')) :
  Calls Tryd.prog 30 #[.agg #[.string x0, .string x1, .string x2, .string x3, .int .i64 x4], .slice A l.length c, .pointer (some ⟨g, 0, none⟩)] w
   fun e w' => e = .returned (.bool r) ∧ o'.of_.length = 32 ∧ w'.heap[g]? = some (.cells (opA o') 33 (0, 0)) ∧ KeepBut w w' g none ∧ Below g w w' := by
 have HA := Lib.hid hA
 have HP := Lib.hid hp
 have HG := Lib.hid hg
 have HOL := Lib.hid ho
 have HGL := Lib.hid (show g < w.heap.size from blk_lt hg)
 unfold prR at h
 obtain ⟨must, h1, h⟩ := Option.bind_eq_some_iff.1 h
 obtain ⟨may, h2, h⟩ := Option.bind_eq_some_iff.1 h
 by_cases hll : must.length ≤ 1048576 ∧ l.length ≤ 1048576
 rotate_left
 ·
  rw [if_neg hll] at h; cases h
 rw [if_pos hll] at h
 obtain ⟨hlm, hll⟩ := hll
 obtain ⟨b, h3, h⟩ := Option.bind_eq_some_iff.1 h
 have H1 := Lib.hid h1
 have H2 := Lib.hid h2
 have H3 := Lib.hid h3
 have H4 := Lib.hid h
 clear hA hp h hg ho h1 h2 h3
 go_enter Tryd.func30, Tryd.ntmps30
 go_upto_region 1 with fail
 have hb1 : Below w.heap.size w (w.alloc (.cells #[.string x0, .string x1, .string x2, .string x3, .int .i64 x4] 67)) := below_alloc (Below.refl _ _) _
 have f1 := heap_alloc_new w (.cells #[.string x0, .string x1, .string x2, .string x3, .int .i64 x4] 67)
 have z2 : (w.alloc (.cells #[.string x0, .string x1, .string x2, .string x3, .int .i64 x4] 67)).cell? ⟨w.heap.size, 2, none⟩ = some (.string x2) := (blk_cell f1 2).trans rfl
 have z3 : (w.alloc (.cells #[.string x0, .string x1, .string x2, .string x3, .int .i64 x4] 67)).cell? ⟨w.heap.size, 3, none⟩ = some (.string x3) := (blk_cell f1 3).trans rfl
 have HB0 := Lib.hid hb1
 clear hb1 f1
 generalize w.alloc (.cells #[.string x0, .string x1, .string x2, .string x3, .int .i64 x4] 67) = w1 at *
 have HX := Lib.hid (fun (w' : World) (hb : Below w1.heap.size w1 w') => (⟨pw_cell_below hb z2, pw_cell_below hb z3, hb⟩ : (w'.cell? ⟨w.heap.size, 2, none⟩ = some (.string x2) ∧ w'.cell? ⟨w.heap.size, 3, none⟩ = some (.string x3) ∧ Below w1.heap.size w1 w')))
 clear z2 z3
 go_region_held3 (fun w' => w'.cell? ⟨w.heap.size, 2, none⟩ = some (.string x2) ∧ w'.cell? ⟨w.heap.size, 3, none⟩ = some (.string x3) ∧ Below w1.heap.size w1 w')
  (first | exact HX.out _ (Below.refl _ _).drew | exact HX.out _ (bthen (last3 (by assumption)) (by assumption)) | assumption)
  (first
   | (go_at_call 27; with_reducible refine (cofferref26_cut.calls K x2 44 must _ H1.out).mono ?_; rintro e2 w2 ⟨v2, rfl, r2, hb2⟩; obtain ⟨A2, n2, ev2⟩ := Kd.R_slice r2; subst ev2; have RM := Lib.hid r2; clear r2; have HWS := Lib.hid (last3 (by assumption) : Below w1.heap.size w1 _))
   | (go_at_call 27; with_reducible refine (cofferref26_cut.calls K x3 44 may _ H2.out).mono ?_; rintro e3 w3 ⟨v3, rfl, r3, hb3⟩; obtain ⟨A3, n3, ev3⟩ := Kd.R_slice r3; subst ev3; have RY := Lib.hid r3; clear r3))
 have hw3 : Below w1.heap.size w1 w3 := last3 (by assumption)
 have HB := Lib.hid (below_then HB0.out HB0.out.size hw3)
 have hs2 : w.heap.size ≤ w2.heap.size := Nat.le_trans HB0.out.size (show w1.heap.size ≤ w2.heap.size from hb2.size)
 replace RM := Lib.hid (Kd.R_lower (Kd.R_below RM.out hb3) (show w.heap.size ≤ _ from HB0.out.size))
 replace RY := Lib.hid (Kd.R_lower RY.out hs2)
 clear hw3 hs2 hb2 hb3 HX HB0 H1 H2 HWS
 go_wp2_with fail
 go_loopw [9] (fun i wr => ∃ (k : Nat), k ≤ must.length ∧ i = .int .i64 k ∧ Hid (prM K l (must.drop k) = some b) ∧ Hid (Kd.R Kd.string 9 wr w.heap.size (fun _ => True) (.slice A2 must.length n2) must) ∧ Hid (Kd.R Kd.string 9 wr w.heap.size (fun _ => True) (.slice A3 may.length n3) may) ∧ Hid (Below w.heap.size w wr)) (fun i _ => must.length - (intOf i).toNat)
 case atStart => exact ⟨0, by omega, rfl, H3, RM, RY, HB⟩
 case round =>
  clear H3 RM RY HB
  obtain ⟨k, hk, rfl, HM, RM, RY, HB⟩ := hrel
  by_cases hlt : k < must.length
  ·
   obtain ⟨ad, e0, hx⟩ := Kd.at_string (Kd.R_reads' RM.out).2.2 (k : Int) (by omega) (by omega)
   unfold rdOf at hx
   rw [Int.toNat_natCast] at hx
   have hdm : must.drop k = must.getD k ByteArray.empty :: must.drop (k + 1) := by rw [List.drop_eq_getElem_cons hlt, List.getD_eq_getElem?_getD, List.getElem?_eq_getElem hlt]; rfl
   have hm := HM.out
   rw [hdm, prM] at hm
   generalize must.getD k ByteArray.empty = x at *
   clear hdm HM
   cases e0
   obtain ⟨⟨s1, is⟩, hG, hm⟩ := Option.bind_eq_some_iff.1 hm
   have HGt := Lib.hid hG
   have HM := Lib.hid hm
   clear hG hm
   go_wp2_with fail
   refine (cofferref21_Get.calls K none 0 [] A c l x s1 is _ (notexts _) (Nat.le_refl _) (Kd.C_below HP.out HB.out) hc HGt.out).mono ?_
   rintro _ w5 ⟨rfl, hb⟩
   replace RM := Lib.hid (Kd.R_below RM.out hb)
   replace RY := Lib.hid (Kd.R_below RY.out hb)
   replace HB := Lib.hid (below_then HB.out HB.out.size hb)
   clear hx hb HGt
   cases is
   ·
    have hm := HM.out
    rw [if_neg (by decide)] at hm
    obtain rfl := Option.some.inj hm
    have h4 := H4.out
    rw [if_neg (by decide)] at h4
    obtain ⟨rfl, rfl⟩ := Prod.mk.inj (Option.some.inj h4)
    clear hm h4 HM H4
    go_wp2
    go_ret
    exact ⟨rfl, HOL.out, blk_below HG.out HB.out, KeepBut.of_below HB.out g none, lowB HB.out HGL.out⟩
   ·
    have HM2 := Lib.hid (show prM K l (must.drop (k + 1)) = some b from HM.out)
    clear HM
    go_wp2
    go_roundw
    case rel => exact ⟨k + 1, by omega, by go_num, HM2, RM, RY, HB⟩
    case measure => simp [intOf]; omega
  ·
   obtain rfl : k = must.length := by omega
   have hm := HM.out
   rw [List.drop_length] at hm
   obtain rfl := Option.some.inj hm
   have h4 := H4.out
   rw [if_pos rfl] at h4
   have HV0 := Lib.hid h4
   have HG0 := Lib.hid (blk_below HG.out HB.out)
   have HK0 := Lib.hid (KeepBut.of_below HB.out g none)
   have HL0 := Lib.hid (lowB HB.out HGL.out)
   clear hm h4 HM H4 hlm hk hlt HB
   go_wp2_with fail
   go_loopw [12] (fun i wr => ∃ (k : Nat) (q : OpV), k ≤ l.length ∧ i = .int .i64 k ∧ Hid (prV K must may (l.drop k) q = some (r, o')) ∧ Hid (q.of_.length = 32) ∧ Hid (wr.heap[g]? = some (.cells (opA q) 33 (0, 0))) ∧ Hid (Kd.R Kd.string 9 wr w.heap.size (fun _ => True) (.slice A2 must.length n2) must) ∧ Hid (Kd.R Kd.string 9 wr w.heap.size (fun _ => True) (.slice A3 may.length n3) may) ∧ Hid (KeepBut w wr g none) ∧ Hid (Below g w wr)) (fun i _ => l.length - (intOf i).toNat)
   case atStart => exact ⟨0, o, by omega, rfl, HV0, HOL, HG0, RM, RY, HK0, HL0⟩
   case round =>
    clear HV0 HG0 RM RY HK0 HL0
    obtain ⟨k, q, hk, rfl, HV, HQ, HGk, RM, RY, HKk, HLk⟩ := hrel
    by_cases hlt : k < l.length
    ·
     obtain ⟨ad, e0, y0, y1⟩ := at_T91 HP.out (k : Int) (by omega) (by omega)
     unfold rd_T91 at y0 y1
     rw [Int.toNat_natCast] at y0 y1
     have hne : ad.block ≠ g := HA.out ad e0
     replace y0 := keep_cell HKk.out y0 (by rw [add_block]; exact hne)
     replace y1 := keep_cell HKk.out y1 (by show (ad.add _).block ≠ g; rw [add_block]; exact hne)
     have hdl : l.drop k = l.getD k z91 :: l.drop (k + 1) := by rw [List.drop_eq_getElem_cons hlt, List.getD_eq_getElem?_getD, List.getElem?_eq_getElem hlt]; rfl
     have hf := HV.out
     rw [hdl, prV_of] at hf
     generalize l.getD k z91 = p at *
     obtain ⟨n, v⟩ := p
     clear hdl HV hne
     simp only at hf y0 y1
     cases e0
     obtain ⟨a, ha, hf⟩ := Option.bind_eq_some_iff.1 hf
     have HAA := Lib.hid ha
     have HF := Lib.hid hf
     clear ha hf
     have HGo := HGk
     have HKo := HKk
     have HLo := HLk
     clear HGk HKk HLk
     go_wp2_with fail
     refine (cofferref26_has.calls K A2 n2 must n a _ (Kd.R_reads' RM.out).2.2 (Kd.R_reads' RM.out).2.1 HAA.out).mono ?_
     rintro _ w5 ⟨rfl, hb⟩
     obtain ⟨nd, rfl⟩ := hb
     have hb : Below wr.heap.size wr (wr.drewN nd) := pw_below_drewN (Below.refl _ _) nd
     have y0 := pw_cell_below hb y0
     have y1 := pw_cell_below hb y1
     replace RM := Lib.hid (Kd.R_below RM.out hb)
     replace RY := Lib.hid (Kd.R_below RY.out hb)
     have HGn := Lib.hid (blk_below HGo.out hb)
     have HKn := Lib.hid (HKo.out.trans (KeepBut.of_below hb g none) (.inl rfl))
     have HLn := Lib.hid (HLo.out.trans (lowB hb (blk_lt HGo.out)))
     clear HGo HKo HLo
     generalize wr.drewN nd = w6 at *
     clear hb
     cases a
     ·
      have hf := HF.out
      rw [if_neg (by decide)] at hf
      obtain ⟨b, hb, hf⟩ := Option.bind_eq_some_iff.1 hf
      have HBB := Lib.hid hb
      replace HF := Lib.hid hf
      clear hb hf HAA
      have HGo := HGn
      have HKo := HKn
      have HLo := HLn
      clear HGn HKn HLn
      go_wp2_with fail
      refine (cofferref26_has.calls K A3 n3 may n b _ (Kd.R_reads' RY.out).2.2 (Kd.R_reads' RY.out).2.1 HBB.out).mono ?_
      rintro _ w7 ⟨rfl, hb⟩
      obtain ⟨nd, rfl⟩ := hb
      have hb : Below w6.heap.size w6 (w6.drewN nd) := pw_below_drewN (Below.refl _ _) nd
      have y0 := pw_cell_below hb y0
      have y1 := pw_cell_below hb y1
      replace RM := Lib.hid (Kd.R_below RM.out hb)
      replace RY := Lib.hid (Kd.R_below RY.out hb)
      have HGn := Lib.hid (blk_below HGo.out hb)
      have HKn := Lib.hid (HKo.out.trans (KeepBut.of_below hb g none) (.inl rfl))
      have HLn := Lib.hid (HLo.out.trans (lowB hb (blk_lt HGo.out)))
      clear HGo HKo HLo
      generalize w6.drewN nd = w7 at *
      clear hb
      cases b
      ·
       have hf := HF.out
       rw [if_neg (by decide)] at hf
       obtain ⟨rfl, rfl⟩ := Prod.mk.inj (Option.some.inj hf)
       clear hf HF HBB
       go_wp2
       go_ret
       exact ⟨rfl, HQ.out, HGn.out, HKn.out, HLn.out⟩
      ·
       have hf := HF.out
       rw [if_pos rfl] at hf
       obtain ⟨⟨z1, z2⟩, hz, hf⟩ := Option.bind_eq_some_iff.1 hf
       have HZ := Lib.hid hz
       replace HF := Lib.hid hf
       clear hz hf HBB
       go_wp2_with fail
       refine (rvalue_all K n v g q HQ.out w7 z1 z2 HGn.out HZ.out).mono ?_
       rintro _ w8 ⟨rfl, hq2, hg2, hk2, hl2⟩
       replace RM := Lib.hid (Kd.R_mono (Kd.R_keep (Kd.R_types RM.out HGn.out (by decide)) hk2 (fun _ hk => hk.2)) (fun _ hk => hk.1))
       replace RY := Lib.hid (Kd.R_mono (Kd.R_keep (Kd.R_types RY.out HGn.out (by decide)) hk2 (fun _ hk => hk.2)) (fun _ hk => hk.1))
       have HK2 := Lib.hid (HKn.out.trans hk2 (.inl rfl))
       have HL2 := Lib.hid (HLn.out.trans hl2)
       have HQ2 := Lib.hid hq2
       have HG2 := Lib.hid hg2
       clear hq2 hg2 hk2 hl2 HGn HKn HLn HZ y0 y1 HGL
       cases z1
       ·
        have hf := HF.out
        rw [if_neg (by simp)] at hf
        obtain ⟨rfl, rfl⟩ := Prod.mk.inj (Option.some.inj hf)
        clear hf HF
        go_wp2
        go_ret
        exact ⟨rfl, HQ2.out, HG2.out, HK2.out, HL2.out⟩
       ·
        have HF2 := Lib.hid (show prV K must may (l.drop (k + 1)) z2 = some (r, o') from HF.out)
        clear HF
        go_wp2
        go_roundw
        case rel => exact ⟨k + 1, z2, by omega, by go_num, HF2, HQ2, HG2, RM, RY, HK2, HL2⟩
        case measure => simp [intOf]; omega
     ·
      have hf := HF.out
      rw [if_pos rfl] at hf
      obtain ⟨⟨z1, z2⟩, hz, hf⟩ := Option.bind_eq_some_iff.1 hf
      have HZ := Lib.hid hz
      replace HF := Lib.hid hf
      clear hz hf HAA
      go_wp2_with fail
      refine (rvalue_all K n v g q HQ.out w6 z1 z2 HGn.out HZ.out).mono ?_
      rintro _ w8 ⟨rfl, hq2, hg2, hk2, hl2⟩
      replace RM := Lib.hid (Kd.R_mono (Kd.R_keep (Kd.R_types RM.out HGn.out (by decide)) hk2 (fun _ hk => hk.2)) (fun _ hk => hk.1))
      replace RY := Lib.hid (Kd.R_mono (Kd.R_keep (Kd.R_types RY.out HGn.out (by decide)) hk2 (fun _ hk => hk.2)) (fun _ hk => hk.1))
      have HK2 := Lib.hid (HKn.out.trans hk2 (.inl rfl))
      have HL2 := Lib.hid (HLn.out.trans hl2)
      have HQ2 := Lib.hid hq2
      have HG2 := Lib.hid hg2
      clear hq2 hg2 hk2 hl2 HGn HKn HLn HZ y0 y1 HGL
      cases z1
      ·
       have hf := HF.out
       rw [if_neg (by simp)] at hf
       obtain ⟨rfl, rfl⟩ := Prod.mk.inj (Option.some.inj hf)
       clear hf HF
       go_wp2
       go_ret
       exact ⟨rfl, HQ2.out, HG2.out, HK2.out, HL2.out⟩
      ·
       have HF2 := Lib.hid (show prV K must may (l.drop (k + 1)) z2 = some (r, o') from HF.out)
       clear HF
       go_wp2
       go_roundw
       case rel => exact ⟨k + 1, z2, by omega, by go_num, HF2, HQ2, HG2, RM, RY, HK2, HL2⟩
       case measure => simp [intOf]; omega
    ·
     obtain rfl : k = l.length := by omega
     have hf := HV.out
     rw [List.drop_length] at hf
     obtain ⟨rfl, rfl⟩ := Prod.mk.inj (Option.some.inj hf)
     clear hf HV
     go_wp2
     go_ret
     exact ⟨rfl, HQ.out, HGk.out, HKk.out, HLk.out⟩
end Go.Proofs.YtnfimhdcpmakpaaDoor.S
