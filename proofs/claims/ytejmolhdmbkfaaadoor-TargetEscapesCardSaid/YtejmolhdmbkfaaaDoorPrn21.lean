/-
  target.Print, walked.
-/
import Derived.Test.YtejmolhdmbkfaaaDoorMay21
namespace Go.Proofs.YtejmolhdmbkfaaaDoor.S
open Go.RowKit Go.Proofs.YtejmolhdmbkfaaaDoorW.PrintWords
set_option linter.unusedVariables false
set_option linter.unusedSimpArgs false
def pathL : List ByteArray → List UInt8
  | [] => []
  | s :: r => 47 :: (escL s.data.toList ++ pathL r)
def parL (p : S32) : List UInt8 := escL p.f0.data.toList ++ 61 :: escL p.f1.data.toList
def queryL (m : UInt8) : List S32 → List UInt8
  | [] => []
  | p :: r => m :: (parL p ++ queryL 38 r)
def pathS (l0 : List ByteArray) : List UInt8 := pathL l0 ++ (if l0.length = 0 then [47] else [])
def printL (l0 : List ByteArray) (l1 : List S32) : List UInt8 := pathS l0 ++ queryL 63 l1
theorem pathL_snoc (l : List ByteArray) (s : ByteArray) : pathL (l ++ [s]) = pathL l ++ 47 :: escL s.data.toList := by
  induction l with
  | nil => simp [pathL]
  | cons a l ih => simp [pathL, ih]
def markAt (k : Nat) : UInt8 := if k = 0 then 63 else 38
theorem queryL_snoc (l : List S32) (p : S32) : ∀ m, queryL m (l ++ [p]) = queryL m l ++ (if l.length = 0 then m else 38) :: parL p := by
  induction l with
  | nil => intro m; simp [queryL]
  | cons a l ih => intro m; simp [queryL, ih]
def smallS (l0 : List ByteArray) (l1 : List S32) : Bool := (l0.all fun s => decide (s.size ≤ 100000)) && (l1.all fun p => decide (p.f0.size ≤ 100000) && decide (p.f1.size ≤ 100000)) && decide ((printL l0 l1).length ≤ 300000)
def xPrint.f (l0 : List ByteArray) (l1 : List S32) : Option (ByteArray × Int) :=
  (xMay.f l0 l1).bind fun b => if b = true then (if smallS l0 l1 = true then some (⟨(printL l0 l1).toArray⟩, 0) else none) else some (⟨#[]⟩, 1)
theorem pathL_take (l : List ByteArray) (k : Nat) : (pathL (l.take k)).length ≤ (pathL l).length := by
  induction l generalizing k with
  | nil => simp [pathL]
  | cons a l ih =>
    cases k with
    | zero => simp [pathL]
    | succ k => have := ih k; simp [pathL]; omega
theorem queryL_take (l : List S32) : ∀ (k : Nat) (m : UInt8), (queryL m (l.take k)).length ≤ (queryL m l).length := by
  induction l with
  | nil => simp [queryL]
  | cons a l ih =>
    intro k m
    cases k with
    | zero => simp [queryL]
    | succ k => have := ih k 38; simp [queryL]; omega
theorem bb_below {b : Nat} {l : List UInt8} {w w1 : World} (h : BB b l w) (hb : Below w.heap.size w w1) : BB b l w1 := by
  have key : ∀ p, Lib.BuilderAt 54 5 b b p (Lib.byteCells l) w → Lib.BuilderAt 54 5 b b p (Lib.byteCells l) w1 := fun p ⟨h1, v, h2, h3, h4⟩ =>
    ⟨h1, v, (hb.block _ (lt_of_block h2)).trans h2, own_move h3 (fun k hk => hb.block k (own_lt h3 k hk)), h4⟩
  exact h.imp (key _) (key _)
theorem kb_below {b : Nat} {w0 w w1 : World} (h : KeptB b w0 w) (hb : Below w.heap.size w w1) (hs : b ≤ w.heap.size) : KeptB b w0 w1 :=
  ⟨h.1.trans (hb.mono hs), h.2.trans fun k o hk _ _ => (hb.block k (lt_of_block hk)).trans hk⟩
theorem bb_fresh (w : World) : BB w.heap.size [] (w.alloc (.cells #[.pointer none, .slice none 0 0] 54)) := Lib.fresh_isBuilder _ _ w
set_option maxHeartbeats 4000000 in
set_option maxRecDepth 100000 in
theorem xPrint.calls (A0 : Option Addr) (c0 : Nat) (l0 : List ByteArray) (A1 : Option Addr) (c1 : Nat) (l1 : List S32) (r1 : ByteArray) (r2 : Int) (w : World) (hr0 : Kd.C Kd.string w A0 l0.length l0) (hc0 : l0.length ≤ c0) (hr1 : Kd.C k32 w A1 l1.length l1) (hc1 : l1.length ≤ c1) (hf : xPrint.f l0 l1 = some (r1, r2)) :
    Calls Tryd.prog 13 #[.agg #[.slice A0 l0.length c0, .slice A1 l1.length c1]] w fun e w' => e = .returned (.tuple #[.string r1, .int .i64 r2]) ∧ Below w.heap.size w w' := by
  unfold xPrint.f at hf
  obtain ⟨bm, hm, h⟩ := Option.bind_eq_some_iff.1 hf
  clear hf
  have hlen : l0.length ≤ 1048576 ∧ l1.length ≤ 1048576 := by
    unfold xMay.f at hm
    by_cases hc : smallQ l1 = true ∧ l0.length ≤ 1048576 ∧ l1.length ≤ 1048576
    · exact hc.2
    · rw [if_neg hc] at hm; cases hm
  obtain ⟨hL0, hL1⟩ := hlen
  have HR0 := Lib.hid hr0
  have HR1 := Lib.hid hr1
  have cM : Hid (∀ w1, Below w.heap.size w w1 → Calls Tryd.prog 17 #[.agg #[.slice A0 l0.length c0, .slice A1 l1.length c1]] w1 fun e w' => e = .returned (.bool bm) ∧ Below w1.heap.size w1 w') := Lib.hid fun w1 hb => xMay.calls A0 c0 l0 A1 c1 l1 bm w1 (Kd.C_below HR0.out hb) hc0 (Kd.C_below HR1.out hb) hc1 hm
  have cW := Lib.hid byte_any
  have cE := Lib.hid write_any
  clear hm hr0 hr1
  go_enter Tryd.func13, Tryd.ntmps13
  have hb0 : Below w.heap.size w (w.alloc (.cells #[.slice A0 l0.length c0, .slice A1 l1.length c1] 26)) := below_alloc (Below.refl _ _) _
  have hx0 : (w.alloc (.cells #[.slice A0 l0.length c0, .slice A1 l1.length c1] 26)).heap[w.heap.size]? = some (.cells #[.slice A0 l0.length c0, .slice A1 l1.length c1] 26 (0, 0)) := heap_alloc_new w _
  have HX0 := Lib.hid hx0
  clear hx0
  go_wp2_with fail
  generalize w.alloc (.cells #[.slice A0 l0.length c0, .slice A1 l1.length c1] 26) = w0 at *
  refine (cM.out _ hb0).mono ?_
  rintro e w1 ⟨rfl, hb1⟩
  replace HX0 := Lib.hid ((hb1.block _ (lt_of_block HX0.out)).trans HX0.out)
  replace hb0 := bthen hb0 hb1
  clear hb1 cM
  rcases bm with _ | _
  · obtain ⟨rfl, rfl⟩ := Prod.mk.inj (Option.some.inj h)
    clear h
    go_wp2
    go_ret2
    exact ⟨rfl, hb0⟩
  · by_cases hsm : smallS l0 l1 = true
    · rw [if_pos rfl, if_pos hsm] at h
      obtain ⟨rfl, rfl⟩ := Prod.mk.inj (Option.some.inj h)
      clear h
      simp only [smallS, Bool.and_eq_true, decide_eq_true_eq, List.all_eq_true] at hsm
      obtain ⟨⟨hsP, hsQ⟩, hsL⟩ := hsm
      have HSP := Lib.hid hsP
      have HSQ := Lib.hid hsQ
      have hpl : (pathS l0).length + (queryL 63 l1).length ≤ 300000 := by unfold printL at hsL; simpa using hsL
      have hpp : (pathL l0).length ≤ (pathS l0).length := by unfold pathS; simp
      have HFIN := Lib.hid (rfl : printL l0 l1 = printL l0 l1)
      clear hsP hsQ hsL
      have x0 : w1.cell? ⟨w.heap.size, 0, none⟩ = some (.slice A0 l0.length c0) := by have := HX0.out; simp only [World.cell?, this]; rfl
      have x1 : w1.cell? ⟨w.heap.size, 1, none⟩ = some (.slice A1 l1.length c1) := by have := HX0.out; simp only [World.cell?, this]; rfl
      have hwb := bb_fresh w1
      have hbb : Below w1.heap.size w1 (w1.alloc (.cells #[.pointer none, .slice none 0 0] 54)) := below_alloc (Below.refl _ _) _
      have hlb : w1.heap.size < (w1.alloc (.cells #[.pointer none, .slice none 0 0] 54)).heap.size := by simp
      replace x0 := pw_cell_below hbb x0
      replace x1 := pw_cell_below hbb x1
      go_wp2_with fail
      generalize w1.alloc (.cells #[.pointer none, .slice none 0 0] 54) = wb at *
      have h01 : w.heap.size < w1.heap.size := lt_of_block HX0.out
      replace hb0 := bthen hb0 hbb
      generalize w1.heap.size = b at *
      have HWB := Lib.hid hwb
      have X0 := Lib.hid x0
      have X1 := Lib.hid x1
      clear hwb hbb x0 x1 HX0
      go_loopw [16] (fun i wr => ∃ k : Nat, k ≤ l0.length ∧ i = .int .i64 k ∧ BB b (pathL (l0.take k)) wr ∧ KeptB b wb wr) (fun i _ => l0.length - (intOf i).toNat)
      case atStart => exact ⟨0, by omega, rfl, HWB.out, KeptB.refl _ _⟩
      case round =>
        obtain ⟨k, hk, rfl, HB, HK⟩ := hrel
        rename_i wr
        have hbr : Below w.heap.size w wr := hb0.trans (HK.1.mono (Nat.le_of_lt h01))
        have hlr : b < wr.heap.size := Nat.lt_of_lt_of_le hlb HK.1.size
        by_cases hlt : k < l0.length
        · obtain ⟨ad, e0, hx⟩ := Kd.at_string HR0.out (k : Int) (by omega) (by omega)
          have htk := List.take_succ_eq_append_getElem hlt
          unfold rdOf at hx
          rw [Int.toNat_natCast, List.getD_eq_getElem?_getD, List.getElem?_eq_getElem hlt] at hx
          replace hx := pw_cell_below hbr hx
          have hpt := pathL_take l0 k
          have hsz := HSP.out l0[k] (List.getElem_mem hlt)
          dsimp only [Option.getD_some] at hx
          generalize l0[k] = s at *
          have HTK := Lib.hid htk
          have HBh := Lib.hid HB
          have HKh := Lib.hid HK
          cases e0
          clear htk HB HK
          go_wp2_with fail
          refine (cW.out b _ 47 _ HBh.out (by omega)).mono ?_
          rintro e w2 ⟨rfl, hb2, hk2⟩
          have HB2 := Lib.hid hb2
          have HK2 := Lib.hid (HKh.out.trans hk2)
          have hl2 : b < w2.heap.size := Nat.lt_of_lt_of_le hlr hk2.1.size
          clear hb2 hk2 HBh HKh hx
          go_wp2_with fail
          refine (cE.out b _ s _ HB2.out hl2 hsz (by simp; omega)).mono ?_
          rintro e w3 ⟨rfl, hb3, hk3⟩
          have HB3 := Lib.hid hb3
          have HK3 := Lib.hid (HK2.out.trans hk3)
          clear hb3 hk3 HB2 HK2
          go_wp2
          go_roundw
          case rel => exact ⟨k + 1, by omega, by go_num, by rw [HTK.out, pathL_snoc]; have := HB3.out; simpa using this, HK3.out⟩
          case measure => simp [intOf]; omega
        · obtain rfl : k = l0.length := by omega
          rw [List.take_length] at HB
          have x0 : wr.cell? ⟨w.heap.size, 0, none⟩ = some (.slice A0 l0.length c0) := (HK.1.cell h01).trans X0.out
          have x1 : wr.cell? ⟨w.heap.size, 1, none⟩ = some (.slice A1 l1.length c1) := (HK.1.cell h01).trans X1.out
          have HBh := Lib.hid HB
          have HKh := Lib.hid HK
          clear HB HK
          by_cases hz : l0.length = 0
          · have hps : pathS l0 = pathL l0 ++ [47] := by unfold pathS; rw [if_pos hz]
            have HPS := Lib.hid hps
            have hz2 : ((l0.length : Int) == 0) = true := by rw [beq_iff_eq]; omega
            have hlz : l0 = [] := List.eq_nil_of_length_eq_zero hz
            clear hps
            subst hlz
            go_wp2_with fail
            refine (cW.out b _ 47 _ HBh.out (by simp [pathL])).mono ?_
            rintro e w2 ⟨rfl, hb2, hk2⟩
            have HBs : Hid (BB b (pathS []) w2) := Lib.hid (by rw [HPS.out]; exact hb2)
            have HKs := Lib.hid (HKh.out.trans hk2)
            replace x1 := (hk2.1.cell h01).trans x1
            clear hb2 hk2 HBh HKh x0 hz hz2
            go_wp2_with fail
            clear x1
            go_loopw [7, 32] (fun v7 i wr => ∃ k : Nat, k ≤ l1.length ∧ i = .int .i64 k ∧ v7 = .int .u8 (markAt k).toNat ∧ BB b (pathS [] ++ queryL 63 (l1.take k)) wr ∧ KeptB b wb wr) (fun _ i _ => l1.length - (intOf i).toNat)
            case atStart => exact ⟨0, by omega, rfl, rfl, by have := HBs.out; simpa [queryL] using this, HKs.out⟩
            case round =>
              obtain ⟨k, hk, rfl, rfl, HB, HK⟩ := hrel
              have hbr : Below w.heap.size w wr := hb0.trans (HK.1.mono (Nat.le_of_lt h01))
              have hlr : b < wr.heap.size := Nat.lt_of_lt_of_le hlb HK.1.size
              clear HBs HKs
              by_cases hlt : k < l1.length
              · obtain ⟨ad, e0, hx, hy⟩ := at_T32 HR1.out (k : Int) (by omega) (by omega)
                have htk := List.take_succ_eq_append_getElem hlt
                unfold rd_T32 at hx hy
                rw [Int.toNat_natCast, List.getD_eq_getElem?_getD, List.getElem?_eq_getElem hlt] at hx hy
                replace hx := pw_cell_below hbr hx
                replace hy := pw_cell_below hbr hy
                have hpt := queryL_take l1 k 63
                have hpt1 := queryL_take l1 (k + 1) 63
                have hsz := HSQ.out l1[k] (List.getElem_mem hlt)
                dsimp only [Option.getD_some] at hx hy
                generalize l1[k] = p at *
                rw [htk, queryL_snoc] at hpt1
                obtain ⟨nm, vl⟩ := p
                dsimp only at hx hy hsz
                obtain ⟨hs1, hs2⟩ := hsz
                have HTK := Lib.hid htk
                have htl : (l1.take k).length = k := by rw [List.length_take]; omega
                have HTL := Lib.hid htl
                have hbud : (queryL 63 (l1.take k)).length + (1 + ((escL nm.data.toList).length + (1 + (escL vl.data.toList).length))) ≤ (queryL 63 l1).length := by simp [parL] at hpt1; omega
                have HBh := Lib.hid HB
                have HKh := Lib.hid HK
                cases e0
                clear htk HB HK htl hpt1
                have one1 : (#[.string nm, .string vl] : Array Value).all (·.oneCell') = true := by simp [Value.oneCell']
                have ONE := Lib.hid one1
                clear one1
                go_wp2_with ((refine wpList_store_row rfl 32 _ _ rfl wr.heap.size #[.string nm, .string vl] rfl rfl 32 #[.string ⟨#[]⟩, .string ⟨#[]⟩] (heap_alloc_new wr _) info_par rfl ONE.out ?_); refine Hid.out ?_)
                refine Lib.hid ?_
                have f1 := setRow_heap (wr.alloc (.cells #[.string ⟨#[]⟩, .string ⟨#[]⟩] 32)) wr.heap.size _ #[.string nm, .string vl] 32 _ (heap_alloc_new wr _)
                have f2 := below_setRow (below_alloc (Below.refl wr.heap.size wr) (.cells #[.string ⟨#[]⟩, .string ⟨#[]⟩] 32)) (Nat.le_refl _) #[.string nm, .string vl]
                generalize (wr.alloc (.cells #[.string ⟨#[]⟩, .string ⟨#[]⟩] 32)).setRow wr.heap.size #[.string nm, .string vl] = w2 at f1 f2
                have F1 := Lib.hid f1
                have hl2 : b < w2.heap.size := Nat.lt_of_lt_of_le hlr f2.size
                replace HBh := Lib.hid (bb_below HBh.out f2)
                replace HKh := Lib.hid (kb_below HKh.out f2 (Nat.le_of_lt hlr))
                have hne : wr.heap.size ≠ b := by omega
                clear hx hy f1 f2
                go_wp2_with fail
                refine (cW.out b _ (markAt k) _ HBh.out (by simp; omega)).mono ?_
                rintro e w3 ⟨rfl, hb3, hk3⟩
                have HB3 := Lib.hid hb3
                have HK3 := Lib.hid (HKh.out.trans hk3)
                have hl3 : b < w3.heap.size := Nat.lt_of_lt_of_le hl2 hk3.1.size
                replace F1 := Lib.hid (hk3.blk F1.out hne (by decide))
                have x0 : w3.cell? ⟨wr.heap.size, 0, none⟩ = some (.string nm) := by have := F1.out; simp only [World.cell?, this]; rfl
                clear hb3 hk3 HBh HKh
                go_wp2_with fail
                clear x0
                refine (cE.out b _ nm _ HB3.out hl3 hs1 (by simp; omega)).mono ?_
                rintro e w4 ⟨rfl, hb4, hk4⟩
                have HB4 := Lib.hid hb4
                have HK4 := Lib.hid (HK3.out.trans hk4)
                have hl4 : b < w4.heap.size := Nat.lt_of_lt_of_le hl3 hk4.1.size
                replace F1 := Lib.hid (hk4.blk F1.out hne (by decide))
                clear hb4 hk4 HB3 HK3
                go_wp2_with fail
                refine (cW.out b _ 61 _ HB4.out (by simp; omega)).mono ?_
                rintro e w5 ⟨rfl, hb5, hk5⟩
                have HB5 := Lib.hid hb5
                have HK5 := Lib.hid (HK4.out.trans hk5)
                have hl5 : b < w5.heap.size := Nat.lt_of_lt_of_le hl4 hk5.1.size
                replace F1 := Lib.hid (hk5.blk F1.out hne (by decide))
                have x1 : w5.cell? ⟨wr.heap.size, 1, none⟩ = some (.string vl) := by have := F1.out; simp only [World.cell?, this]; rfl
                clear hb5 hk5 HB4 HK4
                go_wp2_with fail
                clear x1
                refine (cE.out b _ vl _ HB5.out hl5 hs2 (by simp; omega)).mono ?_
                rintro e w6 ⟨rfl, hb6, hk6⟩
                have HB6 := Lib.hid hb6
                have HK6 := Lib.hid (HK5.out.trans hk6)
                clear hb6 hk6 HB5 HK5 F1
                go_wp2
                go_roundw
                case rel => exact ⟨k + 1, by omega, by go_num, by rfl, by rw [HTK.out, queryL_snoc, HTL.out]; have := HB6.out; simpa [markAt, parL] using this, HK6.out⟩
                case measure => simp [intOf]; omega
              · obtain rfl : k = l1.length := by omega
                rw [List.take_length] at HB
                have HBh := Lib.hid HB
                clear HB HK
                go_wp2_with fail
                refine (string_any b _ _ HBh.out (Nat.le_of_lt hlr)).mono ?_
                rintro e w7 ⟨rfl, hb7⟩
                have hfin := hbr.trans (hb7.mono (Nat.le_of_lt h01))
                go_wp2
                go_ret2
                exact ⟨rfl, hfin⟩
          · have hps : pathS l0 = pathL l0 := by unfold pathS; rw [if_neg hz]; simp
            have HBs : Hid (BB b (pathS l0) wr) := Lib.hid (by rw [hps]; exact HBh.out)
            have HKs := HKh
            have hz2 : ((l0.length : Int) == 0) = false := by rw [beq_eq_false_iff_ne]; omega
            clear HBh HKh hps
            go_wp2_with fail
            clear x0 x1 hz2
            go_loopw [7, 32] (fun v7 i wr => ∃ k : Nat, k ≤ l1.length ∧ i = .int .i64 k ∧ v7 = .int .u8 (markAt k).toNat ∧ BB b (pathS l0 ++ queryL 63 (l1.take k)) wr ∧ KeptB b wb wr) (fun _ i _ => l1.length - (intOf i).toNat)
            case atStart => exact ⟨0, by omega, rfl, rfl, by have := HBs.out; simpa [queryL] using this, HKs.out⟩
            case round =>
              obtain ⟨k, hk, rfl, rfl, HB, HK⟩ := hrel
              have hbr : Below w.heap.size w wr := hb0.trans (HK.1.mono (Nat.le_of_lt h01))
              have hlr : b < wr.heap.size := Nat.lt_of_lt_of_le hlb HK.1.size
              clear HBs HKs
              by_cases hlt : k < l1.length
              · obtain ⟨ad, e0, hx, hy⟩ := at_T32 HR1.out (k : Int) (by omega) (by omega)
                have htk := List.take_succ_eq_append_getElem hlt
                unfold rd_T32 at hx hy
                rw [Int.toNat_natCast, List.getD_eq_getElem?_getD, List.getElem?_eq_getElem hlt] at hx hy
                replace hx := pw_cell_below hbr hx
                replace hy := pw_cell_below hbr hy
                have hpt := queryL_take l1 k 63
                have hpt1 := queryL_take l1 (k + 1) 63
                have hsz := HSQ.out l1[k] (List.getElem_mem hlt)
                dsimp only [Option.getD_some] at hx hy
                generalize l1[k] = p at *
                rw [htk, queryL_snoc] at hpt1
                obtain ⟨nm, vl⟩ := p
                dsimp only at hx hy hsz
                obtain ⟨hs1, hs2⟩ := hsz
                have HTK := Lib.hid htk
                have htl : (l1.take k).length = k := by rw [List.length_take]; omega
                have HTL := Lib.hid htl
                have hbud : (queryL 63 (l1.take k)).length + (1 + ((escL nm.data.toList).length + (1 + (escL vl.data.toList).length))) ≤ (queryL 63 l1).length := by simp [parL] at hpt1; omega
                have HBh := Lib.hid HB
                have HKh := Lib.hid HK
                cases e0
                clear htk HB HK htl hpt1
                have one1 : (#[.string nm, .string vl] : Array Value).all (·.oneCell') = true := by simp [Value.oneCell']
                have ONE := Lib.hid one1
                clear one1
                go_wp2_with ((refine wpList_store_row rfl 32 _ _ rfl wr.heap.size #[.string nm, .string vl] rfl rfl 32 #[.string ⟨#[]⟩, .string ⟨#[]⟩] (heap_alloc_new wr _) info_par rfl ONE.out ?_); refine Hid.out ?_)
                refine Lib.hid ?_
                have f1 := setRow_heap (wr.alloc (.cells #[.string ⟨#[]⟩, .string ⟨#[]⟩] 32)) wr.heap.size _ #[.string nm, .string vl] 32 _ (heap_alloc_new wr _)
                have f2 := below_setRow (below_alloc (Below.refl wr.heap.size wr) (.cells #[.string ⟨#[]⟩, .string ⟨#[]⟩] 32)) (Nat.le_refl _) #[.string nm, .string vl]
                generalize (wr.alloc (.cells #[.string ⟨#[]⟩, .string ⟨#[]⟩] 32)).setRow wr.heap.size #[.string nm, .string vl] = w2 at f1 f2
                have F1 := Lib.hid f1
                have hl2 : b < w2.heap.size := Nat.lt_of_lt_of_le hlr f2.size
                replace HBh := Lib.hid (bb_below HBh.out f2)
                replace HKh := Lib.hid (kb_below HKh.out f2 (Nat.le_of_lt hlr))
                have hne : wr.heap.size ≠ b := by omega
                clear hx hy f1 f2
                go_wp2_with fail
                refine (cW.out b _ (markAt k) _ HBh.out (by simp; omega)).mono ?_
                rintro e w3 ⟨rfl, hb3, hk3⟩
                have HB3 := Lib.hid hb3
                have HK3 := Lib.hid (HKh.out.trans hk3)
                have hl3 : b < w3.heap.size := Nat.lt_of_lt_of_le hl2 hk3.1.size
                replace F1 := Lib.hid (hk3.blk F1.out hne (by decide))
                have x0 : w3.cell? ⟨wr.heap.size, 0, none⟩ = some (.string nm) := by have := F1.out; simp only [World.cell?, this]; rfl
                clear hb3 hk3 HBh HKh
                go_wp2_with fail
                clear x0
                refine (cE.out b _ nm _ HB3.out hl3 hs1 (by simp; omega)).mono ?_
                rintro e w4 ⟨rfl, hb4, hk4⟩
                have HB4 := Lib.hid hb4
                have HK4 := Lib.hid (HK3.out.trans hk4)
                have hl4 : b < w4.heap.size := Nat.lt_of_lt_of_le hl3 hk4.1.size
                replace F1 := Lib.hid (hk4.blk F1.out hne (by decide))
                clear hb4 hk4 HB3 HK3
                go_wp2_with fail
                refine (cW.out b _ 61 _ HB4.out (by simp; omega)).mono ?_
                rintro e w5 ⟨rfl, hb5, hk5⟩
                have HB5 := Lib.hid hb5
                have HK5 := Lib.hid (HK4.out.trans hk5)
                have hl5 : b < w5.heap.size := Nat.lt_of_lt_of_le hl4 hk5.1.size
                replace F1 := Lib.hid (hk5.blk F1.out hne (by decide))
                have x1 : w5.cell? ⟨wr.heap.size, 1, none⟩ = some (.string vl) := by have := F1.out; simp only [World.cell?, this]; rfl
                clear hb5 hk5 HB4 HK4
                go_wp2_with fail
                clear x1
                refine (cE.out b _ vl _ HB5.out hl5 hs2 (by simp; omega)).mono ?_
                rintro e w6 ⟨rfl, hb6, hk6⟩
                have HB6 := Lib.hid hb6
                have HK6 := Lib.hid (HK5.out.trans hk6)
                clear hb6 hk6 HB5 HK5 F1
                go_wp2
                go_roundw
                case rel => exact ⟨k + 1, by omega, by go_num, by rfl, by rw [HTK.out, queryL_snoc, HTL.out]; have := HB6.out; simpa [markAt, parL] using this, HK6.out⟩
                case measure => simp [intOf]; omega
              · obtain rfl : k = l1.length := by omega
                rw [List.take_length] at HB
                have HBh := Lib.hid HB
                clear HB HK
                go_wp2_with fail
                refine (string_any b _ _ HBh.out (Nat.le_of_lt hlr)).mono ?_
                rintro e w7 ⟨rfl, hb7⟩
                have hfin := hbr.trans (hb7.mono (Nat.le_of_lt h01))
                go_wp2
                go_ret2
                exact ⟨rfl, hfin⟩
    · rw [if_pos rfl, if_neg hsm] at h; cases h
end Go.Proofs.YtejmolhdmbkfaaaDoor.S
