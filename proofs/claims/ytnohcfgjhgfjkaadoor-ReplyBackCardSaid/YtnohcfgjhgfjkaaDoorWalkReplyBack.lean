/-
  ReplyBack answers true at every status' number, body, rest and cut, in every world where the library's table stands.
-/
import Derived.Test.YtnohcfgjhgfjkaaDoorWalkReplyTwo
import Derived.Test.YtnohcfgjhgfjkaaDoorRep25j
namespace Go.Proofs.YtnohcfgjhgfjkaaDoor.S
open Go.RowKit Go.Proofs.YtnohcfgjhgfjkaaDoorW.PrintWords
set_option linter.unusedVariables false
set_option linter.unusedSimpArgs false
theorem place_f (a n : Int) (h0 : -9223372036854775808 ≤ a) (h1 : a ≤ 9223372036854775807) (hn : 1 ≤ n) (hn2 : n ≤ 4611686018427387904) : ∃ p : Nat, (p : Int) < n ∧ cofferlaw0_Place.f a n = some (p : Int) := by
  unfold cofferlaw0_Place.f
  rw [if_neg (by omega), if_neg (by omega)]
  have hlt := Int.tmod_lt_of_pos a (by omega : 0 < n)
  have hgt : -n < Int.tmod a n := by
    have := Int.lt_tmod_of_pos a (by omega : 0 < n)
    omega
  by_cases h : Int.tmod a n < 0
  · rw [if_pos h]
    refine ⟨(Int.tmod a n + n).toNat, by omega, ?_⟩
    congr 1
    unfold wrap64
    omega
  · rw [if_neg h]
    exact ⟨(Int.tmod a n).toNat, by omega, by congr 1; omega⟩
theorem list_app {P : Program} {ops : Array Oper} {rest : List Oper} {o : Oper} {a : Act} {Q : Exit → Act → World → Prop} {w : World} {base : Nat} {v : Value} {xs : List Int} {A : Option Addr} {m c : Nat} {ys : List Int} (hgd : o.guard = none) (s x : Operand) (t : TypeId)
    (ho : o.op = .call { callee := .builtin .append, args := #[s, x], argTypes := #[t, t] }) (ht : P.underlying t = some (.slice 5)) (hinfo : (P.info? 5).map (fun i => (i.zero, i.size, i.bytes)) = some (some (.int .u8 0), 1, 1))
    (hs : a.eval s = v) (hx : a.eval x = .slice A m c) (HO : OB w base v xs) (hR : ReadsInt w .u8 A m ys) (hl : xs.length + m ≤ 140737488355328) (h0 : 0 < xs.length) (hbase : base ≤ w.heap.size)
    (h : ∀ v1 w1, OB w1 base v1 (xs ++ ys) → Below base w w1 → wpList P ops Q rest (a.put o.dst v1) w1) : wpList P ops Q (o :: rest) a w := by
  refine wpList_plain hgd fun K hK => ?_
  obtain ⟨v1, w1, hr, h2, h3⟩ := run_app_ob (P := P) t o.type ht hinfo HO hR hl h0 hbase
  unfold Oper.wp execOp
  simp only [ho, resolve, invoke, builtin, Sem.run_bind, Sem.run_pure, Result.andThen_ok, List.map_toArray, List.map_cons, List.map_nil, hs, hx]
  rw [hr]
  exact hK _ _ (h v1 w1 h2 h3)
/-- append onto an empty row, of something. -/
theorem list_app0 {P : Program} {ops : Array Oper} {rest : List Oper} {o : Oper} {a : Act} {Q : Exit → Act → World → Prop} {w : World} {g : Addr} {ad : Addr} {m c : Nat} {ys : List Int} (hgd : o.guard = none) (s x : Operand) (t : TypeId)
    (ho : o.op = .call { callee := .builtin .append, args := #[s, x], argTypes := #[t, t] }) (ht : P.underlying t = some (.slice 5)) (hinfo : (P.info? 5).map (fun i => (i.zero, i.size, i.bytes)) = some (some (.int .u8 0), 1, 1))
    (hs : a.eval s = .slice (some g) 0 0) (hx : a.eval x = .slice (some ad) m c) (hR : ReadsInt w .u8 (some ad) m ys) (hl : m ≤ 140737488355328) (h0 : 0 < m)
    (h : ∀ v1 w1, OB w1 w.heap.size v1 ys → Below w.heap.size w w1 → wpList P ops Q rest (a.put o.dst v1) w1) : wpList P ops Q (o :: rest) a w := by
  obtain ⟨i0, hi, hz0, hz1, hz2⟩ := info_parts hinfo
  have hyl := hR.1
  refine wpList_append_grows w hgd s x t ho 5 i0 (.int .u8 0) 1 1 ht hi hz0 hz1 hz2 rfl (by omega) (some g) 0 0 [] hs (fun h => by cases h) rfl (fun b _ j u hj => by simp at hj) ad m c (nums .u8 ys) hx (by simpa [nums] using hyl) (fun j u hj => ?_) (fun u hu => ?_) (by omega) (by unfold maxLen; omega) (by omega) ?_
  · have hjl : j < ys.length := by
      rcases Nat.lt_or_ge j ys.length with h | h
      · exact h
      · rw [List.getElem?_eq_none (by simpa [nums] using h)] at hj; cases hj
    obtain ⟨ad', e, hc⟩ := hR.2.2 (by omega)
    obtain rfl := Option.some.inj e
    rw [hc j (by omega), ← hj]
    simp [nums, hjl]
  · obtain ⟨y, _, rfl⟩ := List.mem_map.1 hu
    rfl
  · intro v1 w1 hown hg
    have e1 : ([] : List Value) ++ nums .u8 ys = nums .u8 ys := rfl
    have e2 : 0 + m = ys.length := by omega
    rw [e1, e2] at hown
    exact h v1 w1 (OB_of_own hown (by omega)) ((Below.refl _ _).grown hg (Nat.le_refl _) (fun k h => by cases h))
theorem u8_app (a b : List Int) : u8 (a ++ b) = u8 a ++ u8 b := by simp [u8]
theorem take_n (s : List UInt8) (A : Option Addr) (n cap : Nat) (l : List Int) (w : World) (hnn : n = l.length) (hs : strOfNums l = ⟨s.toArray⟩) (hn : s.length = l.length) (hR : ReadsInt w .u8 A l.length l) (hlen : l.length ≤ 100000) (hT : Tabs w) :
    Calls Tryd.prog 15 #[.slice A n cap] w fun e w' => TakeOut s w w' e := by
  subst hnn
  exact take_any s A cap l w hs hn hR hlen hT
-- The walk.
set_option maxHeartbeats 4000000 in
set_option maxRecDepth 100000 in
theorem replyBack_walk (w : World) (which : Int) (hwh : (Lit.int .i64 which).wf = true) (A1 : Option Addr) (len1 cap1 : Nat) (l1 : List Int) (H1 : Bytes w A1 len1 cap1 l1) (cl : Bool) (A2 : Option Addr) (len2 cap2 : Nat) (l2 : List Int) (H2 : Bytes w A2 len2 cap2 l2) (cut : Int) (hcu : (Lit.int .i64 cut).wf = true) (hT : Tabs w) :
    Calls Tryd.prog 5 #[.int .i64 which, .slice A1 len1 cap1, .bool cl, .slice A2 len2 cap2, .int .i64 cut] w fun e w' => e = .returned (.bool true) ∧ Below w.heap.size w w' := by
  obtain ⟨rfl, hcap1, hR1, hwf1⟩ := H1
  obtain ⟨rfl, hcap2, hR2, hwf2⟩ := H2
  have hb1 : -9223372036854775808 ≤ which ∧ which ≤ 9223372036854775807 := by simpa [Lit.wf, IntKind.min, IntKind.max, IntKind.signed, IntKind.bits] using hwh
  have hb2 : -9223372036854775808 ≤ cut ∧ cut ≤ 9223372036854775807 := by simpa [Lit.wf, IntKind.min, IntKind.max, IntKind.signed, IntKind.bits] using hcu
  have cB := Lib.hid begun_any
  have cS := Lib.hid ref_statuses_any
  have HR1 := Lib.hid hR1
  have HR2 := Lib.hid hR2
  have HW1 := Lib.hid hwf1
  have HW2 := Lib.hid hwf2
  have HC := Lib.hid hb2
  have HT := Lib.hid hT
  obtain ⟨p, hp, hpf⟩ := place_f which 11 hb1.1 hb1.2 (by omega) (by omega)
  have cP : Hid (∀ w, Calls Tryd.prog 18 #[.int .i64 which, .int .i64 11] w fun e w' => e = .returned (.int .i64 p) ∧ Drawn0 w w') := Lib.hid fun w => cofferlaw0_Place.calls which 11 p w hpf
  clear hR1 hR2 hwf1 hwf2 hb1 hb2 hwh hcu hT hpf
  by_cases hg1 : l1.length ≤ 4096
  · by_cases hg2 : l2.length ≤ 4096
    · go_enter Tryd.func5, Tryd.ntmps5
      go_wp2_with fail
      refine (cB.out _ HT.out).mono ?_
      rintro e w1 ⟨rfl, hb⟩
      go_wp2_with fail
      refine (cS.out _).mono ?_
      rintro e w2 ⟨rfl, h2⟩
      go_wp2_with ((refine wpList_store_row rfl 37 _ _ rfl w2.heap.size #[.int .i64 200, .int .i64 201, .int .i64 400, .int .i64 401, .int .i64 403, .int .i64 404, .int .i64 405, .int .i64 409, .int .i64 413, .int .i64 431, .int .i64 507] rfl rfl 37 #[.int .i64 0, .int .i64 0, .int .i64 0, .int .i64 0, .int .i64 0, .int .i64 0, .int .i64 0, .int .i64 0, .int .i64 0, .int .i64 0, .int .i64 0] (heap_alloc_new w2 _) info11 rfl one11 ?_); refine Hid.out ?_)
      refine Lib.hid ?_
      have f1 := setRow_heap (w2.alloc (.cells #[.int .i64 0, .int .i64 0, .int .i64 0, .int .i64 0, .int .i64 0, .int .i64 0, .int .i64 0, .int .i64 0, .int .i64 0, .int .i64 0, .int .i64 0] 37)) w2.heap.size #[.int .i64 0, .int .i64 0, .int .i64 0, .int .i64 0, .int .i64 0, .int .i64 0, .int .i64 0, .int .i64 0, .int .i64 0, .int .i64 0, .int .i64 0] #[.int .i64 200, .int .i64 201, .int .i64 400, .int .i64 401, .int .i64 403, .int .i64 404, .int .i64 405, .int .i64 409, .int .i64 413, .int .i64 431, .int .i64 507] 37 _ (heap_alloc_new w2 _)
      have f2 := below_setRow (below_alloc (Below.refl w2.heap.size w2) (.cells #[.int .i64 0, .int .i64 0, .int .i64 0, .int .i64 0, .int .i64 0, .int .i64 0, .int .i64 0, .int .i64 0, .int .i64 0, .int .i64 0, .int .i64 0] 37)) (Nat.le_refl _) #[.int .i64 200, .int .i64 201, .int .i64 400, .int .i64 401, .int .i64 403, .int .i64 404, .int .i64 405, .int .i64 409, .int .i64 413, .int .i64 431, .int .i64 507]
      generalize (w2.alloc (.cells #[.int .i64 0, .int .i64 0, .int .i64 0, .int .i64 0, .int .i64 0, .int .i64 0, .int .i64 0, .int .i64 0, .int .i64 0, .int .i64 0, .int .i64 0] 37)).setRow w2.heap.size #[.int .i64 200, .int .i64 201, .int .i64 400, .int .i64 401, .int .i64 403, .int .i64 404, .int .i64 405, .int .i64 409, .int .i64 413, .int .i64 431, .int .i64 507] = w3 at f1 f2
      replace hb := bthen (bthen hb h2) f2
      have HF1 := Lib.hid f1
      clear f1 f2 h2
      go_wp2_with fail
      refine (cP.out _).mono ?_
      rintro e w4 ⟨rfl, hd4⟩
      have h4 := hd4.below
      have f1 := (h4.block _ (lt_of_block HF1.out)).trans HF1.out
      replace hb := bthen hb h4
      have hst : nums11.getD p 0 ∈ nums11 := by
        have hp2 : p < 11 := by omega
        have : ∀ p, p < 11 → nums11.getD p 0 ∈ nums11 := by decide
        exact this p hp2
      have hcell : w4.cell? ⟨w2.heap.size, p, none⟩ = some (.int .i64 (nums11.getD p 0)) := by
        have hp2 : p < 11 := by omega
        simp only [World.cell?, f1]
        have : ∀ p, p < 11 → (#[.int .i64 200, .int .i64 201, .int .i64 400, .int .i64 401, .int .i64 403, .int .i64 404, .int .i64 405, .int .i64 409, .int .i64 413, .int .i64 431, .int .i64 507] : Array Value)[p]? = some (.int .i64 (nums11.getD p 0)) := by
          intro p hp
          rcases (show p = 0 ∨ p = 1 ∨ p = 2 ∨ p = 3 ∨ p = 4 ∨ p = 5 ∨ p = 6 ∨ p = 7 ∨ p = 8 ∨ p = 9 ∨ p = 10 by omega) with rfl | rfl | rfl | rfl | rfl | rfl | rfl | rfl | rfl | rfl | rfl <;> rfl
        exact this p hp2
      generalize nums11.getD p 0 = st at hst hcell
      have hs0 : -9223372036854775808 ≤ st ∧ st ≤ 9223372036854775807 := by
        have : ∀ a ∈ nums11, (-9223372036854775808 : Int) ≤ a ∧ a ≤ 9223372036854775807 := by decide
        exact this st hst
      have hrs : rs st ≠ [] := by
        have : ∀ a ∈ nums11, rs a ≠ [] := by decide
        exact this st hst
      have one1 : (#[.int .i64 st, .slice A1 l1.length cap1, .bool cl] : Array Value).all (·.oneCell') = true := by simp [Value.oneCell']
      have ONE := Lib.hid one1
      have HST := Lib.hid hst
      have HS0 := Lib.hid hs0
      have HRS := Lib.hid hrs
      clear hst hs0 hrs one1 f1 h4 hd4
      go_wp2_with ((refine wpList_store_row rfl 24 _ _ rfl w4.heap.size #[.int .i64 st, .slice A1 l1.length cap1, .bool cl] rfl rfl 24 #[.int .i64 0, .slice none 0 0, .bool false] (heap_alloc_new w4 _) info24 rfl ONE.out ?_); refine Hid.out ?_)
      refine Lib.hid ?_
      have f1 := setRow_heap (w4.alloc (.cells #[.int .i64 0, .slice none 0 0, .bool false] 24)) w4.heap.size _ #[.int .i64 st, .slice A1 l1.length cap1, .bool cl] 24 _ (heap_alloc_new w4 _)
      have f2 := below_setRow (below_alloc (Below.refl w4.heap.size w4) (.cells #[.int .i64 0, .slice none 0 0, .bool false] 24)) (Nat.le_refl _) #[.int .i64 st, .slice A1 l1.length cap1, .bool cl]
      generalize (w4.alloc (.cells #[.int .i64 0, .slice none 0 0, .bool false] 24)).setRow w4.heap.size #[.int .i64 st, .slice A1 l1.length cap1, .bool cl] = w5 at f1 f2
      replace hb := bthen hb f2
      have HF := Lib.hid f1
      have x0 : w5.cell? ⟨w4.heap.size, 0, none⟩ = some (.int .i64 st) := by simp only [World.cell?, f1]; rfl
      have x1 : w5.cell? ⟨w4.heap.size, 1, none⟩ = some (.slice A1 l1.length cap1) := by simp only [World.cell?, f1]; rfl
      have x2 : w5.cell? ⟨w4.heap.size, 2, none⟩ = some (.bool cl) := by simp only [World.cell?, f1]; rfl
      clear f1 f2 hcell
      go_wp2_with fail
      refine (bytes_ok st cl A1 cap1 l1 w5 HS0.out.1 HS0.out.2 HRS.out (HR1.out.below hb) (by omega) (HT.out.below hb)).mono ?_
      rintro e w6 ⟨v6, rfl, HO6, h6⟩
      obtain ⟨g6, k6, rfl, hk6, hR6⟩ := HO6.reads
      replace x0 := pw_cell_below h6 x0
      replace x1 := pw_cell_below h6 x1
      replace x2 := pw_cell_below h6 x2
      replace hb := bthen hb h6
      have hS := str_repB st cl l1
      have hL := repB_len st cl l1
      have hW := wholeL_pos st l1.length cl
      have hW2 : (wholeL st l1.length cl).length ≤ 124 := by
        have := headL_len st HS0.out.1 HS0.out.2
        have := tailL_len cl
        have := Lib.itoa_length_le (l1.length : Int) (by omega) (by omega)
        unfold wholeL; simp; omega
      have hTB := take_back st cl (u8 l1) (u8 l2) HST.out (by rw [u8_len]; omega)
      have hTS := fun k => take_short st cl (u8 l1) k HST.out (by rw [u8_len]; omega)
      rw [u8_len] at hTB hTS
      generalize wholeL st l1.length cl = wl at hS hL hW hW2 hTB hTS
      generalize repB st cl l1 = xs at *
      have HS := Lib.hid hS
      have HL := Lib.hid hL
      have em : ((wl.length : Int) + l1.length) = (xs.length : Int) := by omega
      rw [em] at hTB
      clear em
      have HB3 := Lib.hid hTB
      have HS3 := Lib.hid hTS
      have HR6 := Lib.hid hR6
      have hx1 : 0 < xs.length := by omega
      have hx2 : xs.length ≤ 5000 := by omega
      clear hS hL hTB hTS hR6 HO6 h6
      go_wp2_with (at_builtin; refine list_app0 rfl _ _ 22 rfl Tryd.underlying22 info5 rfl rfl (HR6.out.below (below_alloc (Below.refl _ _) _)) (by omega) hx1 ?_; intro v7 w7 HO7 HB7; refine Hid.out ?_)
      refine Lib.hid ?_
      have h67 : Below w6.heap.size w6 w7 := bthen (below_alloc (Below.refl _ _) _) HB7
      have h7sz := HB7.size
      have h6sz : w6.heap.size ≤ (w6.alloc (.cells #[] 5)).heap.size := by simp
      go_wp2_with (at_builtin; refine list_app rfl _ _ 22 rfl Tryd.underlying22 info5 rfl rfl HO7 (HR2.out.below (bthen hb h67)) (by omega) hx1 h7sz ?_; intro v8 w8 HO8 HB8; refine Hid.out ?_)
      refine Lib.hid ?_
      have h68 : Below w6.heap.size w6 w8 := h67.trans (HB8.mono h6sz)
      obtain ⟨g8, k8, rfl, hk8, hR8⟩ := HO8.reads
      have HR8 := Lib.hid hR8
      have hl8 : (xs ++ l2).length = xs.length + l2.length := List.length_append
      clear HO7 HO8 HB7 HB8 h67 h7sz h6sz hR8
      replace hb := bthen hb h68
      replace x0 := pw_cell_below h68 x0
      replace x1 := pw_cell_below h68 x1
      replace x2 := pw_cell_below h68 x2
      replace HR6 := Lib.hid (HR6.out.below h68)
      clear h68
      go_wp2_with fail
      have hU : u8 xs = wl ++ u8 l1 := by
        have h := congrArg (fun s : ByteArray => s.data.toList) ((str_u8 xs).symm.trans HS.out)
        simpa using h
      have HU := Lib.hid hU
      refine (take_n (wl ++ (u8 l1 ++ u8 l2)) _ _ k8 (xs ++ l2) w8 hl8.symm (by rw [str_u8, u8_app, HU.out, List.append_assoc]) (by rw [List.length_append, List.length_append, u8_len, u8_len, hl8]; have hxl := HL.out; omega) HR8.out (by omega) (HT.out.below hb)).mono ?_
      clear hU
      rintro e w9 hto
      obtain ⟨g9, n9, c9, rfl, HO9, h9⟩ := hto.ok HB3.out
      clear hto
      have one9 : (#[.int .i64 st, .slice (some ⟨g9, 0, none⟩) n9 c9, .bool cl] : Array Value).all (·.oneCell') = true := by simp [Value.oneCell']
      have ONE9 := Lib.hid one9
      clear one9
      go_wp2_with ((refine wpList_store_row rfl 24 _ _ rfl w9.heap.size #[.int .i64 st, .slice (some ⟨g9, 0, none⟩) n9 c9, .bool cl] rfl rfl 24 #[.int .i64 0, .slice none 0 0, .bool false] (heap_alloc_new w9 _) info24 rfl ONE9.out ?_); refine Hid.out ?_)
      refine Lib.hid ?_
      have f1 := setRow_heap (w9.alloc (.cells #[.int .i64 0, .slice none 0 0, .bool false] 24)) w9.heap.size _ #[.int .i64 st, .slice (some ⟨g9, 0, none⟩) n9 c9, .bool cl] 24 _ (heap_alloc_new w9 _)
      have f2 := below_setRow (below_alloc (Below.refl w9.heap.size w9) (.cells #[.int .i64 0, .slice none 0 0, .bool false] 24)) (Nat.le_refl _) #[.int .i64 st, .slice (some ⟨g9, 0, none⟩) n9 c9, .bool cl]
      generalize (w9.alloc (.cells #[.int .i64 0, .slice none 0 0, .bool false] 24)).setRow w9.heap.size #[.int .i64 st, .slice (some ⟨g9, 0, none⟩) n9 c9, .bool cl] = wA at f1 f2
      have y0 : wA.cell? ⟨w9.heap.size, 0, none⟩ = some (.int .i64 st) := by simp only [World.cell?, f1]; rfl
      have y1 : wA.cell? ⟨w9.heap.size, 1, none⟩ = some (.slice (some ⟨g9, 0, none⟩) n9 c9) := by simp only [World.cell?, f1]; rfl
      have y2 : wA.cell? ⟨w9.heap.size, 2, none⟩ = some (.bool cl) := by simp only [World.cell?, f1]; rfl
      have HOA := Lib.hid (HO9.below f2)
      have h8A := bthen h9 f2
      replace hb := bthen hb h8A
      replace x0 := pw_cell_below h8A x0
      replace x1 := pw_cell_below h8A x1
      replace x2 := pw_cell_below h8A x2
      replace HR6 := Lib.hid (HR6.out.below h8A)
      clear f1 f2 HO9 h9 h8A HR8 hl8
      obtain ⟨q, hq, hqf⟩ := place_f cut xs.length HC.out.1 HC.out.2 (by omega) (by omega)
      have cQ : Hid (∀ w, Calls Tryd.prog 18 #[.int .i64 cut, .int .i64 xs.length] w fun e w' => e = .returned (.int .i64 q) ∧ Drawn0 w w') := Lib.hid fun w => cofferlaw0_Place.calls cut xs.length q w hqf
      clear hqf
      go_wp2_with fail
      refine (cQ.out _).mono ?_
      rintro e wB ⟨rfl, hdB⟩
      have hB := hdB.below
      replace hb := bthen hb hB
      replace x0 := pw_cell_below hB x0
      replace x1 := pw_cell_below hB x1
      replace x2 := pw_cell_below hB x2
      replace y0 := pw_cell_below hB y0
      replace y1 := pw_cell_below hB y1
      replace y2 := pw_cell_below hB y2
      replace HR6 := Lib.hid (HR6.out.below hB)
      replace HOA := Lib.hid (HOA.out.below hB)
      clear hdB hB
      have hqk : q ≤ k6 := by omega
      have hqn : q < xs.length := by omega
      go_wp2_with fail
      have hql : (xs.take q).length = q := by rw [List.length_take]; omega
      have hrq : ReadsInt wB .u8 (some ⟨g6, 0, none⟩) (xs.take q).length (xs.take q) := by rw [hql]; exact HR6.out.take_ q (by omega)
      have hsq : strOfNums (xs.take q) = ⟨((wl ++ u8 l1).take q).toArray⟩ := by rw [str_u8, ← HU.out]; simp [u8]
      refine (take_n ((wl ++ u8 l1).take q) _ q k6 (xs.take q) wB hql.symm hsq (by rw [hql, List.length_take, List.length_append, u8_len]; have hxl := HL.out; omega) hrq (by omega) (HT.out.below hb)).mono ?_
      clear hql hrq hsq
      rintro e wC hto
      obtain ⟨rfl, hC⟩ := hto.bad (HS3.out q (by have hxl := HL.out; omega)) (by decide)
      clear hto
      go_wp2_with ((refine wpList_store_row rfl 24 _ _ rfl wC.heap.size #[.int .i64 0, .slice none 0 0, .bool false] rfl rfl 24 #[.int .i64 0, .slice none 0 0, .bool false] (heap_alloc_new wC _) info24 rfl one24 ?_); refine Hid.out ?_)
      refine Lib.hid ?_
      have f2 := below_setRow (below_alloc (Below.refl wC.heap.size wC) (.cells #[.int .i64 0, .slice none 0 0, .bool false] 24)) (Nat.le_refl _) #[.int .i64 0, .slice none 0 0, .bool false]
      generalize (wC.alloc (.cells #[.int .i64 0, .slice none 0 0, .bool false] 24)).setRow wC.heap.size #[.int .i64 0, .slice none 0 0, .bool false] = wD at f2
      have hD := bthen hC f2
      replace hb := bthen hb hD
      replace x0 := pw_cell_below hD x0
      replace x1 := pw_cell_below hD x1
      replace x2 := pw_cell_below hD x2
      replace y0 := pw_cell_below hD y0
      replace y1 := pw_cell_below hD y1
      replace y2 := pw_cell_below hD y2
      obtain ⟨gE, kE, eE, _, hRE⟩ := (HOA.out.below hD).reads
      have hcx1 := Kd.C_string (P := Tryd.prog) (src := 22) (e := 5) (dst := 9) (c := kE) Tryd.underlying22 Tryd.underlying5 Tryd.underlying9 (C_of_reads hRE)
      have hcx2 := Kd.C_string (P := Tryd.prog) (src := 22) (e := 5) (dst := 9) (c := cap1) Tryd.underlying22 Tryd.underlying5 Tryd.underlying9 (C_of_reads (HR1.out.below hb))
      rw [← eE, bytesOf_u8 l1 HW1.out] at hcx1
      clear f2 hD hC eE hRE hqk hqn hq
      go_wp2
      go_ret
      exact ⟨rfl, hb⟩
    · have : 4096 < l2.length := by omega
      clear hg2
      go_enter Tryd.func5, Tryd.ntmps5
      go_wp2_with fail
      refine (cB.out _ HT.out).mono ?_
      rintro e w1 ⟨rfl, hb⟩
      go_wp2
      go_ret
      exact ⟨rfl, hb⟩
  · have : 4096 < l1.length := by omega
    clear hg1
    go_enter Tryd.func5, Tryd.ntmps5
    go_wp2_with fail
    refine (cB.out _ HT.out).mono ?_
    rintro e w1 ⟨rfl, hb⟩
    go_wp2
    go_ret
    exact ⟨rfl, hb⟩
end Go.Proofs.YtnohcfgjhgfjkaaDoor.S
