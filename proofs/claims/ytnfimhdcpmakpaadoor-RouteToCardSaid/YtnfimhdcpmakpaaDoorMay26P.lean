/-
 target.May, walked (s26): which targets may be.
-/
import Derived.Test.YtnfimhdcpmakpaaDoorSx1P
import Derived.Test.YtnfimhdcpmakpaaDoorThenP
import Derived.Maps.OwnOps
import Derived.Maps.Views
import Derived.Maps.Keyed
import Derived.Carry
import Derived.StringKeys
import Derived.OneCell
import Derived.Laws.CopyOwn
import Derived.Laws.Tables
namespace Go.Proofs.YtnfimhdcpmakpaaDoor.S
open Go.RowKit Go.Maps Go.WideMaps Go.Proofs.YtnfimhdcpmakpaaDoorW.PrintWords
set_option linter.unusedVariables false
set_option linter.unusedSimpArgs false
def zeroB (l : List UInt8) : Bool := decide (0 ≤ Lib.indexByte l 0)
def mayP : List ByteArray → Bool
 | [] => true
 | s :: r => !(s.size == 0) && !zeroB s.data.toList && mayP r
def mayQ (acc : List (List UInt8)) : List S91 → Bool
 | [] => true
 | p :: r => !(p.f0.size == 0) && !zeroB (p.f0 ++ p.f1).data.toList && !(acc.contains p.f0.data.toList) && mayQ (acc ++ [p.f0.data.toList]) r
def mayB (l0 : List ByteArray) (l1 : List S91) : Bool := mayP l0 && mayQ [] l1
def smallQ (l1 : List S91) : Bool := l1.all fun p => decide (p.f0.size ≤ 1048576) && decide (p.f1.size ≤ 1048576)
def xMay.f (l0 : List ByteArray) (l1 : List S91) : Option Bool := if smallQ l1 = true ∧ l0.length ≤ 1048576 ∧ l1.length ≤ 1048576 then some (mayB l0 l1) else none
theorem law : Keyed Tryd.prog 9 := string_keyed Tryd.underlying9
theorem zero3 (w : World) : (zeroValue 3).run Tryd.prog w = .ok (.int .i64 0) w := by kernel_rfl
def keysOf (acc : List (List UInt8)) : List Lit := acc.map Lit.string
theorem key_ne {a l : List UInt8} (h : a ≠ l) : Lit.string l ≠ Lit.string a := fun e => h (by injection e with e; exact e.symm)
theorem setOf_at (l : List UInt8) : ∀ (acc : List (List UInt8)) (m : DataW Unit) (b : Bool), IsMap m → m.atKey (.string l) (.lit (.int .i64 0)) = .lit (.int .i64 (if b = true then 1 else 0)) →
  ((keysOf acc).foldl (fun m x => m.put x (.lit (.int .i64 1))) m).atKey (.string l) (.lit (.int .i64 0)) = .lit (.int .i64 (if (b || acc.contains l) = true then 1 else 0))
 | [], m, b, hm, h => by simpa [keysOf] using h
 | a :: acc, m, b, hm, h => by
  show ((keysOf acc).foldl (fun m x => m.put x (.lit (.int .i64 1))) (m.put (.string a) (.lit (.int .i64 1)))).atKey _ _ = _
  by_cases ha : a = l
  ·
   subst ha
   rw [setOf_at a acc _ true (hm.put _ _) (by rw [atKey_put_same hm (show WideAt.IsKeyLit (.string a) from trivial)]; rfl)]
   simp
  ·
   rw [setOf_at l acc _ b (hm.put _ _) (by rw [atKey_put_other (key_ne ha)]; exact h)]
   have : (a :: acc).contains l = acc.contains l := by
    rw [List.contains_cons]
    have : (l == a) = false := by rw [beq_eq_false_iff_ne]; exact fun e => ha e.symm
    rw [this]; rfl
   rw [this]
theorem setOf_at0 (l : List UInt8) (acc : List (List UInt8)) : (setOf (H := Unit) (.lit (.int .i64 1)) (keysOf acc)).atKey (.string l) (.lit (.int .i64 0)) = .lit (.int .i64 (if acc.contains l = true then 1 else 0)) := by
 have := setOf_at l acc (.map []) false isMap_empty rfl
 simpa [setOf] using this
theorem isMap_set (acc : List (List UInt8)) : IsMap (setOf (H := Unit) (.lit (.int .i64 1)) (keysOf acc)) := (tidy_setOf _ _ (fun x hx => by
 obtain ⟨a, _, rfl⟩ := List.mem_map.1 hx
 trivial)).isMap
theorem set_put {P : Program} {k e : TypeId} {M n : Nat} {w : World} {acc : List (List UInt8)} {l : List UInt8} (h : w.ownsMap (H := Unit) P k (plainElem P e) M n ((setOf (.lit (.int .i64 1)) (keysOf acc)).put (.string l) (.lit (.int .i64 1)))) :
  w.ownsMap (H := Unit) P k (plainElem P e) M n (setOf (.lit (.int .i64 1)) (keysOf (acc ++ [l]))) := by
 have e : keysOf (acc ++ [l]) = keysOf acc ++ [.string l] := by simp [keysOf]
 rw [e, setOf_snoc]
 exact h
theorem mayP_cons (s : ByteArray) (r : List ByteArray) : mayP (s :: r) = (!(s.size == 0) && !zeroB s.data.toList && mayP r) := rfl
theorem mayQ_cons (acc : List (List UInt8)) (p : S91) (r : List S91) : mayQ acc (p :: r) = (!(p.f0.size == 0) && !zeroB (p.f0 ++ p.f1).data.toList && !(acc.contains p.f0.data.toList) && mayQ (acc ++ [p.f0.data.toList]) r) := rfl
theorem own_blk {H : Type} {P : Program} {k : TypeId} {R : Value → Option (DataW H × List MemPlace)} {b n : Nat} {D : DataW H} {w w1 : World} (h : w.ownsMap P k R b n D) (hb : w1.heap[b]? = w.heap[b]?) : w1.ownsMap P k R b n D := by
 obtain ⟨es, clock, h1, h2⟩ := h
 exact ⟨es, clock, hb.trans h1, h2⟩
theorem info_par : (Tryd.prog.info? 91).map (·.size) = some 2 := by kernel_rfl
theorem string_nil (s : ByteArray) (h : s.size = 0) : s = ⟨#[]⟩ := by
 apply ByteArray.ext
 exact Array.eq_empty_of_size_eq_zero h
theorem toL_ne (s : ByteArray) (h : s.size ≠ 0) : (s.toList == []) = false ∧ s.toList.isEmpty = false := by
 have h2 : s.toList ≠ [] := by
  rw [Lib.toList_data]
  intro e
  apply h
  have := congrArg List.length e
  rwa [Array.length_toList] at this
 exact ⟨by simpa using h2, by simpa using h2⟩
theorem drop_rd {α : Type} (d : α) (l : List α) (k : Nat) (h : k < l.length) : l.drop k = l.getD k d :: l.drop (k + 1) := by
 rw [List.drop_eq_getElem_cons h, List.getD_eq_getElem?_getD, List.getElem?_eq_getElem h]; rfl
set_option maxHeartbeats 4000000 in
set_option maxRecDepth 100000 in
theorem xMay.calls (A0 : Option Addr) (c0 : Nat) (l0 : List ByteArray) (A1 : Option Addr) (c1 : Nat) (l1 : List S91) (r : Bool) (w : World) (hr0 : Kd.C Kd.string w A0 l0.length l0) (hc0 : l0.length ≤ c0) (hr1 : Kd.C k91 w A1 l1.length l1) (hc1 : l1.length ≤ c1) (h : xMay.f l0 l1 = some r) :
  Calls Tryd.prog 37 #[.agg #[.slice A0 l0.length c0, .slice A1 l1.length c1]] w fun e w' => e = .returned (.bool r) ∧ Below w.heap.size w w' := by
 unfold xMay.f at h
 by_cases hc : smallQ l1 = true ∧ l0.length ≤ 1048576 ∧ l1.length ≤ 1048576
 ·
  rw [if_pos hc] at h
  obtain rfl := Option.some.inj h
  obtain ⟨hsm, hL0, hL1⟩ := hc
  have HSM := Lib.hid hsm
  have HR0 := Lib.hid hr0
  have HR1 := Lib.hid hr1
  have hm0 : Hid (mayB l0 l1 = (mayP l0 && mayQ [] l1)) := Lib.hid rfl
  generalize mayB l0 l1 = r at hm0
  have cC : Hid (∀ s w, Calls Tryd.prog 60 #[.string s, .string ⟨#[0]⟩] w fun e w' => e = .returned (.bool (zeroB s.data.toList)) ∧ w' = w) := Lib.hid fun s w => Tryd.strings_Contains_one s 0 w
  have hmm := @run_makeMap Tryd.prog
  clear hsm hr0 hr1 h
  go_enter Tryd.func37, Tryd.ntmps37
  go_wp2_with fail
  have hb0 : Below w.heap.size w (w.alloc (.cells #[.slice A0 l0.length c0, .slice A1 l1.length c1] 51)) := below_alloc (Below.refl _ _) _
  have hx0 : (w.alloc (.cells #[.slice A0 l0.length c0, .slice A1 l1.length c1] 51)).heap[w.heap.size]? = some (.cells #[.slice A0 l0.length c0, .slice A1 l1.length c1] 51 (0, 0)) := heap_alloc_new w _
  generalize w.alloc (.cells #[.slice A0 l0.length c0, .slice A1 l1.length c1] 51) = w0 at *
  have HX0 := Lib.hid hx0
  clear hx0
  go_loop [11] (fun i => ∃ k : Nat, k ≤ l0.length ∧ i = .int .i64 k ∧ Hid (r = (mayP (l0.drop k) && mayQ [] l1))) (fun i => l0.length - (intOf i).toNat)
  case atStart => exact ⟨0, by omega, rfl, hm0⟩
  case round =>
   obtain ⟨k, hk, rfl, HM⟩ := hrel
   by_cases hlt : k < l0.length
   ·
    have hdr := drop_rd ByteArray.empty l0 k hlt
    obtain ⟨ad, e0, hx⟩ := Kd.at_string HR0.out (k : Int) (by omega) (by omega)
    unfold rdOf at hx
    rw [Int.toNat_natCast] at hx
    replace hx := pw_cell_below hb0 hx
    rw [hdr] at HM
    generalize l0.getD k ByteArray.empty = s at *
    cases e0
    clear hdr
    by_cases hz : s.size = 0
    ·
     obtain rfl := string_nil s hz
     have hr : r = false := HM.out
     subst hr
     clear HM hm0
     go_wp2
     go_ret
     exact ⟨rfl, hb0⟩
    ·
     obtain ⟨z1, z2⟩ := toL_ne s hz
     by_cases hz2 : zeroB s.data.toList = true
     ·
      have hr : r = false := by rw [HM.out, mayP_cons, hz2]; simp
      subst hr
      have cc := Lib.hid (cC.out s)
      rw [hz2] at cc
      clear HM hm0 hz hz2
      go_wp2_with fail
      refine (cc.out _).mono ?_
      rintro e w1 ⟨rfl, rfl⟩
      go_wp2
      go_ret
      exact ⟨rfl, hb0⟩
     ·
      have hz3 : zeroB s.data.toList = false := by simpa using hz2
      have HM2 : Hid (r = (mayP (l0.drop (k + 1)) && mayQ [] l1)) := Lib.hid (by rw [HM.out, mayP_cons, hz3, beq_eq_false_iff_ne.mpr hz]; rfl)
      have cc := Lib.hid (cC.out s)
      rw [hz3] at cc
      clear HM hz hz2 hz3
      go_wp2_with fail
      refine (cc.out _).mono ?_
      rintro e w1 ⟨rfl, rfl⟩
      go_wp2
      go_round
      case rel => exact ⟨k + 1, by omega, by go_num, HM2⟩
      case measure => simp [intOf]; omega
   ·
    obtain rfl : k = l0.length := by omega
    have HM2 : Hid (r = mayQ [] l1) := Lib.hid (by rw [HM.out, List.drop_length]; rfl)
    have x1 : w0.cell? ⟨w.heap.size, 1, none⟩ = some (.slice A1 l1.length c1) := by have := HX0.out; simp only [World.cell?, this]; rfl
    have hba : Below w0.heap.size w0 (w0.alloc (.map #[] 0)) := below_alloc (Below.refl _ _) _
    replace x1 := pw_cell_below hba x1
    have hown := World.ownsMap_made (H := Unit) w0 Tryd.prog 9 (plainElem (H := Unit) Tryd.prog 3)
    have hgm : w0.heap.size < (w0.alloc (.map #[] 0)).heap.size := by simp
    clear HM hm0 hlt hk
    go_wp2_with fail
    replace hb0 := bthen hb0 hba
    generalize w0.alloc (.map #[] 0) = wm at *
    have h0m : w.heap.size < w0.heap.size := lt_of_block HX0.out
    generalize w0.heap.size = M at *
    have HOWN := Lib.hid hown
    clear hown hba HX0 x1
    go_loopw [26] (fun i wr => ∃ k : Nat, k ≤ l1.length ∧ i = .int .i64 k ∧ Hid (r = mayQ ((l1.take k).map fun p => p.f0.data.toList) (l1.drop k)) ∧ wr.ownsMap Tryd.prog 9 (plainElem (H := Unit) Tryd.prog 3) M k (setOf (.lit (.int .i64 1)) (keysOf ((l1.take k).map fun p => p.f0.data.toList))) ∧ Below w.heap.size w wr ∧ M < wr.heap.size) (fun i _ => l1.length - (intOf i).toNat)
    case atStart => exact ⟨0, by omega, rfl, HM2, HOWN.out, hb0, hgm⟩
    case round =>
     obtain ⟨k, hk, rfl, HM, hown, hbr, hgr⟩ := hrel
     rename_i wr
     by_cases hlt : k < l1.length
     ·
      have hdr := drop_rd z91 l1 k hlt
      have htk : (l1.take (k + 1)).map (fun p => p.f0.data.toList) = (l1.take k).map (fun p => p.f0.data.toList) ++ [(l1.getD k z91).f0.data.toList] := by
       rw [List.take_succ_eq_append_getElem hlt, List.map_append, List.getD_eq_getElem?_getD, List.getElem?_eq_getElem hlt]; rfl
      have hsp : (l1.getD k z91).f0.size ≤ 1048576 ∧ (l1.getD k z91).f1.size ≤ 1048576 := by
       have := List.all_eq_true.1 HSM.out (l1.getD k z91) (by rw [List.getD_eq_getElem?_getD, List.getElem?_eq_getElem hlt]; exact List.getElem_mem hlt)
       simpa using this
      obtain ⟨ad, e0, hx, hy⟩ := at_T91 HR1.out (k : Int) (by omega) (by omega)
      unfold rd_T91 at hx hy
      rw [Int.toNat_natCast] at hx hy
      replace hx := pw_cell_below hbr hx
      replace hy := pw_cell_below hbr hy
      rw [hdr] at HM
      have HTK := Lib.hid htk
      generalize l1.getD k z91 = p at *
      generalize (l1.take k).map (fun p => p.f0.data.toList) = acc at *
      obtain ⟨nm, vl⟩ := p
      dsimp only at hx hy HTK hsp
      obtain ⟨hs1, hs2⟩ := hsp
      cases e0
      have one1 : (#[.string nm, .string vl] : Array Value).all (·.oneCell') = true := by simp [Value.oneCell']
      have ONE := Lib.hid one1
      have HO := Lib.hid hown
      clear hdr htk one1 hown
      go_wp2_with ((refine wpList_store_row rfl 91 _ _ rfl wr.heap.size #[.string nm, .string vl] rfl rfl 91 #[.string ⟨#[]⟩, .string ⟨#[]⟩] (heap_alloc_new wr _) info_par rfl ONE.out ?_); refine Hid.out ?_)
      refine Lib.hid ?_
      have f1 := setRow_heap (wr.alloc (.cells #[.string ⟨#[]⟩, .string ⟨#[]⟩] 91)) wr.heap.size _ #[.string nm, .string vl] 91 _ (heap_alloc_new wr _)
      have f2 := below_setRow (below_alloc (Below.refl wr.heap.size wr) (.cells #[.string ⟨#[]⟩, .string ⟨#[]⟩] 91)) (Nat.le_refl _) #[.string nm, .string vl]
      generalize (wr.alloc (.cells #[.string ⟨#[]⟩, .string ⟨#[]⟩] 91)).setRow wr.heap.size #[.string nm, .string vl] = w1 at f1 f2
      have hown1 := own_blk HO.out (f2.block _ hgr)
      have hb1 := bthen hbr f2
      have hgr1 : M < w1.heap.size := Nat.lt_of_lt_of_le hgr f2.size
      have hkey : keyOf Tryd.prog 9 (.string nm) = some (.string nm.data.toList) := keyOf_string_mk Tryd.underlying9 (by unfold maxLen; omega)
      have x0 : w1.cell? ⟨wr.heap.size, 0, none⟩ = some (.string nm) := by simp only [World.cell?, f1]; rfl
      have HKEY := Lib.hid hkey
      obtain ⟨c, hrun, hat, _⟩ := hown1.lookup_int law Tryd.underlying103 Tryd.underlying3 (zero3 _) hkey
      rw [setOf_at0] at hat
      have HO1 := Lib.hid hown1
      have F1 := Lib.hid f1
      clear hkey hx hy f1 f2 hown1 HO hbr
      rcases hmem : acc.contains nm.data.toList with _ | _
      ·
       rw [if_neg (by rw [hmem]; simp)] at hat
       obtain rfl : c = 0 := by injection hat with h1; injection h1 with _ h2; exact h2.symm
       have HME := Lib.hid hmem
       clear hat hmem
       go_wp2_with (at_mapUpdate; refine wpList_mapUpdate_own _ rfl _ _ _ 103 rfl 9 3 law Tryd.underlying103 _ M k _ rfl HO1.out (by unfold maxLen; omega) _ _ _ rfl rfl HKEY.out _ [] (plainElem_int Tryd.underlying3 (a := 1) (by decide)) ?_; intro w2 hown2 hgrow2; refine Hid.out ?_)
       refine Lib.hid ?_
       clear hrun x0
       have f1 := (hgrow2.block wr.heap.size (lt_of_block F1.out) (fun e => by have := Option.some.inj e; omega)).trans F1.out
       have x0 : w2.cell? ⟨wr.heap.size, 0, none⟩ = some (.string nm) := by simp only [World.cell?, f1]; rfl
       have x1 : w2.cell? ⟨wr.heap.size, 1, none⟩ = some (.string vl) := by simp only [World.cell?, f1]; rfl
       have hb2 : Below w.heap.size w w2 := hb1.grown hgrow2 hb1.size (fun j hj => by cases hj; omega)
       have hgr2 : M < w2.heap.size := Nat.lt_of_lt_of_le hgr1 hgrow2.size
       obtain ⟨c, hrun, hat, _⟩ := hown2.lookup_int law Tryd.underlying103 Tryd.underlying3 (zero3 _) HKEY.out
       rw [atKey_put_same (isMap_set _) (show WideAt.IsKeyLit (.string nm.data.toList) from trivial)] at hat
       obtain rfl : c = 1 := by injection hat with h1; injection h1 with _ h2; exact h2.symm
       have HO2 := Lib.hid hown2
       clear hat hown2 hgrow2 f1
       by_cases hz : nm.size = 0
       ·
        obtain rfl := string_nil nm hz
        have hr : r = false := HM.out
        subst hr
        clear HM HM2
        go_wp2
        go_ret
        exact ⟨rfl, hb2⟩
       ·
        obtain ⟨z1, z2⟩ := toL_ne nm hz
        by_cases hz2 : zeroB (nm ++ vl).data.toList = true
        ·
         have hr : r = false := by rw [HM.out, mayQ_cons]; dsimp only; rw [hz2]; simp
         subst hr
         have cc := Lib.hid (cC.out (nm ++ vl))
         rw [hz2] at cc
         clear HM HM2 hz hz2
         go_wp2_with fail
         refine (cc.out _).mono ?_
         rintro e w3 ⟨rfl, rfl⟩
         go_wp2
         go_ret
         exact ⟨rfl, hb2⟩
        ·
         have hz3 : zeroB (nm ++ vl).data.toList = false := by simpa using hz2
         have cc := Lib.hid (cC.out (nm ++ vl))
         rw [hz3] at cc
         have HM3 : Hid (r = mayQ (acc ++ [nm.data.toList]) (l1.drop (k + 1))) := Lib.hid (by rw [HM.out, mayQ_cons]; dsimp only; rw [hz3, HME.out, beq_eq_false_iff_ne.mpr hz]; rfl)
         clear HM HM2 hz hz2 hz3
         go_wp2_with fail
         refine (cc.out _).mono ?_
         rintro e w3 ⟨rfl, rfl⟩
         go_wp2
         go_roundw
         case rel => exact ⟨k + 1, by omega, by go_num, by rw [HTK.out]; exact HM3, by rw [HTK.out]; exact set_put HO2.out, hb2, hgr2⟩
         case measure => simp [intOf]; omega
      ·
       rw [if_pos hmem] at hat
       obtain rfl : c = 1 := by injection hat with h1; injection h1 with _ h2; exact h2.symm
       have HME := Lib.hid hmem
       clear hat hmem
       go_wp2_with (at_mapUpdate; refine wpList_mapUpdate_own _ rfl _ _ _ 103 rfl 9 3 law Tryd.underlying103 _ M k _ rfl HO1.out (by unfold maxLen; omega) _ _ _ rfl rfl HKEY.out _ [] (plainElem_int Tryd.underlying3 (a := 2) (by decide)) ?_; intro w2 hown2 hgrow2; refine Hid.out ?_)
       refine Lib.hid ?_
       clear hrun x0
       have f1 := (hgrow2.block wr.heap.size (lt_of_block F1.out) (fun e => by have := Option.some.inj e; omega)).trans F1.out
       have x0 : w2.cell? ⟨wr.heap.size, 0, none⟩ = some (.string nm) := by simp only [World.cell?, f1]; rfl
       have x1 : w2.cell? ⟨wr.heap.size, 1, none⟩ = some (.string vl) := by simp only [World.cell?, f1]; rfl
       have hb2 : Below w.heap.size w w2 := hb1.grown hgrow2 hb1.size (fun j hj => by cases hj; omega)
       have hgr2 : M < w2.heap.size := Nat.lt_of_lt_of_le hgr1 hgrow2.size
       obtain ⟨c, hrun, hat, _⟩ := hown2.lookup_int law Tryd.underlying103 Tryd.underlying3 (zero3 _) HKEY.out
       rw [atKey_put_same (isMap_set _) (show WideAt.IsKeyLit (.string nm.data.toList) from trivial)] at hat
       obtain rfl : c = 2 := by injection hat with h1; injection h1 with _ h2; exact h2.symm
       have HO2 := Lib.hid hown2
       clear hat hown2 hgrow2 f1
       by_cases hz : nm.size = 0
       ·
        obtain rfl := string_nil nm hz
        have hr : r = false := HM.out
        subst hr
        clear HM HM2
        go_wp2
        go_ret
        exact ⟨rfl, hb2⟩
       ·
        obtain ⟨z1, z2⟩ := toL_ne nm hz
        by_cases hz2 : zeroB (nm ++ vl).data.toList = true
        ·
         have hr : r = false := by rw [HM.out, mayQ_cons]; dsimp only; rw [hz2]; simp
         subst hr
         have cc := Lib.hid (cC.out (nm ++ vl))
         rw [hz2] at cc
         clear HM HM2 hz hz2
         go_wp2_with fail
         refine (cc.out _).mono ?_
         rintro e w3 ⟨rfl, rfl⟩
         go_wp2
         go_ret
         exact ⟨rfl, hb2⟩
        ·
         have hz3 : zeroB (nm ++ vl).data.toList = false := by simpa using hz2
         have cc := Lib.hid (cC.out (nm ++ vl))
         rw [hz3] at cc
         have hr : r = false := by rw [HM.out, mayQ_cons]; dsimp only; rw [HME.out]; simp
         subst hr
         clear HM HM2 hz hz2 hz3
         go_wp2_with fail
         refine (cc.out _).mono ?_
         rintro e w3 ⟨rfl, rfl⟩
         go_wp2
         go_ret
         exact ⟨rfl, hb2⟩
     ·
      have hr : r = true := by rw [HM.out, show k = l1.length by omega, List.drop_length]; rfl
      subst hr
      clear HM HM2
      go_wp2
      go_ret
      exact ⟨rfl, hbr⟩
 ·
  rw [if_neg hc] at h; cases h
end Go.Proofs.YtnfimhdcpmakpaaDoor.S
