/-
  The library's functions over strings, at a sign of one byte, as the walks meet them.
-/
import Derived.Test.YtnfimhdcpmakpaaDoorShelfP
import Derived.Test.YtnfimhdcpmakpaaDoorWWordsP
import Derived.Test.YtnfimhdcpmakpaaDoorWRepsOneP
import Derived.Lib.Hide
namespace Go.Proofs.YtnfimhdcpmakpaaDoor.S
open Go.RowKit Go.Proofs.YtnfimhdcpmakpaaDoorW.PrintWords
set_option linter.unusedVariables false
def cutAll (c : UInt8) : List UInt8 → List (List UInt8)
  | [] => [[]]
  | b :: l => if b = c then [] :: cutAll c l else match cutAll c l with | [] => [[b]] | x :: r => (b :: x) :: r
theorem cutAll_ne (c : UInt8) : ∀ l, cutAll c l ≠ []
  | [] => by simp [cutAll]
  | b :: l => by
    unfold cutAll
    split
    · simp
    · split <;> simp
theorem cutAll_none {c : UInt8} : ∀ {l : List UInt8}, Lib.indexByte l c = -1 → cutAll c l = [l]
  | [], _ => rfl
  | b :: l, h => by
    unfold Lib.indexByte at h
    by_cases hb : b = c
    · rw [if_pos (by simpa using hb)] at h; omega
    · rw [if_neg (by simpa using hb)] at h
      have hl : Lib.indexByte l c = -1 := by
        by_cases e : Lib.indexByte l c = -1
        · exact e
        · rw [if_neg (by simpa using e)] at h
          have := Lib.indexByte_ge l c
          omega
      unfold cutAll
      rw [if_neg hb, cutAll_none hl]
theorem cutAll_some {c : UInt8} : ∀ {l : List UInt8} {i : Nat}, Lib.indexByte l c = i → cutAll c l = l.take i :: cutAll c (l.drop (i + 1))
  | [], i, h => by simp [Lib.indexByte] at h
  | b :: l, i, h => by
    unfold Lib.indexByte at h
    by_cases hb : b = c
    · rw [if_pos (by simpa using hb)] at h
      have : i = 0 := by omega
      subst this
      rw [cutAll, if_pos hb]
      rfl
    · rw [if_neg (by simpa using hb)] at h
      by_cases e : Lib.indexByte l c = -1
      · rw [if_pos (by simpa using e)] at h; omega
      · rw [if_neg (by simpa using e)] at h
        have := Lib.indexByte_ge l c
        obtain ⟨j, rfl⟩ : ∃ j, i = j + 1 := ⟨i - 1, by omega⟩
        have hj : Lib.indexByte l c = j := by omega
        rw [cutAll, if_neg hb, cutAll_some hj]
        rfl
theorem one_ba {s : ByteArray} (h : s.size = 1) : s = ⟨#[s.data.toList.headD 0]⟩ := by
  obtain ⟨c, rfl⟩ := Lib.one_byte s h
  rfl
theorem splitB_cut (c : UInt8) : ∀ (n : Nat) (s : ByteArray), Lib.countB s ⟨#[c]⟩ = n → Lib.splitB ⟨#[c]⟩ 0 n s = (cutAll c s.data.toList).map fun l => ⟨l.toArray⟩
  | n, s, hn => by
    have hix : Lib.indexB s ⟨#[c]⟩ = Lib.indexByte s.data.toList c := Lib.index_one _ _
    have hge := Lib.indexByte_ge s.data.toList c
    by_cases h : Lib.indexByte s.data.toList c = -1
    · rw [Lib.splitB_miss _ _ _ _ (hix.trans h), cutAll_none h]
      rfl
    · obtain ⟨i, hi⟩ : ∃ i : Nat, Lib.indexByte s.data.toList c = i := ⟨(Lib.indexByte s.data.toList c).toNat, by omega⟩
      have hc := Lib.countB_hit s ⟨#[c]⟩ i (by show 1 ≤ 1; omega) (hix.trans hi)
      have hsz : (⟨#[c]⟩ : ByteArray).size = 1 := rfl
      rw [hsz] at hc
      obtain ⟨m, rfl⟩ : ∃ m, n = m + 1 := ⟨n - 1, by omega⟩
      unfold Lib.splitB
      rw [hix, hi, if_neg (by simp), hsz, cutAll_some hi, Int.toNat_natCast, splitB_cut c m _ (by omega)]
      simp only [List.map_cons]
      have e1 : s.extract 0 (i + 0) = ⟨(s.data.toList.take i).toArray⟩ := by
        apply ByteArray.ext
        apply Array.toList_inj.1
        rw [ByteArray.data_extract, Array.toList_extract]
        simp [List.extract]
      have e2 : (s.extract (i + 1) s.size).data.toList = s.data.toList.drop (i + 1) := by
        rw [ByteArray.data_extract, Array.toList_extract]
        simp only [List.extract]
        apply List.take_of_length_le
        rw [List.length_drop, Array.length_toList]
        exact Nat.le_refl _
      rw [e1, e2]
def xIndex.f (s sep : ByteArray) : Option Int := if sep.size = 1 then some (Lib.indexByte s.data.toList (sep.data.toList.headD 0)) else none
theorem xIndex.calls (s sep : ByteArray) (r : Int) (w : World) (h : xIndex.f s sep = some r) : Calls Tryd.prog 70 #[.string s, .string sep] w fun e w' => e = .returned (.int .i64 r) ∧ Drawn0 w w' := by
  unfold xIndex.f at h
  by_cases h1 : sep.size = 1
  · rw [if_pos h1] at h
    cases h
    rw [one_ba h1]
    exact (Tryd.stringslite_Index_one s _ w).mono fun e w' ⟨he, hw⟩ => ⟨he, hw ▸ Drawn0.refl _⟩
  · rw [if_neg h1] at h; cases h
def xIndexByte.f (s : ByteArray) (c : Int) : Option Int := some (Lib.indexByte s.data.toList c.toNat.toUInt8)
theorem xIndexByte.calls (s : ByteArray) (c : Int) (r : Int) (w : World) (h : xIndexByte.f s c = some r) : Calls Tryd.prog 85 #[.string s, .int .u8 c] w fun e w' => e = .returned (.int .i64 r) ∧ Drawn0 w w' := by
  cases h
  exact (Tryd.strings_IndexByte s c w).mono fun e w' ⟨he, hw⟩ => ⟨he, hw ▸ Drawn0.refl _⟩
theorem reps_strings (w : World) (base : Nat) (ok : Nat → Prop) : ∀ xs : List ByteArray, Reps (Kd.string.M w base ok) 1 xs (xs.map Value.string)
  | [] => Reps.none _ _
  | x :: xs => Reps.one (show Kd.M Kd.string _ _ _ x [.string x] from rfl) (reps_strings w base ok xs)
theorem R_strings (w : World) (xs : List ByteArray) (h : xs.length ≤ 9223372036854775807) : Kd.R Kd.string 9 (w.alloc (.cells (xs.map Value.string).toArray 9)) w.heap.size (fun _ => True) (.slice (some ⟨w.heap.size, 0, none⟩) xs.length xs.length) xs := by
  refine ⟨fun _ _ => trivial, xs.map Value.string, ?_, reps_strings _ _ _ _⟩
  have h2 := World.ownsRow_lit (base := w.heap.size) (e := 9) (size := 1) w (xs.map Value.string).toArray xs.length (Nat.le_refl _) (by simpa [maxLen] using h) (by simp)
  have h3 : Kd.string.sz = 1 := rfl
  rw [h3]
  simpa using h2
def xSplit.f (s sep : ByteArray) : Option (List ByteArray) := if sep.size = 1 then (if s.size < 4294967281 then some ((cutAll (sep.data.toList.headD 0) s.data.toList).map fun l => ⟨l.toArray⟩) else none) else none
set_option maxHeartbeats 1000000 in
set_option maxRecDepth 100000 in
theorem xSplit.calls (s sep : ByteArray) (r : List ByteArray) (w : World) (h : xSplit.f s sep = some r) : Calls Tryd.prog 58 #[.string s, .string sep] w fun e w' => ∃ v0_ : Value, e = .returned v0_ ∧ Kd.R Kd.string 9 w' w.heap.size (fun _ => True) v0_ r ∧ Below w.heap.size w w' := by
  unfold xSplit.f at h
  by_cases h1 : sep.size = 1
  · by_cases h2 : s.size < 4294967281
    · rw [if_pos h1, if_pos h2] at h
      have hsep := one_ba h1
      generalize sep.data.toList.headD 0 = c at h hsep
      subst hsep
      have hsp := splitB_cut c _ s rfl
      have hln := Lib.splitB_all ⟨#[c]⟩ (by show 1 ≤ 1; omega) 0 _ s rfl
      have hle := Lib.countB_le ⟨#[c]⟩ (by show 1 ≤ 1; omega) s.size s (Nat.le_refl _)
      have hr : Lib.splitB ⟨#[c]⟩ 0 (Lib.countB s ⟨#[c]⟩) s = r := hsp.trans (Option.some.inj h)
      have hi9 : (Tryd.prog.info? 9).map (fun i => (i.zero, i.size, i.bytes)) = some (some (.string ByteArray.empty), 1, 16) := by kernel_rfl
      have hI : ∀ (x : ByteArray) (cs : Array Value), x.size ≤ s.size → Calls Tryd.prog 75 #[.string x, .string ⟨#[c]⟩] (w.alloc (.cells cs 9)) fun e w' => e = .returned (.int .i64 (Lib.indexB x ⟨#[c]⟩)) ∧ w' = w.alloc (.cells cs 9) := fun x cs _ => by
        have := Tryd.strings_Index_one x c (w.alloc (.cells cs 9))
        rw [← Lib.index_one] at this
        exact this
      have hC : Calls Tryd.prog 84 #[.string s, .string ⟨#[c]⟩] w fun e w' => e = .returned (.int .i64 (Lib.countB s ⟨#[c]⟩)) ∧ w' = w := by
        refine (Tryd.strings_Count_one s c w).mono fun e w' ⟨he, hw⟩ => ⟨?_, hw⟩
        rw [he]
        show _ = Ending.returned (Value.int .i64 ((Lib.count s.data.toList [c] : Nat) : Int))
        rw [Lib.count_one]
        rfl
      have cG := Any.strings_genSplit_core Tryd.lays221 hi9 s ⟨#[c]⟩ 0 (-1) (Lib.countB s ⟨#[c]⟩ + 1) w h2 (by show 1 ≤ 1; omega) (Nat.zero_le _) hI hC (by decide) (by decide) (by rw [if_pos (by decide)]; omega)
      have ec := Lib.cellsOf_full (Lib.splitB ⟨#[c]⟩ 0 (Lib.countB s ⟨#[c]⟩) s)
      rw [hln] at ec
      rw [Nat.add_sub_cancel, hln, ec, hr] at cG
      rw [hr] at hln
      have hRS := R_strings w r (by omega)
      rw [hln] at hRS
      generalize Lib.countB s ⟨#[c]⟩ + 1 = n at cG hRS
      have cH : Calls Tryd.prog 72 #[.string s, .string ⟨#[c]⟩, .int .i64 0, .int .i64 (-1)] w fun e w' => e = .returned (.slice (some ⟨w.heap.size, 0, none⟩) n n) ∧ w' = w.alloc (.cells (r.map Value.string).toArray 9) := cG
      have CH := Lib.hid cH
      have HRS := Lib.hid hRS
      clear cG cH hRS hI hC hi9 ec hln hr hsp h h1 h2 hle
      go_enter Tryd.func58, Tryd.ntmps58
      go_wp2_with fail
      refine CH.out.mono ?_
      rintro e w' ⟨rfl, hw⟩
      rw [hw]
      go_wp2
      go_ret
      exact ⟨_, rfl, HRS.out, below_alloc (Below.refl _ _) _⟩
    · rw [if_pos h1, if_neg h2] at h; cases h
  · rw [if_neg h1] at h; cases h
end Go.Proofs.YtnfimhdcpmakpaaDoor.S
