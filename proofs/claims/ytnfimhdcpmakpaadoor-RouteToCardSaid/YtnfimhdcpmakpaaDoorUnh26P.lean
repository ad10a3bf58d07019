/-
 names.Unhex by hand: its row is made with a capacity.
-/
import Derived.Test.YtnfimhdcpmakpaaDoorHexLP
import Derived.Test.YtnfimhdcpmakpaaDoorSx1P
namespace Go.Proofs.YtnfimhdcpmakpaaDoor.S
open Go.RowKit Go.Proofs.YtnfimhdcpmakpaaDoorW.PrintWords
set_option linter.unusedVariables false
set_option linter.unusedSimpArgs false
def hv (c : Int) : Option Int := if 48 ≤ c ∧ c ≤ 57 then some (c - 48) else if 97 ≤ c ∧ c ≤ 102 then some (c - 87) else none
theorem hv_range (c n : Int) (h : hv c = some n) : 0 ≤ n ∧ n ≤ 15 := by
 unfold hv at h
 split at h
 ·
  cases h; omega
 ·
  split at h
  ·
   cases h; omega
  ·
   cases h
theorem half_f (k : Nat) (hk : 2 ≤ k) (c : Int) (h0 : 0 ≤ c) (h1 : c ≤ 255) : names_half.f k c = some ((hv c).getD 0, (hv c).isSome) := by
 obtain ⟨k, rfl⟩ : ∃ j, k = j + 2 := ⟨k - 2, by omega⟩
 unfold names_half.f hv
 simp only [names_half.j0]
 by_cases a : 48 ≤ c
 ·
  by_cases b : c ≤ 57
  ·
   simp [a, b]; omega
  ·
   by_cases d : 97 ≤ c
   ·
    by_cases e : c ≤ 102
    ·
     simp [a, b, d, e]; omega
    ·
     simp [a, b, d, e]
   ·
    simp [a, b, d]
 ·
  have d : ¬ 97 ≤ c := by omega
  simp [a, d]
def uh (b : Nat → Int) : Nat → List Int × Int
 | 0 => ([], 0)
 | k + 1 => if k % 2 = 0 then ((uh b k).1, 16 * (hv (b k)).getD 0) else ((uh b k).1 ++ [(uh b k).2 + (hv (b k)).getD 0], (uh b k).2)
theorem uh_even (b : Nat → Int) (k : Nat) (h : k % 2 = 0) : uh b (k + 1) = ((uh b k).1, 16 * (hv (b k)).getD 0) := by rw [uh, if_pos h]
theorem uh_odd (b : Nat → Int) (k : Nat) (h : ¬ k % 2 = 0) : uh b (k + 1) = ((uh b k).1 ++ [(uh b k).2 + (hv (b k)).getD 0], (uh b k).2) := by rw [uh, if_neg h]
theorem uh_len (b : Nat → Int) : ∀ k, (uh b k).1.length = k / 2
 | 0 => rfl
 | k + 1 => by
  have := uh_len b k
  unfold uh
  by_cases h : k % 2 = 0
  ·
   rw [if_pos h]; simp; omega
  ·
   rw [if_neg h]; simp; omega
def okd (b : Nat → Int) (k : Nat) : Prop := ∀ j, j < k → (hv (b j)).isSome = true
def byteAt (s : ByteArray) (j : Nat) : Int := bt s j
theorem byteAt_eq (s : ByteArray) (j : Nat) (h : j < s.size) : ((s[j]'h).toNat : Int) = byteAt s j := bt_at s j h
theorem hi_range (b : Nat → Int) : ∀ k, 0 ≤ (uh b k).2 ∧ (uh b k).2 ≤ 240 ∧ (uh b k).2 % 16 = 0
 | 0 => by simp [uh]
 | k + 1 => by
  have := hi_range b k
  unfold uh
  by_cases h : k % 2 = 0
  ·
   rw [if_pos h]
   cases e : hv (b k) with
   | none => simp
   | some n => have := hv_range _ _ e; simp; omega
  ·
   rw [if_neg h]; exact this
theorem wraps_i64 (n : Int) (h₀ : 0 ≤ n) (h₁ : n < 2 ^ 62) : IntKind.i64.wrap n = n := by rw [IntKind.wrap_i64]; omega
theorem and_one (k : Nat) (h : k ≤ 1048576) : Go.bits .and .i64 (k : Int) 1 = ((k % 2 : Nat) : Int) := by
 have := bits_mask .i64 62 (by decide) wraps_i64 1 (by decide) (k : Int) (by omega) (by omega)
 simpa using this
theorem or_half (h n : Int) (h0 : 0 ≤ h) (h1 : h ≤ 240) (h2 : h % 16 = 0) (n0 : 0 ≤ n) (n1 : n ≤ 15) : Go.bits .or .u8 h n = h + n :=
 bits_join .u8 8 (by decide) wraps_u8 4 h n h0 (by omega) (by omega) n0 (by omega) (by omega)
set_option maxHeartbeats 1000000 in
set_option maxRecDepth 100000 in
theorem unhex_any (s : ByteArray) (w : World) (hlen : s.size ≤ 1048576) :
  Calls Tryd.prog 41 #[.string s] w fun e w' => ∃ (v : Value) (r : List Int) (c : Int), e = .returned (.tuple #[v, .int .i64 c]) ∧ Hid ((okd (byteAt s) s.size ∧ s.size % 2 = 0 → r = (uh (byteAt s) s.size).1 ∧ c = 0) ∧ (¬ (okd (byteAt s) s.size ∧ s.size % 2 = 0) → r = [] ∧ c = 4)) ∧ Kd.R (Kd.int .u8) 5 w' w.heap.size (fun _ => True) v r ∧ Below w.heap.size w w' := by
 obtain ⟨i0, hi, hz0, hz1, hz2⟩ := info_parts (show (Tryd.prog.info? 5).map (fun i => (i.zero, i.size, i.bytes)) = some (some (.int .u8 0), 1, 1) by kernel_rfl)
 go_enter Tryd.func41, Tryd.ntmps41
 go_wp2_with (at_make; refine wpList_make_own _ rfl _ _ 23 rfl w.heap.size 5 i0 (.int .u8 0) 1 Tryd.underlying23 hi hz0 hz1 .i64 .i64 _ (s.size / 2) rfl rfl (by omega) (by rw [hz2]; omega) (by unfold maxLen; omega) (Nat.le_refl _) ?_; intro w1 hown1 hg1; refine Hid.out ?_)
 refine Lib.hid ?_
 have hb1 : Below w.heap.size w w1 := (Below.refl _ _).grown hg1 (Nat.le_refl _) (fun k h => by cases h)
 have HO := Lib.hid hown1
 clear hown1 hg1
 go_wp2_with fail
 go_loopw [4, 5, 15] (fun v hi i wr => ∃ (k : Nat) (h : Int), k ≤ s.size ∧ i = .int .i64 k ∧ hi = .int .u8 h ∧ Hid (h = (uh (byteAt s) k).2 ∧ okd (byteAt s) k) ∧ RowAt w wr v (uh (byteAt s) k).1) (fun _ _ i _ => s.size - (intOf i).toNat)
 case atStart => exact ⟨0, 0, by omega, rfl, rfl, Lib.hid ⟨rfl, fun j h => by omega⟩, ⟨by simpa [uh, nums] using HO.out, hb1⟩⟩
 case round =>
  obtain ⟨k, h, hk, rfl, rfl, HH, H⟩ := hrel
  rename_i v0 wr
  by_cases hlt : k < s.size
  ·
   have hbr := bt_range s k
   have hbe := byteAt_eq s k hlt
   have hc : Hid (∀ w, Calls Tryd.prog 63 #[.int .u8 (s[k].toNat : Int)] w fun e w' => e = .returned (.tuple #[.int .u8 ((hv (byteAt s k)).getD 0), .bool (hv (byteAt s k)).isSome]) ∧ Drawn0 w w') :=
    Lib.hid fun w => by rw [hbe]; exact names_half.calls 2 _ _ _ w (half_f 2 (by omega) _ hbr.1 hbr.2)
   clear hbr hbe
   cases hn : hv (byteAt s k) with
   | none =>
    rw [hn] at hc
    have HN := Lib.hid hn
    clear hn
    go_wp2_with fail
    refine (hc.out _).mono ?_
    rintro e w2 ⟨rfl, hd2⟩
    have hb2 := bthen H.below hd2.below
    clear hd2 H
    go_wp2
    go_ret2
    refine ⟨_, [], 4, rfl, Lib.hid ⟨fun h => ?_, fun _ => ⟨rfl, rfl⟩⟩, Kd.R_nil _ _ _ _ _, hb2⟩
    have := h.1 k hlt
    rw [HN.out] at this; cases this
   | some n =>
    rw [hn] at hc
    have hnr := hv_range _ _ hn
    have HN := Lib.hid hn
    clear hn
    go_wp2_with fail
    refine (hc.out _).mono ?_
    rintro e w2 ⟨rfl, hd2⟩
    have H2 := H.step hd2.below
    clear hd2 H
    have hokd : okd (byteAt s) (k + 1) := fun j hj => by
     by_cases e : j = k
     ·
      rw [e, HN.out]; rfl
     ·
      exact HH.out.2 j (by omega)
    have HK := Lib.hid hokd
    clear hokd
    have ha := and_one k (by omega)
    by_cases hp : k % 2 = 0
    ·
     have ht : (Go.bits .and .i64 (k : Int) 1 == 0) = true := by rw [ha, hp] <;> rfl
     clear ha
     go_wp2
     go_roundw
     case rel => exact ⟨k + 1, n * 16, by omega, by go_num, rfl, Lib.hid ⟨by rw [uh_even _ _ hp, HN.out]; exact Int.mul_comm n 16, HK.out⟩, by rw [uh_even _ _ hp]; exact H2⟩
     case measure => simp [intOf]; omega
    ·
     have ht : (Go.bits .and .i64 (k : Int) 1 == 0) = false := by rw [ha, show k % 2 = 1 by omega] <;> rfl
     clear ha
     have hr := hi_range (byteAt s) k
     rw [← HH.out.1] at hr
     have EO := Lib.hid (or_half h n hr.1 hr.2.1 hr.2.2 hnr.1 hnr.2)
     clear hr
     have hsz : (uh (byteAt s) k).1.length + 1 ≤ 140737488355328 := by rw [uh_len]; omega
     go_wp2_with (at_builtin; refine row_app rfl _ _ 23 rfl Tryd.underlying23 (by kernel_rfl) [Go.bits .or .u8 h n] _ rfl rfl rfl H2 hsz ?_; intro v1 w4 H4; refine Hid.out ?_)
     refine Lib.hid ?_
     clear H2 hsz
     go_wp2
     go_roundw
     case rel => exact ⟨k + 1, h, by omega, by go_num, rfl, Lib.hid ⟨by rw [uh_odd _ _ hp]; exact HH.out.1, HK.out⟩, by rw [uh_odd _ _ hp, HN.out, ← HH.out.1, Option.getD_some, ← EO.out]; exact H4⟩
     case measure => simp [intOf]; omega
  ·
   have hkn : k = s.size := by omega
   subst hkn
   have ha := and_one s.size hlen
   have HB := Lib.hid H.below
   have HOW := Lib.hid (R_of_nums H.own)
   clear H
   by_cases hp : s.size % 2 = 0
   ·
    have ht : (Go.bits .and .i64 (s.size : Int) 1 == 1) = false := by rw [ha, hp] <;> rfl
    clear ha
    go_wp2
    go_ret2
    exact ⟨_, _, 0, rfl, Lib.hid ⟨fun _ => ⟨rfl, rfl⟩, fun hx => absurd ⟨HH.out.2, hp⟩ hx⟩, HOW.out, HB.out⟩
   ·
    have ht : (Go.bits .and .i64 (s.size : Int) 1 == 1) = true := by rw [ha, show s.size % 2 = 1 by omega] <;> rfl
    clear ha
    go_wp2
    go_ret2
    exact ⟨_, [], 4, rfl, Lib.hid ⟨fun hx => absurd hx.2 hp, fun _ => ⟨rfl, rfl⟩⟩, Kd.R_nil _ _ _ _ _, HB.out⟩
instance (b : Nat → Int) (k : Nat) : Decidable (okd b k) := by unfold okd; infer_instance
def unh (s : ByteArray) : List Int × Int := if okd (byteAt s) s.size ∧ s.size % 2 = 0 then ((uh (byteAt s) s.size).1, 0) else ([], 4)
def xUnhex.f (a0 : ByteArray) : Option (List Int × Int) := if a0.size ≤ 1048576 then some (unh a0) else none
theorem xUnhex.calls (a0 : ByteArray) (r1 : List Int) (r2 : Int) (w : World) (h : xUnhex.f a0 = some (r1, r2)) :
  Calls Tryd.prog 41 #[.string a0] w fun e w' => ∃ v0_ : Value, e = .returned (.tuple #[v0_, .int .i64 r2]) ∧ Kd.R (Kd.int .u8) 5 w' w.heap.size (fun _ => True) v0_ r1 ∧ Below w.heap.size w w' := by
 unfold xUnhex.f at h
 split at h
 case isFalse => cases h
 rename_i hl
 have e := Option.some.inj h
 unfold unh at e
 refine (unhex_any a0 w hl).mono ?_
 rintro x w' ⟨v, r, c, rfl, hh, hr, hb⟩
 split at e
 ·
  rename_i ho
  obtain ⟨rfl, rfl⟩ := hh.out.1 ho
  obtain ⟨rfl, rfl⟩ := Prod.mk.inj e
  exact ⟨v, rfl, hr, hb⟩
 ·
  rename_i ho
  obtain ⟨rfl, rfl⟩ := hh.out.2 ho
  obtain ⟨rfl, rfl⟩ := Prod.mk.inj e
  exact ⟨v, rfl, hr, hb⟩
end Go.Proofs.YtnfimhdcpmakpaaDoor.S
