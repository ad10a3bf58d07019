/-
  RouteBare, walked.
-/
import Derived.Test.YtnfimhdcpmakpaaDoorBar26
namespace Go.Proofs.YtnfimhdcpmakpaaDoor.S
open Go.RowKit Go.Proofs.YtnfimhdcpmakpaaDoorW.PrintWords
set_option linter.unusedVariables false
set_option linter.unusedSimpArgs false
def tk (l : List Int) : List Int := if l.length = 0 then [0] else l
theorem to_bare (l : List Int) (hl : ∀ c ∈ l, 0 ≤ c ∧ c ≤ 255) (hn : l.length ≤ 500) : toF 60 ⟨#[71, 69, 84]⟩ ⟨#[47, 97, 47, 108, 111, 103]⟩ [⟨⟨#[97, 117, 116, 104, 111, 114, 105, 122, 97, 116, 105, 111, 110]⟩, (⟨#[66, 101, 97, 114, 101, 114, 32]⟩ : ByteArray) ++ strOfNums (hexl l)⟩] = some ({ zeroO with dv := 16 }, tk l, 0) := by
  refine (to_log _).trans ?_
  have h := token_hex l hl hn
  unfold AUTH BEAR at h
  rw [h]
  rfl
theorem to_bare0 : toF 60 ⟨#[71, 69, 84]⟩ ⟨#[47, 97, 47, 108, 111, 103]⟩ [] = some ({ zeroO with dv := 16 }, [], 0) := by
  refine (to_log _).trans ?_
  rw [token_none]
  rfl
set_option maxHeartbeats 4000000 in
set_option maxRecDepth 100000 in
theorem bare_small (w : World) (A : Option Addr) (c : Nat) (l : List Int) (hC : Kd.C (Kd.int .u8) w A l.length l) (hc : l.length ≤ c) (hl : ∀ c ∈ l, 0 ≤ c ∧ c ≤ 255) (hn : l.length ≤ 500) :
    Calls Tryd.prog 5 #[.slice A l.length c] w fun e w' => e = .returned (.bool true) ∧ Below w.heap.size w w' := by
  have HL := Lib.hid hl
  have HC := Lib.hid hC
  have c1 := Lib.hid (begun_any)
  have hx : xRefHex.f l = some (strOfNums (hexl l)) := by unfold xRefHex.f; rw [if_pos ⟨by omega, hl⟩]
  have HX := Lib.hid hx
  have hn1 : (l.length : Int) ≤ 500 := by omega
  have hn2 : decide ((500 : Int) < (l.length : Int)) = false := decide_eq_false (by omega)
  clear hl hC hx
  go_enter Tryd.func5, Tryd.ntmps5
  go_wp2_with fail
  refine (c1.out _).mono ?_
  rintro _ w1 ⟨rfl, hb1⟩
  replace HC := Lib.hid (Kd.C_below HC.out hb1)
  have HB := Lib.hid hb1
  clear hb1 c1
  go_wp2_with fail
  refine (xRefHex.calls A c l _ _ HC.out hc HX.out).mono ?_
  rintro _ w2 ⟨rfl, ⟨nd, rfl⟩⟩
  have hb2 : Below w1.heap.size w1 (w1.drewN nd) := pw_below_drewN (Below.refl _ _) nd
  replace HC := Lib.hid (Kd.C_below HC.out hb2)
  replace HB := Lib.hid (bthen HB.out hb2)
  generalize w1.drewN nd = w2 at HC HB hb2 ⊢
  clear hb2 HX
  have hsz : (strOfNums (hexl l)).size ≤ 1000 := by rw [hex_size]; omega
  have HTO := Lib.hid (to_bare l HL.out hn)
  generalize strOfNums (hexl l) = hs at hsz HTO ⊢
  go_wp2_with ((with_reducible refine gate_dst (N := 18) rfl ?_); refine Kd.R_lit k41 _ 41 ?hg (N := 18) ?hd (xs := ([⟨⟨#[97, 117, 116, 104, 111, 114, 105, 122, 97, 116, 105, 111, 110]⟩, (⟨#[66, 101, 97, 114, 101, 114, 32]⟩ : ByteArray) ++ hs⟩] : List S41)) (inner := [.string ⟨#[97, 117, 116, 104, 111, 114, 105, 122, 97, 116, 105, 111, 110]⟩, .string ((⟨#[66, 101, 97, 114, 101, 114, 32]⟩ : ByteArray) ++ hs)]) (ok := fun _ => True) (okp := fun _ => True) ?hr ?hp (fun _ hk => hk) trivial (Below.refl _ _) (Nat.le_refl _) (by simp) ?_; (case hd => rfl); (case hg => rfl); (case hr => first | (go_simp; done) | (go_simp; rfl)); (case hp => exact (Reps.c2 (k41_mkM _ _ _ _) (Reps.none _ _))); intro v3 w3 ho3 hb3 hg_ hnew_; clear hg_ hnew_; obtain ⟨A3, n3, e3⟩ := Kd.R_slice ho3; subst e3)
  have hA3 := (Kd.R_reads' ho3).2.2
  refine (to_any 60 _ _ A3 n3 _ none 0 0 false _ _ _ _ (Kd.R_reads' ho3).2.2 (Kd.R_reads' ho3).2.1 HTO.out).mono ?_
  rintro _ w4 ⟨⟨v, rfl, r⟩, hb4⟩
  replace HC := Lib.hid (Kd.C_below HC.out (bthen hb3 hb4))
  replace HB := Lib.hid (below_then HB.out HB.out.size (bthen hb3 hb4))
  clear hA3 hb3 hb4 ho3 HTO
  obtain ⟨A4, n4, ev⟩ := Kd.R_slice r
  subst ev
  obtain ⟨o4, ho⟩ : ∃ o, o = ({ zeroO with dv := 16, tok := .slice A4 (tk l).length n4 } : OpV) := ⟨_, rfl⟩
  have hl : o4.of_.length = 32 := by rw [ho]; rfl
  have hn3 : (opA o4).all (·.oneCell') = true := one_op o4 (by rw [ho]; rfl) (by rw [ho]; rfl)
  have ht : o4.tok = .slice A4 (tk l).length n4 := by rw [ho]
  rw [← ho]
  clear ho
  go_wp2_with ((refine wpList_store_row rfl 33 _ _ rfl w4.heap.size (opA o4) rfl rfl 33 Tryd.zeroCells33 (heap_alloc_new w4 _) (size_op _ hl) (size_new _ hl) hn3 ?_); refine Hid.out ?_)
  refine Lib.hid ?_
  obtain ⟨f1, f2⟩ := kept33 (w1 := w4) o4 hl
  generalize (w4.alloc (.cells Tryd.zeroCells33 33)).setRow w4.heap.size (opA o4) = u4 at f1 f2 ⊢
  have y4 : u4.cell? ⟨w4.heap.size, 38, none⟩ = some (.slice A4 (tk l).length n4) := by rw [blk_cell f1 38, opA_38 hl, ht]
  have R4 := Lib.hid (Kd.R_below r f2)
  replace HC := Lib.hid (Kd.C_below HC.out f2)
  replace HB := Lib.hid (below_then HB.out HB.out.size f2)
  clear f1 f2 hl hn3 ht r
  generalize w4.heap.size = g4 at y4 ⊢
  go_wp2_with fail
  refine (to_any 60 _ _ none 0 [] none 0 0 false _ _ _ _ (nofields _) (Nat.zero_le _) to_bare0).mono ?_
  rintro _ w5 ⟨⟨v, rfl, r⟩, hb5⟩
  replace y4 := pw_cell_below hb5 y4
  replace R4 := Lib.hid (Kd.R_below R4.out hb5)
  replace HC := Lib.hid (Kd.C_below HC.out hb5)
  replace HB := Lib.hid (below_then HB.out HB.out.size hb5)
  clear hb5
  obtain ⟨A5, n5, ev⟩ := Kd.R_slice r
  subst ev
  obtain ⟨o5, ho⟩ : ∃ o, o = ({ zeroO with dv := 16, tok := .slice A5 ([] : List Int).length n5 } : OpV) := ⟨_, rfl⟩
  have hl : o5.of_.length = 32 := by rw [ho]; rfl
  have hn3 : (opA o5).all (·.oneCell') = true := one_op o5 (by rw [ho]; rfl) (by rw [ho]; rfl)
  have ht : o5.tok = .slice A5 ([] : List Int).length n5 := by rw [ho]
  rw [← ho]
  clear ho
  go_wp2_with ((refine wpList_store_row rfl 33 _ _ rfl w5.heap.size (opA o5) rfl rfl 33 Tryd.zeroCells33 (heap_alloc_new w5 _) (size_op _ hl) (size_new _ hl) hn3 ?_); refine Hid.out ?_)
  refine Lib.hid ?_
  obtain ⟨f1, f2⟩ := kept33 (w1 := w5) o5 hl
  generalize (w5.alloc (.cells Tryd.zeroCells33 33)).setRow w5.heap.size (opA o5) = u5 at f1 f2 ⊢
  have y5 : u5.cell? ⟨w5.heap.size, 38, none⟩ = some (.slice A5 ([] : List Int).length n5) := by rw [blk_cell f1 38, opA_38 hl, ht]
  have R5 := Lib.hid (Kd.R_below r f2)
  replace y4 := pw_cell_below f2 y4
  replace R4 := Lib.hid (Kd.R_below R4.out f2)
  replace HC := Lib.hid (Kd.C_below HC.out f2)
  replace HB := Lib.hid (below_then HB.out HB.out.size f2)
  clear f1 f2 hl hn3 ht r
  generalize w5.heap.size = g5 at y5 ⊢
  have hcb := Kd.C_string (P := Tryd.prog) (src := 23) (dst := 9) (c := c) Tryd.underlying23 Tryd.underlying5 Tryd.underlying9 HC.out
  have hct := Kd.C_string (P := Tryd.prog) (src := 23) (dst := 9) (c := n4) Tryd.underlying23 Tryd.underlying5 Tryd.underlying9 (Kd.R_reads' R4.out).2.2
  by_cases h0 : l.length = 0
  · obtain rfl := List.eq_nil_of_length_eq_zero h0
    have htk : tk [] = [0] := rfl
    rw [htk] at hct y4
    have e1 : strOfNums [0] = (⟨#[0]⟩ : ByteArray) := rfl
    rw [e1] at hct
    simp only [List.length_nil, List.length_cons, Nat.zero_add] at hcb hct y4 y5 ⊢
    go_wp2
    go_ret
    exact ⟨rfl, HB.out⟩
  · have htk : tk l = l := by unfold tk; rw [if_neg h0]
    rw [htk] at hct y4
    have h01 : ((l.length : Int) == 0) = false := by simpa using h0
    have h02 : (l.length == 0) = false := by simpa using h0
    go_wp2
    go_ret
    exact ⟨rfl, HB.out⟩
theorem bare_big (w : World) (A : Option Addr) (c : Nat) (l : List Int) (hn : ¬ l.length ≤ 500) :
    Calls Tryd.prog 5 #[.slice A l.length c] w fun e w' => e = .returned (.bool true) ∧ Below w.heap.size w w' := by
  have c1 := Lib.hid (begun_any)
  have hn2 : decide ((500 : Int) < (l.length : Int)) = true := decide_eq_true (by omega)
  have hn3 : decide (500 < l.length) = true := decide_eq_true (by omega)
  go_enter Tryd.func5, Tryd.ntmps5
  go_wp2_with fail
  refine (c1.out _).mono ?_
  rintro _ w1 ⟨rfl, hb1⟩
  go_wp2
  go_ret
  exact ⟨rfl, hb1⟩
theorem routeBare_walk (w : World) (A : Option Addr) (c : Nat) (b : List UInt8) (hb : Kd.C (Kd.int .u8) w A b.length (b.map fun x => (x.toNat : Int)) ∧ b.length ≤ c) :
    Calls Tryd.prog 5 #[.slice A b.length c] w fun e w' => e = .returned (.bool true) ∧ Below w.heap.size w w' := by
  have hlen : (b.map fun x => (x.toNat : Int)).length = b.length := List.length_map ..
  have hwf : ∀ z ∈ b.map (fun x => (x.toNat : Int)), 0 ≤ z ∧ z ≤ 255 := fun z hz => by
    obtain ⟨x, _, rfl⟩ := List.mem_map.1 hz
    have := x.toNat_lt
    omega
  have h1 := hb.1
  have h2 := hb.2
  rw [← hlen] at h1 h2 ⊢
  by_cases hn : (b.map fun x => (x.toNat : Int)).length ≤ 500
  · exact bare_small w A c _ h1 h2 hwf hn
  · exact bare_big w A c _ hn
end Go.Proofs.YtnfimhdcpmakpaaDoor.S
