/-
  The law's begin, walked: it answers true.
-/
import Derived.Test.YtejmolhdmbkfaaaDoorPu21i
import Derived.Laws.Tables
import Derived.Laws.CopyOwn
namespace Go.Proofs.YtejmolhdmbkfaaaDoor.S
open Go.RowKit Go.Proofs.YtejmolhdmbkfaaaDoorW.PrintWords
set_option linter.unusedVariables false
set_option linter.unusedSimpArgs false
def LT : ByteArray := ⟨#[47, 116, 47, 97, 37, 50, 70, 98, 63, 120, 61, 37, 50, 48, 38, 121, 61]⟩
theorem info_tgt : (Tryd.prog.info? 26).map (·.size) = some 2 := by kernel_rfl
theorem C_open {w : World} {e base : Nat} {α : Type} {d : Kd α} {ok : Nat → Prop} {v : Value} {xs : List α} (h : Kd.R d e w base ok v xs) : ∃ A c, v = .slice A xs.length c ∧ xs.length ≤ c ∧ Kd.C d w A xs.length xs := Kd.R_reads h
def xBegun.f : Option Bool := some true
set_option maxHeartbeats 2000000 in
set_option maxRecDepth 100000 in
theorem begun_any (w : World) : Calls Tryd.prog 8 #[] w fun e w' => e = .returned (.bool true) ∧ Below w.heap.size w w' := by
  have hp := parse_f [47, 116, 47, 97, 37, 50, 70, 98, 63, 120, 61, 37, 50, 48, 38, 121, 61] (by simp)
  rw [parse_lit] at hp
  obtain ⟨k1, hk1⟩ := hp.at
  have hg := get_ev [⟨#[116]⟩, ⟨#[97, 47, 98]⟩] ⟨#[120]⟩ [⟨⟨#[120]⟩, ⟨#[32]⟩⟩, ⟨⟨#[121]⟩, ⟨#[]⟩⟩] (by simp)
  rw [get_lit] at hg
  obtain ⟨k2, hk2⟩ := hg.at
  have c1 := Lib.hid (fun w => target_Parse.calls k1 _ _ _ _ w hk1)
  go_enter Tryd.func8, Tryd.ntmps8
  go_wp2_with fail
  refine (c1.out _).mono ?_
  rintro e w1 ⟨v0, v1, rfl, r0, r1, hb1⟩
  obtain ⟨A0, n0, rfl, l0, g0⟩ := C_open r0
  obtain ⟨A1, n1, rfl, l1, g1⟩ := C_open r1
  have G0 := Lib.hid g0
  have G1 := Lib.hid g1
  dsimp only [List.length_cons, List.length_nil] at l0 l1
  clear r0 r1 g0 g1 c1
  have one1 : (#[.slice A0 2 n0, .slice A1 2 n1] : Array Value).all (·.oneCell') = true := by simp [Value.oneCell']
  go_wp2_with ((refine wpList_store_row rfl 26 _ _ rfl w1.heap.size #[.slice A0 2 n0, .slice A1 2 n1] rfl rfl 26 #[.slice none 0 0, .slice none 0 0] (heap_alloc_new w1 _) info_tgt rfl one1 ?_); refine Hid.out ?_)
  refine Lib.hid ?_
  have f1 := setRow_heap (w1.alloc (.cells #[.slice none 0 0, .slice none 0 0] 26)) w1.heap.size _ #[.slice A0 2 n0, .slice A1 2 n1] 26 _ (heap_alloc_new w1 _)
  have f2 := below_setRow (below_alloc (Below.refl w1.heap.size w1) (.cells #[.slice none 0 0, .slice none 0 0] 26)) (Nat.le_refl _) #[.slice A0 2 n0, .slice A1 2 n1]
  generalize (w1.alloc (.cells #[.slice none 0 0, .slice none 0 0] 26)).setRow w1.heap.size #[.slice A0 2 n0, .slice A1 2 n1] = w2 at f1 f2
  have x0 : w2.cell? ⟨w1.heap.size, 0, none⟩ = some (.slice A0 2 n0) := by simp only [World.cell?, f1]; rfl
  have x1 : w2.cell? ⟨w1.heap.size, 1, none⟩ = some (.slice A1 2 n1) := by simp only [World.cell?, f1]; rfl
  replace G0 := Lib.hid (Kd.C_below G0.out f2)
  replace G1 := Lib.hid (Kd.C_below G1.out f2)
  replace hb1 := bthen hb1 f2
  clear f1 f2 one1
  go_wp2_with fail
  refine (xPrint.calls A0 n0 _ A1 n1 _ _ _ _ G0.out l0 G1.out l1 print_lit).mono ?_
  rintro e w3 ⟨rfl, h3⟩
  replace x0 := pw_cell_below h3 x0
  replace x1 := pw_cell_below h3 x1
  replace G0 := Lib.hid (Kd.C_below G0.out h3)
  replace G1 := Lib.hid (Kd.C_below G1.out h3)
  replace hb1 := bthen hb1 h3
  clear h3
  go_wp2_with fail
  refine (target_Get.calls k2 A0 n0 _ A1 n1 _ _ _ _ _ G0.out l0 G1.out l1 hk2).mono ?_
  rintro e w4 ⟨rfl, h4⟩
  replace x0 := pw_cell_below h4 x0
  replace G0 := Lib.hid (Kd.C_below G0.out h4)
  replace hb1 := bthen hb1 h4
  obtain ⟨ad, e0, hx⟩ := Kd.at_string G0.out 1 (by decide) (by decide)
  cases e0
  have hx2 : w4.cell? ⟨ad.block, ad.off + 1, none⟩ = some (.string ⟨#[97, 47, 98]⟩) := hx
  clear h4 x1 hx
  go_wp2
  go_ret
  exact ⟨rfl, hb1⟩
theorem xBegun.calls (r : Bool) (w : World) (h : xBegun.f = some r) : Calls Tryd.prog 8 #[] w fun e w' => e = .returned (.bool r) ∧ Below w.heap.size w w' := by
  obtain rfl := Option.some.inj h
  exact begun_any w
end Go.Proofs.YtejmolhdmbkfaaaDoor.S
