/-
  What the laws of route begin with, over route.To walked whole.
-/
import Derived.Test.YtnfimhdcpmakpaaDoorTw26P
import Derived.Test.YtnfimhdcpmakpaaDoorBgn26P
namespace Go.Proofs.YtnfimhdcpmakpaaDoor.S
open Go.RowKit Go.Proofs.YtnfimhdcpmakpaaDoorW.PrintWords
set_option linter.unusedVariables false
set_option linter.unusedSimpArgs false
theorem noints_ (w : World) : Kd.C (Kd.int .u8) w none ([] : List Int).length [] := ⟨rfl, by decide, fun h => absurd h (by decide)⟩
theorem toG_1 : toG 60 GET ⟨#[47, 116, 47, 97, 47, 115, 47, 55]⟩ [] [] = some ({ zeroO with dv := 5, ten := ⟨#[97]⟩, num := 7 }, [], [], 0) := by kernel_rfl
theorem toG_2 : toG 60 GET ⟨#[47, 116, 47, 97, 47, 115, 47, 48, 55]⟩ [] [] = some (zeroO, [], [], 400) := by kernel_rfl
theorem toG_3 : toG 60 PUT ⟨#[47, 116, 47, 97, 47, 115]⟩ [] [] = some (zeroO, [], [], 405) := by kernel_rfl
set_option maxHeartbeats 4000000 in
set_option maxRecDepth 100000 in
theorem begun_w (w : World) (hT : Tabs w) : Calls Tryd.prog 7 #[] w fun e w' => e = .returned (.bool true) ∧ Below w.heap.size w w' := by
  have c1 := Lib.hid fun w (hT : Tabs w) => to_all 60 GET ⟨#[47, 116, 47, 97, 47, 115, 47, 55]⟩ none 0 [] none 0 [] false w _ _ _ _ (nofields w) (Nat.zero_le _) (noints_ w) (Nat.zero_le _) (Nat.zero_le _) toG_1 hT
  have c2 := Lib.hid fun w (hT : Tabs w) => to_all 60 GET ⟨#[47, 116, 47, 97, 47, 115, 47, 48, 55]⟩ none 0 [] none 0 [] false w _ _ _ _ (nofields w) (Nat.zero_le _) (noints_ w) (Nat.zero_le _) (Nat.zero_le _) toG_2 hT
  have c3 := Lib.hid fun w (hT : Tabs w) => to_all 60 PUT ⟨#[47, 116, 47, 97, 47, 115]⟩ none 0 [] none 0 [] false w _ _ _ _ (nofields w) (Nat.zero_le _) (noints_ w) (Nat.zero_le _) (Nat.zero_le _) toG_3 hT
  have HTT := Lib.hid (show ∀ w', Below w.heap.size w w' → Tabs w' from fun w' hb => hT.below hb)
  clear hT
  go_enter Tryd.func7, Tryd.ntmps7
  go_wp2_with fail
  refine (c1.out _ (HTT.out _ (Below.refl _ _))).mono ?_
  rintro _ w1 ⟨⟨v, u, rfl, r, ru⟩, hb1⟩
  obtain ⟨Av, nv, ev⟩ := Kd.R_slice r
  subst ev
  obtain ⟨Au, nu, ev⟩ := Kd.R_slice ru
  subst ev
  clear r ru c1
  obtain ⟨o1, ho1⟩ : ∃ o1, o1 = ({ zeroO with dv := 5, ten := ⟨#[97]⟩, num := 7, tok := .slice Av ([] : List Int).length nv, body := .slice Au ([] : List Int).length nu } : OpV) := ⟨_, rfl⟩
  have hl1 : o1.of_.length = 32 := by rw [ho1]; rfl
  have hn1 : (opA o1).all (·.oneCell') = true := one_op o1 (by rw [ho1]; rfl) (by rw [ho1]; rfl)
  have hd1 : o1.dv = 5 ∧ o1.ten = ⟨#[97]⟩ ∧ o1.num = 7 := by rw [ho1]; exact ⟨rfl, rfl, rfl⟩
  rw [← ho1]
  clear ho1
  go_wp2_with ((refine wpList_store_row rfl 33 _ _ rfl w1.heap.size (opA o1) rfl rfl 33 Tryd.zeroCells33 (heap_alloc_new w1 _) (size_op _ hl1) (size_new _ hl1) hn1 ?_); refine Hid.out ?_)
  refine Lib.hid ?_
  obtain ⟨f1, f2⟩ := kept33 (w1 := w1) o1 hl1
  generalize (w1.alloc (.cells Tryd.zeroCells33 33)).setRow w1.heap.size (opA o1) = u1 at f1 f2 ⊢
  have x0 : u1.cell? ⟨w1.heap.size, 0, none⟩ = some (.int .i64 5) := by rw [blk_cell f1 0, opA_0 hl1, hd1.1]
  have x1 : u1.cell? ⟨w1.heap.size, 1, none⟩ = some (.string ⟨#[97]⟩) := by rw [blk_cell f1 1, opA_1 hl1, hd1.2.1]
  have x2 : u1.cell? ⟨w1.heap.size, 34, none⟩ = some (.int .i64 7) := by rw [blk_cell f1 34, opA_34 hl1, hd1.2.2]
  have HB := Lib.hid (bthen hb1 f2)
  clear f1 f2 hb1 hd1 hl1 hn1
  generalize w1.heap.size = g1 at x0 x1 x2 ⊢
  go_wp2_with fail
  refine (c2.out _ (HTT.out _ HB.out)).mono ?_
  rintro _ w2 ⟨⟨v, u, rfl, r, ru⟩, hb⟩
  obtain ⟨A2, n2, ev⟩ := Kd.R_slice r
  subst ev
  obtain ⟨U2, k2, ev⟩ := Kd.R_slice ru
  subst ev
  clear r ru c2
  replace x0 := pw_cell_below hb x0
  replace x1 := pw_cell_below hb x1
  replace x2 := pw_cell_below hb x2
  replace HB := Lib.hid (below_then HB.out HB.out.size hb)
  clear hb
  obtain ⟨o2, ho⟩ : ∃ o, o = ({ zeroO with tok := .slice A2 ([] : List Int).length n2, body := .slice U2 ([] : List Int).length k2 } : OpV) := ⟨_, rfl⟩
  have hl : o2.of_.length = 32 := by rw [ho]; rfl
  have hn : (opA o2).all (·.oneCell') = true := one_op o2 (by rw [ho]; rfl) (by rw [ho]; rfl)
  rw [← ho]
  clear ho
  go_wp2_with ((refine wpList_store_row rfl 33 _ _ rfl w2.heap.size (opA o2) rfl rfl 33 Tryd.zeroCells33 (heap_alloc_new w2 _) (size_op _ hl) (size_new _ hl) hn ?_); refine Hid.out ?_)
  refine Lib.hid ?_
  have f2 := (kept33 (w1 := w2) o2 hl).2
  generalize (w2.alloc (.cells Tryd.zeroCells33 33)).setRow w2.heap.size (opA o2) = u2 at f2 ⊢
  replace x0 := pw_cell_below f2 x0
  replace x1 := pw_cell_below f2 x1
  replace x2 := pw_cell_below f2 x2
  replace HB := Lib.hid (below_then HB.out HB.out.size f2)
  clear f2 hl hn
  go_wp2_with fail
  refine (c3.out _ (HTT.out _ HB.out)).mono ?_
  rintro _ w3 ⟨⟨v, u, rfl, r, ru⟩, hb⟩
  obtain ⟨A3, n3, ev⟩ := Kd.R_slice r
  subst ev
  obtain ⟨U3, k3, ev⟩ := Kd.R_slice ru
  subst ev
  clear r ru c3
  replace x0 := pw_cell_below hb x0
  replace x1 := pw_cell_below hb x1
  replace x2 := pw_cell_below hb x2
  replace HB := Lib.hid (below_then HB.out HB.out.size hb)
  clear hb
  obtain ⟨o3, ho⟩ : ∃ o, o = ({ zeroO with tok := .slice A3 ([] : List Int).length n3, body := .slice U3 ([] : List Int).length k3 } : OpV) := ⟨_, rfl⟩
  have hl : o3.of_.length = 32 := by rw [ho]; rfl
  have hn : (opA o3).all (·.oneCell') = true := one_op o3 (by rw [ho]; rfl) (by rw [ho]; rfl)
  rw [← ho]
  clear ho
  go_wp2_with ((refine wpList_store_row rfl 33 _ _ rfl w3.heap.size (opA o3) rfl rfl 33 Tryd.zeroCells33 (heap_alloc_new w3 _) (size_op _ hl) (size_new _ hl) hn ?_); refine Hid.out ?_)
  refine Lib.hid ?_
  have f2 := (kept33 (w1 := w3) o3 hl).2
  generalize (w3.alloc (.cells Tryd.zeroCells33 33)).setRow w3.heap.size (opA o3) = u3 at f2 ⊢
  replace x0 := pw_cell_below f2 x0
  replace x1 := pw_cell_below f2 x1
  replace x2 := pw_cell_below f2 x2
  replace HB := Lib.hid (below_then HB.out HB.out.size f2)
  clear f2 hl hn
  go_wp2
  go_ret
  exact ⟨rfl, HB.out⟩
end Go.Proofs.YtnfimhdcpmakpaaDoor.S
