/-
  The words of a status, as the reference looks them up; heads, as both write them; what begins with what.
-/
import Derived.Test.YtnohcfgjhgfjkaaDoorRep25a
namespace Go.Proofs.YtnohcfgjhgfjkaaDoor.S
open Go.RowKit Go.Proofs.YtnohcfgjhgfjkaaDoorW.PrintWords
set_option linter.unusedVariables false
set_option linter.unusedSimpArgs false
theorem info45 : (Tryd.prog.info? 45).map (·.size) = some 11 := by kernel_rfl
theorem one45 : (#[.string ⟨#[79, 75]⟩, .string ⟨#[67, 114, 101, 97, 116, 101, 100]⟩, .string ⟨#[66, 97, 100, 32, 82, 101, 113, 117, 101, 115, 116]⟩, .string ⟨#[85, 110, 97, 117, 116, 104, 111, 114, 105, 122, 101, 100]⟩, .string ⟨#[70, 111, 114, 98, 105, 100, 100, 101, 110]⟩, .string ⟨#[78, 111, 116, 32, 70, 111, 117, 110, 100]⟩, .string ⟨#[77, 101, 116, 104, 111, 100, 32, 78, 111, 116, 32, 65, 108, 108, 111, 119, 101, 100]⟩, .string ⟨#[67, 111, 110, 102, 108, 105, 99, 116]⟩, .string ⟨#[67, 111, 110, 116, 101, 110, 116, 32, 84, 111, 111, 32, 76, 97, 114, 103, 101]⟩, .string ⟨#[82, 101, 113, 117, 101, 115, 116, 32, 72, 101, 97, 100, 101, 114, 32, 70, 105, 101, 108, 100, 115, 32, 84, 111, 111, 32, 76, 97, 114, 103, 101]⟩, .string ⟨#[73, 110, 115, 117, 102, 102, 105, 99, 105, 101, 110, 116, 32, 83, 116, 111, 114, 97, 103, 101]⟩] : Array Value).all (·.oneCell') = true := by simp [Value.oneCell']
set_option maxHeartbeats 1000000 in
set_option maxRecDepth 100000 in
theorem ref_reason_any (st : Int) (w : World) : Calls Tryd.prog 12 #[.int .i64 st] w fun e w' => e = .returned (.string ⟨(rs st).toArray⟩) ∧ Below w.heap.size w w' := by
  have cS := Lib.hid ref_statuses_any
  go_enter Tryd.func12, Tryd.ntmps12
  go_wp2_with (first | (refine build_to rfl 45 _ rfl #[.string ⟨#[79, 75]⟩, .string ⟨#[67, 114, 101, 97, 116, 101, 100]⟩, .string ⟨#[66, 97, 100, 32, 82, 101, 113, 117, 101, 115, 116]⟩, .string ⟨#[85, 110, 97, 117, 116, 104, 111, 114, 105, 122, 101, 100]⟩, .string ⟨#[70, 111, 114, 98, 105, 100, 100, 101, 110]⟩, .string ⟨#[78, 111, 116, 32, 70, 111, 117, 110, 100]⟩, .string ⟨#[77, 101, 116, 104, 111, 100, 32, 78, 111, 116, 32, 65, 108, 108, 111, 119, 101, 100]⟩, .string ⟨#[67, 111, 110, 102, 108, 105, 99, 116]⟩, .string ⟨#[67, 111, 110, 116, 101, 110, 116, 32, 84, 111, 111, 32, 76, 97, 114, 103, 101]⟩, .string ⟨#[82, 101, 113, 117, 101, 115, 116, 32, 72, 101, 97, 100, 101, 114, 32, 70, 105, 101, 108, 100, 115, 32, 84, 111, 111, 32, 76, 97, 114, 103, 101]⟩, .string ⟨#[73, 110, 115, 117, 102, 102, 105, 99, 105, 101, 110, 116, 32, 83, 116, 111, 114, 97, 103, 101]⟩] (by kernel_rfl) ?_) | (refine wpList_store_row rfl 45 _ _ rfl w.heap.size #[.string ⟨#[79, 75]⟩, .string ⟨#[67, 114, 101, 97, 116, 101, 100]⟩, .string ⟨#[66, 97, 100, 32, 82, 101, 113, 117, 101, 115, 116]⟩, .string ⟨#[85, 110, 97, 117, 116, 104, 111, 114, 105, 122, 101, 100]⟩, .string ⟨#[70, 111, 114, 98, 105, 100, 100, 101, 110]⟩, .string ⟨#[78, 111, 116, 32, 70, 111, 117, 110, 100]⟩, .string ⟨#[77, 101, 116, 104, 111, 100, 32, 78, 111, 116, 32, 65, 108, 108, 111, 119, 101, 100]⟩, .string ⟨#[67, 111, 110, 102, 108, 105, 99, 116]⟩, .string ⟨#[67, 111, 110, 116, 101, 110, 116, 32, 84, 111, 111, 32, 76, 97, 114, 103, 101]⟩, .string ⟨#[82, 101, 113, 117, 101, 115, 116, 32, 72, 101, 97, 100, 101, 114, 32, 70, 105, 101, 108, 100, 115, 32, 84, 111, 111, 32, 76, 97, 114, 103, 101]⟩, .string ⟨#[73, 110, 115, 117, 102, 102, 105, 99, 105, 101, 110, 116, 32, 83, 116, 111, 114, 97, 103, 101]⟩] rfl rfl 45 #[.string ⟨#[]⟩, .string ⟨#[]⟩, .string ⟨#[]⟩, .string ⟨#[]⟩, .string ⟨#[]⟩, .string ⟨#[]⟩, .string ⟨#[]⟩, .string ⟨#[]⟩, .string ⟨#[]⟩, .string ⟨#[]⟩, .string ⟨#[]⟩] (heap_alloc_new w _) info45 rfl one45 ?_); refine Hid.out ?_)
  refine Lib.hid ?_
  have f1 := setRow_heap (w.alloc (.cells #[.string ⟨#[]⟩, .string ⟨#[]⟩, .string ⟨#[]⟩, .string ⟨#[]⟩, .string ⟨#[]⟩, .string ⟨#[]⟩, .string ⟨#[]⟩, .string ⟨#[]⟩, .string ⟨#[]⟩, .string ⟨#[]⟩, .string ⟨#[]⟩] 45)) w.heap.size #[.string ⟨#[]⟩, .string ⟨#[]⟩, .string ⟨#[]⟩, .string ⟨#[]⟩, .string ⟨#[]⟩, .string ⟨#[]⟩, .string ⟨#[]⟩, .string ⟨#[]⟩, .string ⟨#[]⟩, .string ⟨#[]⟩, .string ⟨#[]⟩] #[.string ⟨#[79, 75]⟩, .string ⟨#[67, 114, 101, 97, 116, 101, 100]⟩, .string ⟨#[66, 97, 100, 32, 82, 101, 113, 117, 101, 115, 116]⟩, .string ⟨#[85, 110, 97, 117, 116, 104, 111, 114, 105, 122, 101, 100]⟩, .string ⟨#[70, 111, 114, 98, 105, 100, 100, 101, 110]⟩, .string ⟨#[78, 111, 116, 32, 70, 111, 117, 110, 100]⟩, .string ⟨#[77, 101, 116, 104, 111, 100, 32, 78, 111, 116, 32, 65, 108, 108, 111, 119, 101, 100]⟩, .string ⟨#[67, 111, 110, 102, 108, 105, 99, 116]⟩, .string ⟨#[67, 111, 110, 116, 101, 110, 116, 32, 84, 111, 111, 32, 76, 97, 114, 103, 101]⟩, .string ⟨#[82, 101, 113, 117, 101, 115, 116, 32, 72, 101, 97, 100, 101, 114, 32, 70, 105, 101, 108, 100, 115, 32, 84, 111, 111, 32, 76, 97, 114, 103, 101]⟩, .string ⟨#[73, 110, 115, 117, 102, 102, 105, 99, 105, 101, 110, 116, 32, 83, 116, 111, 114, 97, 103, 101]⟩] 45 _ (heap_alloc_new w _)
  have f2 := below_setRow (below_alloc (Below.refl w.heap.size w) (.cells #[.string ⟨#[]⟩, .string ⟨#[]⟩, .string ⟨#[]⟩, .string ⟨#[]⟩, .string ⟨#[]⟩, .string ⟨#[]⟩, .string ⟨#[]⟩, .string ⟨#[]⟩, .string ⟨#[]⟩, .string ⟨#[]⟩, .string ⟨#[]⟩] 45)) (Nat.le_refl _) #[.string ⟨#[79, 75]⟩, .string ⟨#[67, 114, 101, 97, 116, 101, 100]⟩, .string ⟨#[66, 97, 100, 32, 82, 101, 113, 117, 101, 115, 116]⟩, .string ⟨#[85, 110, 97, 117, 116, 104, 111, 114, 105, 122, 101, 100]⟩, .string ⟨#[70, 111, 114, 98, 105, 100, 100, 101, 110]⟩, .string ⟨#[78, 111, 116, 32, 70, 111, 117, 110, 100]⟩, .string ⟨#[77, 101, 116, 104, 111, 100, 32, 78, 111, 116, 32, 65, 108, 108, 111, 119, 101, 100]⟩, .string ⟨#[67, 111, 110, 102, 108, 105, 99, 116]⟩, .string ⟨#[67, 111, 110, 116, 101, 110, 116, 32, 84, 111, 111, 32, 76, 97, 114, 103, 101]⟩, .string ⟨#[82, 101, 113, 117, 101, 115, 116, 32, 72, 101, 97, 100, 101, 114, 32, 70, 105, 101, 108, 100, 115, 32, 84, 111, 111, 32, 76, 97, 114, 103, 101]⟩, .string ⟨#[73, 110, 115, 117, 102, 102, 105, 99, 105, 101, 110, 116, 32, 83, 116, 111, 114, 97, 103, 101]⟩]
  generalize (w.alloc (.cells #[.string ⟨#[]⟩, .string ⟨#[]⟩, .string ⟨#[]⟩, .string ⟨#[]⟩, .string ⟨#[]⟩, .string ⟨#[]⟩, .string ⟨#[]⟩, .string ⟨#[]⟩, .string ⟨#[]⟩, .string ⟨#[]⟩, .string ⟨#[]⟩] 45)).setRow w.heap.size #[.string ⟨#[79, 75]⟩, .string ⟨#[67, 114, 101, 97, 116, 101, 100]⟩, .string ⟨#[66, 97, 100, 32, 82, 101, 113, 117, 101, 115, 116]⟩, .string ⟨#[85, 110, 97, 117, 116, 104, 111, 114, 105, 122, 101, 100]⟩, .string ⟨#[70, 111, 114, 98, 105, 100, 100, 101, 110]⟩, .string ⟨#[78, 111, 116, 32, 70, 111, 117, 110, 100]⟩, .string ⟨#[77, 101, 116, 104, 111, 100, 32, 78, 111, 116, 32, 65, 108, 108, 111, 119, 101, 100]⟩, .string ⟨#[67, 111, 110, 102, 108, 105, 99, 116]⟩, .string ⟨#[67, 111, 110, 116, 101, 110, 116, 32, 84, 111, 111, 32, 76, 97, 114, 103, 101]⟩, .string ⟨#[82, 101, 113, 117, 101, 115, 116, 32, 72, 101, 97, 100, 101, 114, 32, 70, 105, 101, 108, 100, 115, 32, 84, 111, 111, 32, 76, 97, 114, 103, 101]⟩, .string ⟨#[73, 110, 115, 117, 102, 102, 105, 99, 105, 101, 110, 116, 32, 83, 116, 111, 114, 97, 103, 101]⟩] = w2 at f1 f2
  have F1 := Lib.hid f1
  clear f1
  go_wp2_with fail
  refine (cS.out _).mono ?_
  rintro e w3 ⟨rfl, hb3⟩
  go_wp2_with ((refine wpList_store_row rfl 37 _ _ rfl w3.heap.size #[.int .i64 200, .int .i64 201, .int .i64 400, .int .i64 401, .int .i64 403, .int .i64 404, .int .i64 405, .int .i64 409, .int .i64 413, .int .i64 431, .int .i64 507] rfl rfl 37 #[.int .i64 0, .int .i64 0, .int .i64 0, .int .i64 0, .int .i64 0, .int .i64 0, .int .i64 0, .int .i64 0, .int .i64 0, .int .i64 0, .int .i64 0] (heap_alloc_new w3 _) info11 rfl one11 ?_); refine Hid.out ?_)
  refine Lib.hid ?_
  have f3 := setRow_heap (w3.alloc (.cells #[.int .i64 0, .int .i64 0, .int .i64 0, .int .i64 0, .int .i64 0, .int .i64 0, .int .i64 0, .int .i64 0, .int .i64 0, .int .i64 0, .int .i64 0] 37)) w3.heap.size #[.int .i64 0, .int .i64 0, .int .i64 0, .int .i64 0, .int .i64 0, .int .i64 0, .int .i64 0, .int .i64 0, .int .i64 0, .int .i64 0, .int .i64 0] #[.int .i64 200, .int .i64 201, .int .i64 400, .int .i64 401, .int .i64 403, .int .i64 404, .int .i64 405, .int .i64 409, .int .i64 413, .int .i64 431, .int .i64 507] 37 _ (heap_alloc_new w3 _)
  have f4 := below_setRow (below_alloc (Below.refl w3.heap.size w3) (.cells #[.int .i64 0, .int .i64 0, .int .i64 0, .int .i64 0, .int .i64 0, .int .i64 0, .int .i64 0, .int .i64 0, .int .i64 0, .int .i64 0, .int .i64 0] 37)) (Nat.le_refl _) #[.int .i64 200, .int .i64 201, .int .i64 400, .int .i64 401, .int .i64 403, .int .i64 404, .int .i64 405, .int .i64 409, .int .i64 413, .int .i64 431, .int .i64 507]
  generalize (w3.alloc (.cells #[.int .i64 0, .int .i64 0, .int .i64 0, .int .i64 0, .int .i64 0, .int .i64 0, .int .i64 0, .int .i64 0, .int .i64 0, .int .i64 0, .int .i64 0] 37)).setRow w3.heap.size #[.int .i64 200, .int .i64 201, .int .i64 400, .int .i64 401, .int .i64 403, .int .i64 404, .int .i64 405, .int .i64 409, .int .i64 413, .int .i64 431, .int .i64 507] = w4 at f3 f4
  have hb := bthen (bthen f2 hb3) f4
  have hs0 := ((bthen hb3 f4).block w.heap.size (lt_of_block F1.out)).trans F1.out
  have F3 := Lib.hid f3
  have HS := Lib.hid hs0
  clear f3 f4 f2 hb3 F1 hs0
  go_wp2_with fail
  go_loop [5] (fun i => ∃ k : Nat, k ≤ 11 ∧ i = .int .i64 k ∧ Hid (look (statL.drop k) st = rs st)) (fun i => 11 - (intOf i).toNat)
  case atStart => exact ⟨0, by omega, rfl, Lib.hid rfl⟩
  case round =>
    obtain ⟨k, hk, rfl, H⟩ := hrel
    rcases (show k = 0 ∨ k = 1 ∨ k = 2 ∨ k = 3 ∨ k = 4 ∨ k = 5 ∨ k = 6 ∨ k = 7 ∨ k = 8 ∨ k = 9 ∨ k = 10 ∨ k = 11 by omega) with rfl | rfl | rfl | rfl | rfl | rfl | rfl | rfl | rfl | rfl | rfl | rfl
    · have hc : w4.cell? ⟨w3.heap.size, 0, none⟩ = some (.int .i64 200) := by simp only [World.cell?, F3.out]; rfl
      by_cases h : st = 200
      · subst h
        have hd : w4.cell? ⟨w.heap.size, 0, none⟩ = some (.string ⟨#[79, 75]⟩) := by simp only [World.cell?, HS.out]; rfl
        go_wp2
        go_ret
        exact ⟨rfl, hb⟩
      · have hn : ((200 : Int) == st) = false := by simpa using fun e => h e.symm
        have H2 : Hid (look (statL.drop 1) st = rs st) := Lib.hid (by rw [← H.out]; exact (look_ne h).symm)
        clear H
        go_wp2
        go_round
        case rel => exact ⟨1, by omega, rfl, H2⟩
        case measure => simp [intOf]
    · have hc : w4.cell? ⟨w3.heap.size, 1, none⟩ = some (.int .i64 201) := by simp only [World.cell?, F3.out]; rfl
      by_cases h : st = 201
      · subst h
        have hd : w4.cell? ⟨w.heap.size, 1, none⟩ = some (.string ⟨#[67, 114, 101, 97, 116, 101, 100]⟩) := by simp only [World.cell?, HS.out]; rfl
        go_wp2
        go_ret
        exact ⟨rfl, hb⟩
      · have hn : ((201 : Int) == st) = false := by simpa using fun e => h e.symm
        have H2 : Hid (look (statL.drop 2) st = rs st) := Lib.hid (by rw [← H.out]; exact (look_ne h).symm)
        clear H
        go_wp2
        go_round
        case rel => exact ⟨2, by omega, rfl, H2⟩
        case measure => simp [intOf]
    · have hc : w4.cell? ⟨w3.heap.size, 2, none⟩ = some (.int .i64 400) := by simp only [World.cell?, F3.out]; rfl
      by_cases h : st = 400
      · subst h
        have hd : w4.cell? ⟨w.heap.size, 2, none⟩ = some (.string ⟨#[66, 97, 100, 32, 82, 101, 113, 117, 101, 115, 116]⟩) := by simp only [World.cell?, HS.out]; rfl
        go_wp2
        go_ret
        exact ⟨rfl, hb⟩
      · have hn : ((400 : Int) == st) = false := by simpa using fun e => h e.symm
        have H2 : Hid (look (statL.drop 3) st = rs st) := Lib.hid (by rw [← H.out]; exact (look_ne h).symm)
        clear H
        go_wp2
        go_round
        case rel => exact ⟨3, by omega, rfl, H2⟩
        case measure => simp [intOf]
    · have hc : w4.cell? ⟨w3.heap.size, 3, none⟩ = some (.int .i64 401) := by simp only [World.cell?, F3.out]; rfl
      by_cases h : st = 401
      · subst h
        have hd : w4.cell? ⟨w.heap.size, 3, none⟩ = some (.string ⟨#[85, 110, 97, 117, 116, 104, 111, 114, 105, 122, 101, 100]⟩) := by simp only [World.cell?, HS.out]; rfl
        go_wp2
        go_ret
        exact ⟨rfl, hb⟩
      · have hn : ((401 : Int) == st) = false := by simpa using fun e => h e.symm
        have H2 : Hid (look (statL.drop 4) st = rs st) := Lib.hid (by rw [← H.out]; exact (look_ne h).symm)
        clear H
        go_wp2
        go_round
        case rel => exact ⟨4, by omega, rfl, H2⟩
        case measure => simp [intOf]
    · have hc : w4.cell? ⟨w3.heap.size, 4, none⟩ = some (.int .i64 403) := by simp only [World.cell?, F3.out]; rfl
      by_cases h : st = 403
      · subst h
        have hd : w4.cell? ⟨w.heap.size, 4, none⟩ = some (.string ⟨#[70, 111, 114, 98, 105, 100, 100, 101, 110]⟩) := by simp only [World.cell?, HS.out]; rfl
        go_wp2
        go_ret
        exact ⟨rfl, hb⟩
      · have hn : ((403 : Int) == st) = false := by simpa using fun e => h e.symm
        have H2 : Hid (look (statL.drop 5) st = rs st) := Lib.hid (by rw [← H.out]; exact (look_ne h).symm)
        clear H
        go_wp2
        go_round
        case rel => exact ⟨5, by omega, rfl, H2⟩
        case measure => simp [intOf]
    · have hc : w4.cell? ⟨w3.heap.size, 5, none⟩ = some (.int .i64 404) := by simp only [World.cell?, F3.out]; rfl
      by_cases h : st = 404
      · subst h
        have hd : w4.cell? ⟨w.heap.size, 5, none⟩ = some (.string ⟨#[78, 111, 116, 32, 70, 111, 117, 110, 100]⟩) := by simp only [World.cell?, HS.out]; rfl
        go_wp2
        go_ret
        exact ⟨rfl, hb⟩
      · have hn : ((404 : Int) == st) = false := by simpa using fun e => h e.symm
        have H2 : Hid (look (statL.drop 6) st = rs st) := Lib.hid (by rw [← H.out]; exact (look_ne h).symm)
        clear H
        go_wp2
        go_round
        case rel => exact ⟨6, by omega, rfl, H2⟩
        case measure => simp [intOf]
    · have hc : w4.cell? ⟨w3.heap.size, 6, none⟩ = some (.int .i64 405) := by simp only [World.cell?, F3.out]; rfl
      by_cases h : st = 405
      · subst h
        have hd : w4.cell? ⟨w.heap.size, 6, none⟩ = some (.string ⟨#[77, 101, 116, 104, 111, 100, 32, 78, 111, 116, 32, 65, 108, 108, 111, 119, 101, 100]⟩) := by simp only [World.cell?, HS.out]; rfl
        go_wp2
        go_ret
        exact ⟨rfl, hb⟩
      · have hn : ((405 : Int) == st) = false := by simpa using fun e => h e.symm
        have H2 : Hid (look (statL.drop 7) st = rs st) := Lib.hid (by rw [← H.out]; exact (look_ne h).symm)
        clear H
        go_wp2
        go_round
        case rel => exact ⟨7, by omega, rfl, H2⟩
        case measure => simp [intOf]
    · have hc : w4.cell? ⟨w3.heap.size, 7, none⟩ = some (.int .i64 409) := by simp only [World.cell?, F3.out]; rfl
      by_cases h : st = 409
      · subst h
        have hd : w4.cell? ⟨w.heap.size, 7, none⟩ = some (.string ⟨#[67, 111, 110, 102, 108, 105, 99, 116]⟩) := by simp only [World.cell?, HS.out]; rfl
        go_wp2
        go_ret
        exact ⟨rfl, hb⟩
      · have hn : ((409 : Int) == st) = false := by simpa using fun e => h e.symm
        have H2 : Hid (look (statL.drop 8) st = rs st) := Lib.hid (by rw [← H.out]; exact (look_ne h).symm)
        clear H
        go_wp2
        go_round
        case rel => exact ⟨8, by omega, rfl, H2⟩
        case measure => simp [intOf]
    · have hc : w4.cell? ⟨w3.heap.size, 8, none⟩ = some (.int .i64 413) := by simp only [World.cell?, F3.out]; rfl
      by_cases h : st = 413
      · subst h
        have hd : w4.cell? ⟨w.heap.size, 8, none⟩ = some (.string ⟨#[67, 111, 110, 116, 101, 110, 116, 32, 84, 111, 111, 32, 76, 97, 114, 103, 101]⟩) := by simp only [World.cell?, HS.out]; rfl
        go_wp2
        go_ret
        exact ⟨rfl, hb⟩
      · have hn : ((413 : Int) == st) = false := by simpa using fun e => h e.symm
        have H2 : Hid (look (statL.drop 9) st = rs st) := Lib.hid (by rw [← H.out]; exact (look_ne h).symm)
        clear H
        go_wp2
        go_round
        case rel => exact ⟨9, by omega, rfl, H2⟩
        case measure => simp [intOf]
    · have hc : w4.cell? ⟨w3.heap.size, 9, none⟩ = some (.int .i64 431) := by simp only [World.cell?, F3.out]; rfl
      by_cases h : st = 431
      · subst h
        have hd : w4.cell? ⟨w.heap.size, 9, none⟩ = some (.string ⟨#[82, 101, 113, 117, 101, 115, 116, 32, 72, 101, 97, 100, 101, 114, 32, 70, 105, 101, 108, 100, 115, 32, 84, 111, 111, 32, 76, 97, 114, 103, 101]⟩) := by simp only [World.cell?, HS.out]; rfl
        go_wp2
        go_ret
        exact ⟨rfl, hb⟩
      · have hn : ((431 : Int) == st) = false := by simpa using fun e => h e.symm
        have H2 : Hid (look (statL.drop 10) st = rs st) := Lib.hid (by rw [← H.out]; exact (look_ne h).symm)
        clear H
        go_wp2
        go_round
        case rel => exact ⟨10, by omega, rfl, H2⟩
        case measure => simp [intOf]
    · have hc : w4.cell? ⟨w3.heap.size, 10, none⟩ = some (.int .i64 507) := by simp only [World.cell?, F3.out]; rfl
      by_cases h : st = 507
      · subst h
        have hd : w4.cell? ⟨w.heap.size, 10, none⟩ = some (.string ⟨#[73, 110, 115, 117, 102, 102, 105, 99, 105, 101, 110, 116, 32, 83, 116, 111, 114, 97, 103, 101]⟩) := by simp only [World.cell?, HS.out]; rfl
        go_wp2
        go_ret
        exact ⟨rfl, hb⟩
      · have hn : ((507 : Int) == st) = false := by simpa using fun e => h e.symm
        have H2 : Hid (look (statL.drop 11) st = rs st) := Lib.hid (by rw [← H.out]; exact (look_ne h).symm)
        clear H
        go_wp2
        go_round
        case rel => exact ⟨11, by omega, rfl, H2⟩
        case measure => simp [intOf]
    · have e : rs st = [] := H.out.symm
      go_wp2
      go_ret
      exact ⟨rfl, hb⟩
theorem print_f (n : Int) (h0 : -9223372036854775808 ≤ n) (h1 : n ≤ 9223372036854775807) : names_Print.f n = some ⟨(Lib.itoa n).toArray⟩ := by
  unfold names_Print.f xFormatInt.f; rw [if_pos ⟨⟨h0, h1⟩, rfl⟩]; rfl
theorem rs_len (st : Int) : (rs st).length ≤ 31 := by
  unfold rs statL
  by_cases h : st = 200
  · subst h; decide
  rw [look_ne h]; clear h
  by_cases h : st = 201
  · subst h; decide
  rw [look_ne h]; clear h
  by_cases h : st = 400
  · subst h; decide
  rw [look_ne h]; clear h
  by_cases h : st = 401
  · subst h; decide
  rw [look_ne h]; clear h
  by_cases h : st = 403
  · subst h; decide
  rw [look_ne h]; clear h
  by_cases h : st = 404
  · subst h; decide
  rw [look_ne h]; clear h
  by_cases h : st = 405
  · subst h; decide
  rw [look_ne h]; clear h
  by_cases h : st = 409
  · subst h; decide
  rw [look_ne h]; clear h
  by_cases h : st = 413
  · subst h; decide
  rw [look_ne h]; clear h
  by_cases h : st = 431
  · subst h; decide
  rw [look_ne h]; clear h
  by_cases h : st = 507
  · subst h; decide
  rw [look_ne h]; clear h
  exact Nat.zero_le _
/-- What stands ahead of a body's length. -/
def headL (st : Int) : List UInt8 := [72, 84, 84, 80, 47, 49, 46, 49, 32] ++ (Lib.itoa st ++ ([32] ++ (rs st ++ ([13, 10] ++ [67, 111, 110, 116, 101, 110, 116, 45, 76, 101, 110, 103, 116, 104, 58, 32]))))
theorem size_mk (l : List UInt8) : (⟨l.toArray⟩ : ByteArray).size = l.length := by simp [ByteArray.size]
set_option maxHeartbeats 1000000 in
set_option maxRecDepth 100000 in
theorem head_any (st : Int) (h0 : -9223372036854775808 ≤ st) (h1 : st ≤ 9223372036854775807) (w : World) (hT : Tabs w) :
    Calls Tryd.prog 19 #[.int .i64 st] w fun e w' => e = .returned (.string ⟨(headL st).toArray⟩) ∧ Below w.heap.size w w' := by
  have cP : Hid (∀ w, Tabs w → Calls Tryd.prog 20 #[.int .i64 st] w fun e w' => e = .returned (.string ⟨(Lib.itoa st).toArray⟩) ∧ Below w.heap.size w w') := Lib.hid fun w hT => names_Print.calls st _ w (print_f st h0 h1) hT
  have cR : Hid (∀ w, Calls Tryd.prog 11 #[.int .i64 st] w fun e w' => e = .returned (.string ⟨(rs st).toArray⟩) ∧ Drawn0 w w') := Lib.hid fun w => reply_Reason.calls st _ w (reason_f st)
  have e : (⟨(headL st).toArray⟩ : ByteArray) = ((((⟨#[72, 84, 84, 80, 47, 49, 46, 49, 32]⟩ ++ ⟨(Lib.itoa st).toArray⟩) ++ ⟨#[32]⟩) ++ ⟨(rs st).toArray⟩) ++ ⟨#[13, 10]⟩) ++ ⟨#[67, 111, 110, 116, 101, 110, 116, 45, 76, 101, 110, 103, 116, 104, 58, 32]⟩ := by
    unfold headL; apply ByteArray.ext; simp
  rw [e]
  have z1 : (⟨(Lib.itoa st).toArray⟩ : ByteArray).size ≤ 21 := by rw [size_mk]; exact Lib.itoa_length_le st h0 h1
  have z2 : (⟨(rs st).toArray⟩ : ByteArray).size ≤ 31 := by rw [size_mk]; exact rs_len st
  clear e
  generalize (⟨(Lib.itoa st).toArray⟩ : ByteArray) = s1 at *
  generalize (⟨(rs st).toArray⟩ : ByteArray) = s2 at *
  go_enter Tryd.func19, Tryd.ntmps19
  go_wp2_with fail
  refine (cP.out _ hT).mono ?_
  rintro e w1 ⟨rfl, hb1⟩
  go_wp2_with fail
  refine (cR.out _).mono ?_
  rintro e w2 ⟨rfl, hb2⟩
  go_wp2
  go_ret
  exact ⟨rfl, bthen hb1 hb2.below⟩
end Go.Proofs.YtnohcfgjhgfjkaaDoor.S
