/-
  NamesBack answers true at every slice of bytes, id and int64, in every world where the library's table stands.
-/
import Derived.Test.YtkpgefmmlcpnlaaDoorWalkNamesReads
import Derived.Test.YtkpgefmmlcpnlaaDoorWalkNamesWrites
import Derived.Test.YtkpgefmmlcpnlaaDoorBack4
import Derived.Test.YtkpgefmmlcpnlaaDoorOpenId
namespace Go.Proofs.YtkpgefmmlcpnlaaDoor.S
open Go.RowKit Go.Proofs.YtkpgefmmlcpnlaaDoorW.PrintWords
set_option linter.unusedVariables false
set_option linter.unusedSimpArgs false
theorem arr_reads {w : World} {g : Nat} {xs : List Int} (h : Arr w g xs) (hl : xs.length = 32) : ReadsInt w .u8 (some ⟨g, 0, none⟩) 32 xs := by
  refine ⟨hl, by omega, fun _ => ⟨_, rfl, fun j hj => ?_⟩⟩
  have h' : w.heap[g]? = some (.cells (nums .u8 xs).toArray 37 (0, 0)) := h
  rw [add_plain]
  simp only [World.cell?, h']
  simp [nums, (by omega : j < xs.length)]
set_option maxHeartbeats 2000000 in
set_option maxRecDepth 100000 in
theorem namesBack_walk (w : World) (A : Option Addr) (len cap : Nat) (l : List Int) (H : Bytes w A len cap l) (xs : List Int) (hx : xs.length = 32 ∧ ∀ c ∈ xs, 0 ≤ c ∧ c ≤ 255) (n : Int) (hn : (Lit.int .i64 n).wf = true) (hT : Tabs w) :
    Calls Tryd.prog 7 #[.slice A len cap, .agg (nums .u8 xs).toArray, .int .i64 n] w fun e w' => e = .returned (.bool true) ∧ Below w.heap.size w w' := by
  obtain ⟨rfl, hcap, hR, hwf⟩ := H
  have hb : -9223372036854775808 ≤ n ∧ n ≤ 9223372036854775807 := by simpa [Lit.wf, IntKind.min, IntKind.max, IntKind.signed, IntKind.bits] using hn
  obtain ⟨hb0, hb1⟩ := hb
  have hlm := hR.2.1
  have cB : Hid (∀ w, Tabs w → Calls Tryd.prog 8 #[] w fun e w' => e = .returned (.bool true) ∧ Below w.heap.size w w') := Lib.hid fun w hT => cofferlaw4_begun.calls 200 true w (begun_f 200 (by omega)) hT
  have cP : Hid (∀ w, Tabs w → Calls Tryd.prog 14 #[.int .i64 n] w fun e w' => e = .returned (.string ⟨(Lib.itoa n).toArray⟩) ∧ Below w.heap.size w w') := Lib.hid fun w hT => names_Print.calls n _ w (print_f n hb0 hb1) hT
  have cN : Hid (∀ w, Calls Tryd.prog 17 #[.string ⟨(Lib.itoa n).toArray⟩] w fun e w' => e = .returned (.tuple #[.int .i64 (if n < 0 then (0, 4) else (n, 0) : Int × Int).1, .int .i64 (if n < 0 then (0, 4) else (n, 0) : Int × Int).2]) ∧ Drawn0 w w') := Lib.hid fun w => by
    rw [← num_itoa n hb1]
    exact names_Number.calls _ _ _ _ w (number_f _ (itoa_size n hb0 hb1) _ (Nat.le_refl _))
  have HR := Lib.hid hR
  have HW := Lib.hid hwf
  have hb := below_alloc (Below.refl w.heap.size w) (.cells (nums .u8 xs).toArray 37)
  have hT := hT.below hb
  by_cases hlt : l.length ≤ 4096
  · have hf : xHex.f l = some (strOfNums (hexl l)) := by unfold xHex.f; rw [if_pos ⟨by omega, hwf⟩]
    have hg : xHex.f xs = some (strOfNums (hexl xs)) := by unfold xHex.f; rw [if_pos ⟨by have := hx.1; omega, hx.2⟩]
    have cU : Hid (∀ w, Calls Tryd.prog 18 #[.string (strOfNums (hexl l))] w fun e w' => ∃ v0_ : Value, e = .returned (.tuple #[v0_, .int .i64 0]) ∧ Kd.R (Kd.int .u8) 5 w' w.heap.size (fun _ => True) v0_ l ∧ Below w.heap.size w w') :=
      Lib.hid fun w => xUnhex.calls _ _ _ w (by unfold xUnhex.f; rw [if_pos (by rw [hex_size]; omega), unh_hex l hwf])
    have cI : Hid (∀ w, Calls Tryd.prog 20 #[.string (strOfNums (hexl xs))] w fun e w' => e = .returned (.tuple #[.agg (nums .u8 xs).toArray, .int .i64 0]) ∧ Below w.heap.size w w') := Lib.hid fun w => by
      have := id_any (strOfNums (hexl xs)) w (by rw [hex_size]; have := hx.1; omega)
      have e : idOf (unh (strOfNums (hexl xs))) = (xs, 0) := by rw [unh_hex xs hx.2]; unfold idOf; rw [if_pos rfl, if_pos hx.1]
      rw [e] at this
      exact this
    have cX : Hid (∀ (w : World) (g : Nat), Arr w g xs → Calls Tryd.prog 12 #[.slice (some ⟨g, 0, none⟩) 32 32] w fun e w' => e = .returned (.string (strOfNums (hexl xs))) ∧ Below w.heap.size w w') := Lib.hid fun w g hA => by
      have hr := arr_reads hA hx.1
      have e : (32 : Nat) = xs.length := hx.1.symm
      have := xHex.calls (some ⟨g, 0, none⟩) xs.length xs _ w (C_of_reads (by rw [← e]; exact hr)) (Nat.le_refl _) hg
      rw [← e] at this
      exact this
    have hEQ := eq_id xs hx.1
    have o1 := one_nums xs
    have o2 : (Tryd.prog.info? 37).map (·.size) = some ((nums .u8 xs).toArray.size) := by
      have hl' : xs.length = 32 := hx.1
      rw [info_id]; simp [nums, hl']
    have o3 : (#[.int .u8 0, .int .u8 0, .int .u8 0, .int .u8 0, .int .u8 0, .int .u8 0, .int .u8 0, .int .u8 0, .int .u8 0, .int .u8 0, .int .u8 0, .int .u8 0, .int .u8 0, .int .u8 0, .int .u8 0, .int .u8 0, .int .u8 0, .int .u8 0, .int .u8 0, .int .u8 0, .int .u8 0, .int .u8 0, .int .u8 0, .int .u8 0, .int .u8 0, .int .u8 0, .int .u8 0, .int .u8 0, .int .u8 0, .int .u8 0, .int .u8 0, .int .u8 0] : Array Value).size = (nums .u8 xs).toArray.size := by
      have hl' : xs.length = 32 := hx.1
      simp [nums, hl']
    have O1 := Lib.hid o1
    have O2 := Lib.hid o2
    have O3 := Lib.hid o3
    have OA := Lib.hid (fun w o => arr_store w xs o)
    have HF := Lib.hid hf
    have HG := Lib.hid hg
    have HX := Lib.hid hx
    clear o1 o2 o3 hx hf hg hn hR hwf
    have A0 : Arr (w.alloc (.cells (nums .u8 xs).toArray 37)) w.heap.size xs := heap_alloc_new w _
    go_enter Tryd.func7, Tryd.ntmps7
    go_wp2_with fail
    generalize (w.alloc (.cells (nums .u8 xs).toArray 37)) = w0 at *
    have HA0 := Lib.hid A0
    clear A0
    refine (cB.out _ hT).mono ?_
    rintro e w1 ⟨rfl, h1⟩
    have hb := bthen hb h1
    have hT := hT.below h1
    have HA0 := Lib.hid (HA0.out.below h1)
    clear h1
    go_wp2_with fail
    refine (xHex.calls A cap l _ w1 (C_of_reads (HR.out.below hb)) hcap HF.out).mono ?_
    rintro e w2 ⟨rfl, h2⟩
    have hb := bthen hb h2
    have hT := hT.below h2
    have HA0 := Lib.hid (HA0.out.below h2)
    clear h2
    go_wp2_with fail
    refine (cU.out _).mono ?_
    rintro e w3 ⟨v3, rfl, hR3, h3⟩
    have hb := bthen hb h3
    have hT := hT.below h3
    have HA0 := Lib.hid (HA0.out.below h3)
    have HR3 := Lib.hid hR3
    clear h3 hR3
    go_wp2_with fail
    refine (cX.out _ _ HA0.out).mono ?_
    rintro e w4 ⟨rfl, h4⟩
    have hb := bthen hb h4
    have hT := hT.below h4
    have HA0 := Lib.hid (HA0.out.below h4)
    have HR3 := Lib.hid (Kd.R_below HR3.out h4)
    clear h4
    go_wp2_with fail
    refine (cI.out _).mono ?_
    rintro e w5 ⟨rfl, h5⟩
    go_wp2_with ((refine wpList_store_row rfl 37 _ _ rfl w5.heap.size (nums .u8 xs).toArray rfl rfl 37 #[.int .u8 0, .int .u8 0, .int .u8 0, .int .u8 0, .int .u8 0, .int .u8 0, .int .u8 0, .int .u8 0, .int .u8 0, .int .u8 0, .int .u8 0, .int .u8 0, .int .u8 0, .int .u8 0, .int .u8 0, .int .u8 0, .int .u8 0, .int .u8 0, .int .u8 0, .int .u8 0, .int .u8 0, .int .u8 0, .int .u8 0, .int .u8 0, .int .u8 0, .int .u8 0, .int .u8 0, .int .u8 0, .int .u8 0, .int .u8 0, .int .u8 0, .int .u8 0] (heap_alloc_new w5 _) O2.out O3.out O1.out ?_); refine Hid.out ?_)
    refine Lib.hid ?_
    obtain ⟨A6, B6⟩ := OA.out w5 _ rfl
    generalize (w5.alloc (.cells #[.int .u8 0, .int .u8 0, .int .u8 0, .int .u8 0, .int .u8 0, .int .u8 0, .int .u8 0, .int .u8 0, .int .u8 0, .int .u8 0, .int .u8 0, .int .u8 0, .int .u8 0, .int .u8 0, .int .u8 0, .int .u8 0, .int .u8 0, .int .u8 0, .int .u8 0, .int .u8 0, .int .u8 0, .int .u8 0, .int .u8 0, .int .u8 0, .int .u8 0, .int .u8 0, .int .u8 0, .int .u8 0, .int .u8 0, .int .u8 0, .int .u8 0, .int .u8 0] 37)).setRow w5.heap.size (nums .u8 xs).toArray = w6 at A6 B6
    have h6 := bthen h5 B6
    have hb := bthen hb h6
    have hT := hT.below h6
    have HA0 := Lib.hid (HA0.out.below h6)
    have HR3 := Lib.hid (Kd.R_below HR3.out h6)
    have HA6 := Lib.hid A6
    clear h5 B6 A6 h6
    go_wp2_with fail
    refine (cP.out _ hT).mono ?_
    rintro e w7 ⟨rfl, h7⟩
    go_wp2_with fail
    refine (cN.out _).mono ?_
    rintro e w8 ⟨rfl, h8⟩
    have h8 := bthen h7 h8.below
    have hb := bthen hb h8
    have HA0 := Lib.hid (HA0.out.below h8)
    have HA6 := Lib.hid (HA6.out.below h8)
    have hcx := own_string (P := Tryd.prog) (src := 24) (e := 5) (dst := 9) Tryd.underlying24 Tryd.underlying5 Tryd.underlying9 (nums_of_R (Kd.R_below HR3.out h8))
    have hcy := Kd.C_string (P := Tryd.prog) (src := 24) (e := 5) (dst := 9) (c := cap) Tryd.underlying24 Tryd.underlying5 Tryd.underlying9 (C_of_reads (HR.out.below hb))
    clear h7 h8
    by_cases hneg : n < 0
    · rw [if_pos hneg]
      go_wp2_with (first | (refine wpList_load_row_g rfl 37 _ rfl w5.heap.size rfl 37 _ (0, 0) _ HA6.out Tryd.underlying37 rfl O2.out ?_) | (refine wpList_load_row_g rfl 37 _ rfl w.heap.size rfl 37 _ (0, 0) _ HA0.out Tryd.underlying37 rfl O2.out ?_))
      go_ret
      exact ⟨rfl, hb⟩
    · rw [if_neg hneg]
      have hpos : 0 ≤ n := by omega
      go_wp2_with (first | (refine wpList_load_row_g rfl 37 _ rfl w5.heap.size rfl 37 _ (0, 0) _ HA6.out Tryd.underlying37 rfl O2.out ?_) | (refine wpList_load_row_g rfl 37 _ rfl w.heap.size rfl 37 _ (0, 0) _ HA0.out Tryd.underlying37 rfl O2.out ?_))
      go_ret
      exact ⟨rfl, hb⟩
  · have hgt : 4096 < l.length := by omega
    clear hlt
    go_enter Tryd.func7, Tryd.ntmps7
    go_wp2_with fail
    refine (cB.out _ hT).mono ?_
    rintro e w1 ⟨rfl, hb1⟩
    go_wp2
    go_ret
    exact ⟨rfl, bthen hb hb1⟩
end Go.Proofs.YtkpgefmmlcpnlaaDoor.S
