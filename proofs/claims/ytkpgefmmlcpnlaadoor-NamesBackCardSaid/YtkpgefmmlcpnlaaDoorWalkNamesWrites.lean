/-
  NamesWrites answers true at every slice of bytes and every int64, in every world where the library's table stands.
-/
import Derived.Test.YtkpgefmmlcpnlaaDoorPure4
import Derived.Test.YtkpgefmmlcpnlaaDoorRefPrint
import Derived.Test.YtkpgefmmlcpnlaaDoorRefHex
import Derived.Test.YtkpgefmmlcpnlaaDoorTwin
import Derived.Test.YtkpgefmmlcpnlaaDoorOpen
namespace Go.Proofs.YtkpgefmmlcpnlaaDoor.S
open Go.RowKit Go.Proofs.YtkpgefmmlcpnlaaDoorW.PrintWords
set_option linter.unusedVariables false
set_option linter.unusedSimpArgs false
set_option maxHeartbeats 1000000 in
set_option maxRecDepth 100000 in
theorem namesWrites_walk (w : World) (A : Option Addr) (len cap : Nat) (l : List Int) (H : Bytes w A len cap l) (n : Int) (hn : (Lit.int .i64 n).wf = true) (hT : Tabs w) :
    Calls Tryd.prog 4 #[.slice A len cap, .int .i64 n] w fun e w' => e = .returned (.bool true) ∧ Below w.heap.size w w' := by
  obtain ⟨rfl, hcap, hR, hwf⟩ := H
  have hb : -9223372036854775808 ≤ n ∧ n ≤ 9223372036854775807 := by simpa [Lit.wf, IntKind.min, IntKind.max, IntKind.signed, IntKind.bits] using hn
  obtain ⟨hb0, hb1⟩ := hb
  have hlm := hR.2.1
  have cB : Hid (∀ w, Tabs w → Calls Tryd.prog 8 #[] w fun e w' => e = .returned (.bool true) ∧ Below w.heap.size w w') := Lib.hid fun w hT => cofferlaw4_begun.calls 200 true w (begun_f 200 (by omega)) hT
  have cP : Hid (∀ w, Tabs w → Calls Tryd.prog 14 #[.int .i64 n] w fun e w' => e = .returned (.string ⟨(Lib.itoa n).toArray⟩) ∧ Below w.heap.size w w') := Lib.hid fun w hT => names_Print.calls n _ w (print_f n hb0 hb1) hT
  have cQ : Hid (∀ w, Calls Tryd.prog 15 #[.int .i64 n] w fun e w' => e = .returned (.string ⟨(Lib.itoa n).toArray⟩) ∧ Drawn0 w w') := Lib.hid fun w => cofferref4_Print.calls 200 n _ w (ref_print 200 n hb0 hb1 (by omega))
  have HR := Lib.hid hR
  have HW := Lib.hid hwf
  clear hn hb0 hb1 hR hwf
  by_cases hlt : l.length ≤ 4096
  · have hf : xHex.f l = some (strOfNums (hexl l)) := by unfold xHex.f; rw [if_pos ⟨by omega, HW.out⟩]
    have hrf : xRefHex.f l = some (strOfNums (hexl l)) := by unfold xRefHex.f; rw [if_pos ⟨by omega, HW.out⟩]
    have HF := Lib.hid hf
    have HG := Lib.hid hrf
    clear hf hrf
    go_enter Tryd.func4, Tryd.ntmps4
    go_wp2_with fail
    refine (cB.out _ hT).mono ?_
    rintro e w1 ⟨rfl, hb1⟩
    go_wp2_with fail
    refine (twin_any A cap l w1 l.length (HR.out.below hb1) rfl (by omega)).mono ?_
    rintro e w2 ⟨rfl, HB2, hb2⟩
    go_wp2_with fail
    refine (xHex.calls _ (l.length + 3) l _ w2 (C_of_reads (HB2.out.reads rfl hlm)) (by omega) HF.out).mono ?_
    rintro e w3 ⟨rfl, hb3⟩
    have HR3 := Lib.hid (HR.out.below (bthen (bthen hb1 hb2) hb3))
    go_wp2_with fail
    refine (xRefHex.calls A cap l _ w3 (C_of_reads HR3.out) hcap HG.out).mono ?_
    rintro e w4 ⟨rfl, hd4⟩
    have hb4 := bthen (bthen (bthen hb1 hb2) hb3) hd4.below
    have hT4 := hT.below hb4
    go_wp2_with fail
    refine (cP.out _ hT4).mono ?_
    rintro e w5 ⟨rfl, hb5⟩
    go_wp2_with fail
    refine (cQ.out _).mono ?_
    rintro e w6 ⟨rfl, hd6⟩
    have hbb : Below w2.heap.size w2 w6 := bthen (bthen (bthen hb3 hd4.below) hb5) hd6.below
    have HB6 := Lib.hid (HB2.out.below HB2.out.lt hbb)
    have hb6 := bthen (bthen hb1 hb2) hbb
    have HR6 := Lib.hid (HR.out.below hb6)
    clear hb3 hd4 hb5 hd6 hbb hT4 hb4 hb2 hb1
    go_wp2_with fail
    refine (kept_any _ A cap l w6 l.length HB6.out HR6.out rfl (by omega)).mono ?_
    rintro e w7 ⟨rfl, hd7⟩
    go_wp2
    go_ret
    exact ⟨rfl, bthen hb6 hd7.below⟩
  · have hgt : 4096 < l.length := by omega
    clear hlt
    go_enter Tryd.func4, Tryd.ntmps4
    go_wp2_with fail
    refine (cB.out _ hT).mono ?_
    rintro e w1 ⟨rfl, hb1⟩
    go_wp2
    go_ret
    exact ⟨rfl, hb1⟩
end Go.Proofs.YtkpgefmmlcpnlaaDoor.S
