/-
  The reference's Print, walked.
-/
import Derived.Test.YtejmolhdmbkfaaaDoorPrn21
import Derived.Test.YtejmolhdmbkfaaaDoorPu21b
namespace Go.Proofs.YtejmolhdmbkfaaaDoor.S
open Go.RowKit Go.Proofs.YtejmolhdmbkfaaaDoorW.PrintWords
set_option linter.unusedVariables false
set_option linter.unusedSimpArgs false
def xRP.f (l0 : List ByteArray) (l1 : List S32) : Option (ByteArray × Int) := if (l0.all fun s => decide (s.size ≤ 100000)) = true then xPrint.f l0 l1 else none
theorem app_lit (a : List UInt8) (b : List UInt8) : (⟨a.toArray⟩ : ByteArray) ++ ⟨b.toArray⟩ = ⟨(a ++ b).toArray⟩ := by
  apply ByteArray.ext
  simp
set_option maxHeartbeats 4000000 in
set_option maxRecDepth 100000 in
theorem xRP.calls (A0 : Option Addr) (c0 : Nat) (l0 : List ByteArray) (A1 : Option Addr) (c1 : Nat) (l1 : List S32) (r1 : ByteArray) (r2 : Int) (w : World) (hr0 : Kd.C Kd.string w A0 l0.length l0) (hc0 : l0.length ≤ c0) (hr1 : Kd.C k32 w A1 l1.length l1) (hc1 : l1.length ≤ c1) (hf : xRP.f l0 l1 = some (r1, r2)) :
    Calls Tryd.prog 14 #[.agg #[.slice A0 l0.length c0, .slice A1 l1.length c1]] w fun e w' => e = .returned (.tuple #[.string r1, .int .i64 r2]) ∧ Below w.heap.size w w' := by
  unfold xRP.f at hf
  by_cases hall : (l0.all fun s => decide (s.size ≤ 100000)) = true
  rotate_left
  · rw [if_neg hall] at hf; cases hf
  rw [if_pos hall] at hf
  unfold xPrint.f at hf
  obtain ⟨bm, hm, h⟩ := Option.bind_eq_some_iff.1 hf
  clear hf
  have hc : smallQ l1 = true ∧ l0.length ≤ 1048576 ∧ l1.length ≤ 1048576 := by
    unfold xMay.f at hm
    by_cases hc : smallQ l1 = true ∧ l0.length ≤ 1048576 ∧ l1.length ≤ 1048576
    · exact hc
    · rw [if_neg hc] at hm; cases hm
  obtain ⟨hsq, hL0, hL1⟩ := hc
  have hbm : mayB l0 l1 = bm := by
    unfold xMay.f at hm
    rw [if_pos ⟨hsq, hL0, hL1⟩] at hm
    exact Option.some.inj hm
  obtain ⟨km, hkm⟩ := (refmay_ev l0 l1 hsq hL0 hL1 (fun s hs => by have := List.all_eq_true.1 hall s hs; have := of_decide_eq_true this; omega)).at
  rw [hbm] at hkm
  have HR0 := Lib.hid hr0
  have HR1 := Lib.hid hr1
  have cM : Hid (∀ w1, Below w.heap.size w w1 → Calls Tryd.prog 18 #[.agg #[.slice A0 l0.length c0, .slice A1 l1.length c1]] w1 fun e w' => e = .returned (.bool bm) ∧ Below w1.heap.size w1 w') := Lib.hid fun w1 hb => cofferref21_May.calls km A0 c0 l0 A1 c1 l1 bm w1 (Kd.C_below HR0.out hb) hc0 (Kd.C_below HR1.out hb) hc1 hkm
  have cE : Hid (∀ s w, s.size ≤ 100000 → Calls Tryd.prog 19 #[.string s] w fun e w' => e = .returned (.string ⟨(escL s.data.toList).toArray⟩) ∧ Drawn0 w w') := Lib.hid fun s w hs => xEsc.calls s _ w (by unfold xEsc.f; rw [if_pos hs])
  clear hm hr0 hr1 hbm hkm
  go_enter Tryd.func14, Tryd.ntmps14
  have hb0 : Below w.heap.size w (w.alloc (.cells #[.slice A0 l0.length c0, .slice A1 l1.length c1] 26)) := below_alloc (Below.refl _ _) _
  have hx0 : (w.alloc (.cells #[.slice A0 l0.length c0, .slice A1 l1.length c1] 26)).heap[w.heap.size]? = some (.cells #[.slice A0 l0.length c0, .slice A1 l1.length c1] 26 (0, 0)) := heap_alloc_new w _
  have HX0 := Lib.hid hx0
  clear hx0
  go_wp2_with fail
  generalize w.alloc (.cells #[.slice A0 l0.length c0, .slice A1 l1.length c1] 26) = w0 at *
  refine (cM.out _ hb0).mono ?_
  rintro e w1 ⟨rfl, hb1⟩
  replace HX0 := Lib.hid ((hb1.block _ (lt_of_block HX0.out)).trans HX0.out)
  replace hb0 := bthen hb0 hb1
  clear hb1 cM hall hsq
  rcases bm with _ | _
  · obtain ⟨rfl, rfl⟩ := Prod.mk.inj (Option.some.inj h)
    clear h
    go_wp2
    go_ret2
    exact ⟨rfl, hb0⟩
  · by_cases hsm : smallS l0 l1 = true
    · rw [if_pos rfl, if_pos hsm] at h
      obtain ⟨rfl, rfl⟩ := Prod.mk.inj (Option.some.inj h)
      clear h
      simp only [smallS, Bool.and_eq_true, decide_eq_true_eq, List.all_eq_true] at hsm
      obtain ⟨⟨hsP, hsQ⟩, hsL⟩ := hsm
      have HSP := Lib.hid hsP
      have HSQ := Lib.hid hsQ
      have hpl : (pathS l0).length + (queryL 63 l1).length ≤ 300000 := by unfold printL at hsL; simpa using hsL
      have hpp : (pathL l0).length ≤ (pathS l0).length := by unfold pathS; simp
      clear hsP hsQ hsL
      have x0 : w1.cell? ⟨w.heap.size, 0, none⟩ = some (.slice A0 l0.length c0) := by have := HX0.out; simp only [World.cell?, this]; rfl
      have x1 : w1.cell? ⟨w.heap.size, 1, none⟩ = some (.slice A1 l1.length c1) := by have := HX0.out; simp only [World.cell?, this]; rfl
      have X0 := Lib.hid x0
      have X1 := Lib.hid x1
      clear x0 x1
      go_wp2_with fail
      go_loopw [4, 5] (fun v4 i wr => ∃ k : Nat, k ≤ l0.length ∧ i = .int .i64 k ∧ v4 = .string ⟨(pathL (l0.take k)).toArray⟩ ∧ Drawn0 w1 wr) (fun _ i _ => l0.length - (intOf i).toNat)
      case atStart => exact ⟨0, by omega, rfl, rfl, Drawn0.refl _⟩
      case round =>
        obtain ⟨k, hk, rfl, rfl, HD⟩ := hrel
        have x0 := pw_cell_below HD.below X0.out
        have hbr : Below w.heap.size w wr := bthen hb0 HD.below
        have HDh := Lib.hid HD
        clear HD
        by_cases hlt : k < l0.length
        · obtain ⟨ad, e0, hx⟩ := Kd.at_string HR0.out (k : Int) (by omega) (by omega)
          have htk := List.take_succ_eq_append_getElem hlt
          unfold rdOf at hx
          rw [Int.toNat_natCast, List.getD_eq_getElem?_getD, List.getElem?_eq_getElem hlt] at hx
          replace hx := pw_cell_below hbr hx
          have hpt := pathL_take l0 k
          have hpt1 := pathL_take l0 (k + 1)
          have hsz := HSP.out l0[k] (List.getElem_mem hlt)
          dsimp only [Option.getD_some] at hx
          generalize l0[k] = s at *
          rw [htk, pathL_snoc, List.length_append, List.length_cons] at hpt1
          have HTK := Lib.hid htk
          have hz1 : (⟨(pathL (l0.take k)).toArray⟩ : ByteArray).size ≤ 300000 := by rw [size_mk]; omega
          have hz2 : (⟨(escL s.data.toList).toArray⟩ : ByteArray).size ≤ 300000 := by rw [size_mk]; omega
          have hap : (⟨(pathL (l0.take k)).toArray⟩ : ByteArray) ++ ⟨#[47]⟩ ++ ⟨(escL s.data.toList).toArray⟩ = ⟨(pathL (l0.take (k + 1))).toArray⟩ := by
            rw [HTK.out, pathL_snoc]
            have := app_lit (pathL (l0.take k)) [47]
            have e : (⟨[47].toArray⟩ : ByteArray) = ⟨#[47]⟩ := rfl
            rw [← e, this, app_lit]
            simp
          have HAP := Lib.hid hap
          have ce := Lib.hid (fun w => cE.out s w hsz)
          cases e0
          clear htk hap hpt hpt1
          generalize (⟨(pathL (l0.take k)).toArray⟩ : ByteArray) = p1 at *
          generalize (⟨(escL s.data.toList).toArray⟩ : ByteArray) = p2 at *
          go_wp2_with fail
          refine (ce.out _).mono ?_
          rintro e w2 ⟨rfl, hd2⟩
          have HD2 := Lib.hid (drawn_trans HDh.out hd2)
          clear hd2 HDh
          go_wp2
          go_roundw
          case rel => exact ⟨k + 1, by omega, by go_num, by rw [HAP.out], HD2.out⟩
          case measure => simp [intOf]; omega
        · obtain rfl : k = l0.length := by omega
          rw [List.take_length]
          by_cases hz : l0.length = 0
          · have hlz : l0 = [] := List.eq_nil_of_length_eq_zero hz
            subst hlz
            have HS0 : Hid ((⟨(pathS ([] : List ByteArray)).toArray⟩ : ByteArray) = ⟨#[47]⟩) := Lib.hid rfl
            have HD0 := HDh
            have hpe : (⟨(pathL ([] : List ByteArray)).toArray⟩ : ByteArray) = ⟨#[]⟩ := rfl
            rw [hpe]
            clear hz HDh hpe
            go_wp2_with fail
            clear x0
            go_loopw [4, 6] (fun v4 i wr => ∃ k : Nat, k ≤ l1.length ∧ i = .int .i64 k ∧ v4 = .string ⟨(pathS ([] : List ByteArray) ++ queryL 63 (l1.take k)).toArray⟩ ∧ Drawn0 w1 wr) (fun _ i _ => l1.length - (intOf i).toNat)
            case atStart => exact ⟨0, by omega, rfl, rfl, HD0.out⟩
            case round =>
              obtain ⟨k, hk, rfl, rfl, HD⟩ := hrel
              have x1 := pw_cell_below HD.below X1.out
              have hbr : Below w.heap.size w wr := bthen hb0 HD.below
              have HDh := Lib.hid HD
              clear HD HD0
              by_cases hlt : k < l1.length
              · obtain ⟨ad, e0, hx, hy⟩ := at_T32 HR1.out (k : Int) (by omega) (by omega)
                have htk := List.take_succ_eq_append_getElem hlt
                unfold rd_T32 at hx hy
                rw [Int.toNat_natCast, List.getD_eq_getElem?_getD, List.getElem?_eq_getElem hlt] at hx hy
                replace hx := pw_cell_below hbr hx
                replace hy := pw_cell_below hbr hy
                have hpt := queryL_take l1 k 63
                have hpt1 := queryL_take l1 (k + 1) 63
                have hsz := HSQ.out l1[k] (List.getElem_mem hlt)
                dsimp only [Option.getD_some] at hx hy
                generalize l1[k] = p at *
                rw [htk, queryL_snoc] at hpt1
                obtain ⟨nm, vl⟩ := p
                dsimp only at hx hy hsz
                obtain ⟨hs1, hs2⟩ := hsz
                have HTK := Lib.hid htk
                have htl : (l1.take k).length = k := by rw [List.length_take]; omega
                have hbud : (queryL 63 (l1.take k)).length + (1 + ((escL nm.data.toList).length + (1 + (escL vl.data.toList).length))) ≤ (queryL 63 l1).length := by simp [parL] at hpt1; omega
                have hz1 : (⟨(pathS ([] : List ByteArray) ++ queryL 63 (l1.take k)).toArray⟩ : ByteArray).size ≤ 300000 := by rw [size_mk, List.length_append]; omega
                have hz2 : (⟨(escL nm.data.toList).toArray⟩ : ByteArray).size ≤ 300000 := by rw [size_mk]; omega
                have hz3 : (⟨(escL vl.data.toList).toArray⟩ : ByteArray).size ≤ 300000 := by rw [size_mk]; omega
                have hap : ∀ m : UInt8, (if k = 0 then 63 else 38) = m → (⟨(pathS ([] : List ByteArray) ++ queryL 63 (l1.take k)).toArray⟩ : ByteArray) ++ ⟨#[m]⟩ ++ ⟨(escL nm.data.toList).toArray⟩ ++ ⟨#[61]⟩ ++ ⟨(escL vl.data.toList).toArray⟩ = ⟨(pathS ([] : List ByteArray) ++ queryL 63 (l1.take (k + 1))).toArray⟩ := by
                  intro m hm
                  rw [HTK.out, queryL_snoc, htl]
                  have e1 : (⟨#[m]⟩ : ByteArray) = ⟨[m].toArray⟩ := rfl
                  have e2 : (⟨#[61]⟩ : ByteArray) = ⟨[61].toArray⟩ := rfl
                  rw [e1, e2, app_lit, app_lit, app_lit, app_lit]
                  simp [parL, hm]
                have HAP := Lib.hid hap
                have cn := Lib.hid (fun w => cE.out nm w hs1)
                have cv := Lib.hid (fun w => cE.out vl w hs2)
                cases e0
                clear htk hap hpt hpt1 htl HTK
                generalize (⟨(pathS ([] : List ByteArray) ++ queryL 63 (l1.take k)).toArray⟩ : ByteArray) = p1 at *
                generalize (⟨(escL nm.data.toList).toArray⟩ : ByteArray) = p2 at *
                generalize (⟨(escL vl.data.toList).toArray⟩ : ByteArray) = p3 at *
                by_cases hk0 : k = 0
                · have hk1 : ((k : Int) == 0) = true := by rw [beq_iff_eq]; omega
                  have HAP2 := Lib.hid (HAP.out 63 (if_pos hk0))
                  clear HAP hk0 hbud
                  go_wp2_with fail
                  go_quiet ((go_at_call 19; (first | (with_reducible refine (cn.out _).mono ?_) | (with_reducible refine (cv.out _).mono ?_)); rintro e w' ⟨rfl, ⟨nd, rfl⟩⟩; (first | exact ⟨rfl, _, World.drewN_drewN _ _ _⟩ | exact ⟨rfl, _, Eq.trans (World.drewN_drewN _ _ _) (congrArg (World.drewN _) (Nat.add_assoc _ _ _))⟩ | exact ⟨rfl, _, rfl⟩)))
                  clear hk1 hx hy
                  go_wp2
                  go_roundw
                  case rel => exact ⟨k + 1, by omega, by go_num, by rw [HAP2.out], drawn_trans HDh.out ⟨_, rfl⟩⟩
                  case measure => simp [intOf]; omega
                · have hk1 : ((k : Int) == 0) = false := by rw [beq_eq_false_iff_ne]; omega
                  have HAP2 := Lib.hid (HAP.out 38 (if_neg hk0))
                  clear HAP hk0 hbud
                  go_wp2_with fail
                  go_quiet ((go_at_call 19; (first | (with_reducible refine (cn.out _).mono ?_) | (with_reducible refine (cv.out _).mono ?_)); rintro e w' ⟨rfl, ⟨nd, rfl⟩⟩; (first | exact ⟨rfl, _, World.drewN_drewN _ _ _⟩ | exact ⟨rfl, _, Eq.trans (World.drewN_drewN _ _ _) (congrArg (World.drewN _) (Nat.add_assoc _ _ _))⟩ | exact ⟨rfl, _, rfl⟩)))
                  clear hk1 hx hy
                  go_wp2
                  go_roundw
                  case rel => exact ⟨k + 1, by omega, by go_num, by rw [HAP2.out], drawn_trans HDh.out ⟨_, rfl⟩⟩
                  case measure => simp [intOf]; omega
              · obtain rfl : k = l1.length := by omega
                rw [List.take_length]
                go_wp2
                go_ret2
                exact ⟨rfl, hbr⟩
          · have hps : pathS l0 = pathL l0 := by unfold pathS; rw [if_neg hz]; simp
            rw [← hps]
            have HS0 : Hid ((⟨(pathS l0).toArray⟩ : ByteArray) = ⟨(pathS l0).toArray⟩) := Lib.hid rfl
            have hne : (⟨(pathS l0).toArray⟩ : ByteArray).size ≠ 0 := by
              rw [size_mk, hps]
              rcases l0 with _ | ⟨a, l0⟩
              · simp at hz
              · simp [pathL]
            obtain ⟨z1, z2⟩ := toL_ne _ hne
            have HD0 := HDh
            clear hps hne hz HDh HS0
            generalize hp0 : (⟨(pathS l0).toArray⟩ : ByteArray) = p0 at z1 z2 ⊢
            have HS0 := Lib.hid hp0
            clear hp0
            go_wp2_with fail
            clear x0 z1 z2
            go_loopw [4, 6] (fun v4 i wr => ∃ k : Nat, k ≤ l1.length ∧ i = .int .i64 k ∧ v4 = .string ⟨(pathS l0 ++ queryL 63 (l1.take k)).toArray⟩ ∧ Drawn0 w1 wr) (fun _ i _ => l1.length - (intOf i).toNat)
            case atStart => exact ⟨0, by omega, rfl, by rw [← HS0.out]; simp [queryL], HD0.out⟩
            case round =>
              obtain ⟨k, hk, rfl, rfl, HD⟩ := hrel
              have x1 := pw_cell_below HD.below X1.out
              have hbr : Below w.heap.size w wr := bthen hb0 HD.below
              have HDh := Lib.hid HD
              clear HD HD0
              by_cases hlt : k < l1.length
              · obtain ⟨ad, e0, hx, hy⟩ := at_T32 HR1.out (k : Int) (by omega) (by omega)
                have htk := List.take_succ_eq_append_getElem hlt
                unfold rd_T32 at hx hy
                rw [Int.toNat_natCast, List.getD_eq_getElem?_getD, List.getElem?_eq_getElem hlt] at hx hy
                replace hx := pw_cell_below hbr hx
                replace hy := pw_cell_below hbr hy
                have hpt := queryL_take l1 k 63
                have hpt1 := queryL_take l1 (k + 1) 63
                have hsz := HSQ.out l1[k] (List.getElem_mem hlt)
                dsimp only [Option.getD_some] at hx hy
                generalize l1[k] = p at *
                rw [htk, queryL_snoc] at hpt1
                obtain ⟨nm, vl⟩ := p
                dsimp only at hx hy hsz
                obtain ⟨hs1, hs2⟩ := hsz
                have HTK := Lib.hid htk
                have htl : (l1.take k).length = k := by rw [List.length_take]; omega
                have hbud : (queryL 63 (l1.take k)).length + (1 + ((escL nm.data.toList).length + (1 + (escL vl.data.toList).length))) ≤ (queryL 63 l1).length := by simp [parL] at hpt1; omega
                have hz1 : (⟨(pathS l0 ++ queryL 63 (l1.take k)).toArray⟩ : ByteArray).size ≤ 300000 := by rw [size_mk, List.length_append]; omega
                have hz2 : (⟨(escL nm.data.toList).toArray⟩ : ByteArray).size ≤ 300000 := by rw [size_mk]; omega
                have hz3 : (⟨(escL vl.data.toList).toArray⟩ : ByteArray).size ≤ 300000 := by rw [size_mk]; omega
                have hap : ∀ m : UInt8, (if k = 0 then 63 else 38) = m → (⟨(pathS l0 ++ queryL 63 (l1.take k)).toArray⟩ : ByteArray) ++ ⟨#[m]⟩ ++ ⟨(escL nm.data.toList).toArray⟩ ++ ⟨#[61]⟩ ++ ⟨(escL vl.data.toList).toArray⟩ = ⟨(pathS l0 ++ queryL 63 (l1.take (k + 1))).toArray⟩ := by
                  intro m hm
                  rw [HTK.out, queryL_snoc, htl]
                  have e1 : (⟨#[m]⟩ : ByteArray) = ⟨[m].toArray⟩ := rfl
                  have e2 : (⟨#[61]⟩ : ByteArray) = ⟨[61].toArray⟩ := rfl
                  rw [e1, e2, app_lit, app_lit, app_lit, app_lit]
                  simp [parL, hm]
                have HAP := Lib.hid hap
                have cn := Lib.hid (fun w => cE.out nm w hs1)
                have cv := Lib.hid (fun w => cE.out vl w hs2)
                cases e0
                clear htk hap hpt hpt1 htl HTK
                generalize (⟨(pathS l0 ++ queryL 63 (l1.take k)).toArray⟩ : ByteArray) = p1 at *
                generalize (⟨(escL nm.data.toList).toArray⟩ : ByteArray) = p2 at *
                generalize (⟨(escL vl.data.toList).toArray⟩ : ByteArray) = p3 at *
                by_cases hk0 : k = 0
                · have hk1 : ((k : Int) == 0) = true := by rw [beq_iff_eq]; omega
                  have HAP2 := Lib.hid (HAP.out 63 (if_pos hk0))
                  clear HAP hk0 hbud
                  go_wp2_with fail
                  go_quiet ((go_at_call 19; (first | (with_reducible refine (cn.out _).mono ?_) | (with_reducible refine (cv.out _).mono ?_)); rintro e w' ⟨rfl, ⟨nd, rfl⟩⟩; (first | exact ⟨rfl, _, World.drewN_drewN _ _ _⟩ | exact ⟨rfl, _, Eq.trans (World.drewN_drewN _ _ _) (congrArg (World.drewN _) (Nat.add_assoc _ _ _))⟩ | exact ⟨rfl, _, rfl⟩)))
                  clear hk1 hx hy
                  go_wp2
                  go_roundw
                  case rel => exact ⟨k + 1, by omega, by go_num, by rw [HAP2.out], drawn_trans HDh.out ⟨_, rfl⟩⟩
                  case measure => simp [intOf]; omega
                · have hk1 : ((k : Int) == 0) = false := by rw [beq_eq_false_iff_ne]; omega
                  have HAP2 := Lib.hid (HAP.out 38 (if_neg hk0))
                  clear HAP hk0 hbud
                  go_wp2_with fail
                  go_quiet ((go_at_call 19; (first | (with_reducible refine (cn.out _).mono ?_) | (with_reducible refine (cv.out _).mono ?_)); rintro e w' ⟨rfl, ⟨nd, rfl⟩⟩; (first | exact ⟨rfl, _, World.drewN_drewN _ _ _⟩ | exact ⟨rfl, _, Eq.trans (World.drewN_drewN _ _ _) (congrArg (World.drewN _) (Nat.add_assoc _ _ _))⟩ | exact ⟨rfl, _, rfl⟩)))
                  clear hk1 hx hy
                  go_wp2
                  go_roundw
                  case rel => exact ⟨k + 1, by omega, by go_num, by rw [HAP2.out], drawn_trans HDh.out ⟨_, rfl⟩⟩
                  case measure => simp [intOf]; omega
              · obtain rfl : k = l1.length := by omega
                rw [List.take_length]
                go_wp2
                go_ret2
                exact ⟨rfl, hbr⟩
    · rw [if_pos rfl, if_neg hsm] at h; cases h
end Go.Proofs.YtejmolhdmbkfaaaDoor.S
