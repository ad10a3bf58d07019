/-
  route.To, walked whole.
-/
import Derived.Test.YtnfimhdcpmakpaaDoorFaP
namespace Go.Proofs.YtnfimhdcpmakpaaDoor.S
open Go.RowKit Go.Proofs.YtnfimhdcpmakpaaDoorW.PrintWords
set_option linter.unusedVariables false
set_option linter.unusedSimpArgs false
def toScanG (K : Nat) (m : ByteArray) (P : List ByteArray) (Q : List S91) (fs : List S41) (bd : List Int) : List S58 → Int → Option (OpV × List Int × List Int × Int)
  | [], st => some (zeroO, [], [], st)
  | x :: rs, st => (route_road_fits.f K x.f0 x.f1 x.f2 x.f3 x.f4 x.f5 P).bind fun b => if b = false then toScanG K m P Q fs bd rs st else if x.f0.toList = m.toList then
      (route_token.f K fs).bind fun t => (route_road_parts.f x.f0 x.f1 x.f2 x.f3 x.f4 x.f5).bind fun form => if form.length ≠ P.length then none else (fillG K form P { zeroO with dv := x.f2 }).bind fun q =>
        if q.1 = true then (askR K x.f4 x.f5 Q q.2).bind fun z => if z.1 = true then some (z.2, t, if x.f3 = true then bd else [], 0) else some (zeroO, [], [], 400) else some (zeroO, [], [], 400)
    else toScanG K m P Q fs bd rs 405
def toG (K : Nat) (m s : ByteArray) (fs : List S41) (bd : List Int) : Option (OpV × List Int × List Int × Int) :=
  (target_Parse.f K s).bind fun t => if t.2.2 = 0 then (if t.1.length ≤ 1048576 then (route_roads.f).bind fun rs => toScanG K m t.1 t.2.1 fs bd rs 404 else none) else some (zeroO, [], [], 400)
theorem fillG_tok (K : Nat) (v : Value) : ∀ (xs ps : List ByteArray) (o : OpV), fillG K xs ps { o with tok := v } = (fillG K xs ps o).map fun q => (q.1, { q.2 with tok := v })
  | [], _, o => rfl
  | _ :: _, [], _ => rfl
  | x :: xs, p :: ps, o => by
    rw [fillG_of, fillG_of]
    by_cases h1 : x.toList = [78, 65, 77, 69]
    · rw [if_pos h1, if_pos h1]
      rcases names_May.f K p with _ | b
      · rfl
      · simp only [Option.bind_some]
        by_cases hb : b = true
        · rw [if_pos hb, if_pos hb]; exact fillG_tok K v xs ps { o with ten := p }
        · rw [if_neg hb, if_neg hb]; rfl
    · rw [if_neg h1, if_neg h1]
      by_cases h2 : x.toList = [72, 69, 88]
      · rw [if_pos h2, if_pos h2]
        by_cases hz : p.size ≤ 1048576
        · rw [if_pos hz, if_pos hz]
          by_cases hb : (idOf (unh p)).2 = 0
          · rw [if_pos hb, if_pos hb]; exact fillG_tok K v xs ps { o with of_ := (idOf (unh p)).1 }
          · rw [if_neg hb, if_neg hb]; rfl
        · rw [if_neg hz, if_neg hz]; rfl
      · rw [if_neg h2, if_neg h2]
        by_cases h3 : x.toList = [78]
        · rw [if_pos h3, if_pos h3]
          rcases names_Number.f K p with _ | n
          · rfl
          · simp only [Option.bind_some]
            by_cases hb : n.2 = 0
            · rw [if_pos hb, if_pos hb]; exact fillG_tok K v xs ps { o with num := n.1 }
            · rw [if_neg hb, if_neg hb]; rfl
        · rw [if_neg h3, if_neg h3]; exact fillG_tok K v xs ps o
theorem fillG_body (K : Nat) : ∀ (xs ps : List ByteArray) (o : OpV) (z : Bool × OpV), fillG K xs ps o = some z → z.2.body = o.body
  | [], _, o, z, h => by cases h; rfl
  | _ :: _, [], _, z, h => by cases h
  | x :: xs, p :: ps, o, z, h => by
    rw [fillG_of] at h
    by_cases h1 : x.toList = [78, 65, 77, 69]
    · rw [if_pos h1] at h
      obtain ⟨b, _, h⟩ := Option.bind_eq_some_iff.1 h
      by_cases hb : b = true
      · rw [if_pos hb] at h; exact fillG_body K xs ps { o with ten := p } z h
      · rw [if_neg hb] at h; cases h; rfl
    · rw [if_neg h1] at h
      by_cases h2 : x.toList = [72, 69, 88]
      · rw [if_pos h2] at h
        by_cases hz : p.size ≤ 1048576
        · rw [if_pos hz] at h
          by_cases hb : (idOf (unh p)).2 = 0
          · rw [if_pos hb] at h; exact fillG_body K xs ps { o with of_ := (idOf (unh p)).1 } z h
          · rw [if_neg hb] at h; cases h; rfl
        · rw [if_neg hz] at h; cases h
      · rw [if_neg h2] at h
        by_cases h3 : x.toList = [78]
        · rw [if_pos h3] at h
          obtain ⟨n, _, h⟩ := Option.bind_eq_some_iff.1 h
          by_cases hb : n.2 = 0
          · rw [if_pos hb] at h; exact fillG_body K xs ps { o with num := n.1 } z h
          · rw [if_neg hb] at h; cases h; rfl
        · rw [if_neg h3] at h; exact fillG_body K xs ps o z h
theorem askG_tok (K : Nat) (q t : Bool) (v : Value) : ∀ (l : List S91) (m : Int) (o : OpV), askG K q t l m { o with tok := v } = (askG K q t l m o).map fun z => (z.1, { z.2 with tok := v })
  | [], _, o => rfl
  | p :: ps, m, o => by
    rw [askG_of, askG_of]
    split
    · rcases names_Number.f K p.f1 with _ | n
      · rfl
      · simp only [Option.bind_some]
        split
        · exact askG_tok K q t v ps (m - 1) { o with num := n.1 }
        · rfl
    · split
      · rcases rights_Parse.f K p.f1 with _ | n
        · rfl
        · simp only [Option.bind_some]
          split
          · exact askG_tok K q t v ps (m - 1) { o with rig := n.1 }
          · rfl
      · split
        · rcases names_Number.f K p.f1 with _ | n
          · rfl
          · simp only [Option.bind_some]
            split
            · exact askG_tok K q t v ps (m - 1) { o with unt := n.1 }
            · rfl
        · split
          · rcases names_May.f K p.f1 with _ | b
            · rfl
            · simp only [Option.bind_some]
              split
              · exact askG_tok K q t v ps m { o with ten := p.f1 }
              · rfl
          · rfl
theorem askG_keeps (K : Nat) (q t : Bool) : ∀ (l : List S91) (m : Int) (o : OpV) (z : Bool × OpV), askG K q t l m o = some z → z.2.body = o.body ∧ z.2.tok = o.tok
  | [], _, o, z, h => by cases h; exact ⟨rfl, rfl⟩
  | p :: ps, m, o, z, h => by
    rw [askG_of] at h
    split at h
    · obtain ⟨n, _, h⟩ := Option.bind_eq_some_iff.1 h
      split at h
      · exact askG_keeps K q t ps (m - 1) { o with num := n.1 } z h
      · cases h; exact ⟨rfl, rfl⟩
    · split at h
      · obtain ⟨n, _, h⟩ := Option.bind_eq_some_iff.1 h
        split at h
        · exact askG_keeps K q t ps (m - 1) { o with rig := n.1 } z h
        · cases h; exact ⟨rfl, rfl⟩
      · split at h
        · obtain ⟨n, _, h⟩ := Option.bind_eq_some_iff.1 h
          split at h
          · exact askG_keeps K q t ps (m - 1) { o with unt := n.1 } z h
          · cases h; exact ⟨rfl, rfl⟩
        · split at h
          · obtain ⟨b, _, h⟩ := Option.bind_eq_some_iff.1 h
            split at h
            · exact askG_keeps K q t ps m { o with ten := p.f1 } z h
            · cases h; exact ⟨rfl, rfl⟩
          · cases h; exact ⟨rfl, rfl⟩
theorem askR_tok (K : Nat) (q t : Bool) (v : Value) (l : List S91) (o : OpV) : askR K q t l { o with tok := v } = (askR K q t l o).map fun z => (z.1, { z.2 with tok := v }) := by
  unfold askR
  split
  · rfl
  · exact askG_tok K q t v l _ o
theorem askR_keeps (K : Nat) (q t : Bool) (l : List S91) (o : OpV) (z : Bool × OpV) (h : askR K q t l o = some z) : z.2.body = o.body ∧ z.2.tok = o.tok := by
  unfold askR at h
  split at h
  · cases h
  · exact askG_keeps K q t l _ o z h
theorem clone_any (w : World) (A : Option Addr) (c : Nat) (l : List Int) (hC : Kd.C (Kd.int .u8) w A l.length l) (hbl : l.length ≤ 140737488355328) :
    Calls Tryd.prog 24 #[.slice A l.length c] w fun e w' => ∃ v, e = .returned v ∧ Kd.R (Kd.int .u8) 5 w' w.heap.size (fun _ => True) v l ∧ Below w.heap.size w w' := by
  rcases A with _ | a
  · have h0 : l.length = 0 := by
      rcases Nat.eq_zero_or_pos l.length with h | h
      · exact h
      · obtain ⟨ad, h, _⟩ := hC.2.2 h; cases h
    obtain rfl := List.eq_nil_of_length_eq_zero h0
    refine (Tryd.bytes_Clone_nil 0 c w).mono ?_
    rintro _ w' ⟨rfl, rfl⟩
    exact ⟨_, rfl, Kd.R_nil _ _ _ _ _, Below.refl _ _⟩
  · have hr := reads_of_C hC
    refine (Tryd.bytes_Clone_at a l.length c l w rfl hbl (fun i hi => ?_)).mono ?_
    · obtain ⟨ad, h, hc⟩ := hr.2.2 (by omega)
      cases h
      exact hc i hi
    · rintro _ w' ⟨v, rfl, ho, _, hb⟩
      exact ⟨v, rfl, Kd.R_of_own ho (fun _ _ => trivial), hb⟩
set_option maxHeartbeats 8000000 in
set_option maxRecDepth 100000 in
theorem to_all (K : Nat) (m s : ByteArray) (Af : Option Addr) (cf : Nat) (fs : List S41) (Ab : Option Addr) (cb : Nat) (bd : List Int) (kp : Bool) (w : World) (o' : OpV) (t' b' : List Int) (st : Int)
    (hf : Kd.C k41 w Af fs.length fs) (hc : fs.length ≤ cf) (hbd : Kd.C (Kd.int .u8) w Ab bd.length bd) (hcb : bd.length ≤ cb) (hbl : bd.length ≤ 140737488355328) (h : toG K m s fs bd = some (o', t', b', st)) (hT : Tabs w) :
    Calls Tryd.prog 10 #[.agg #[.string m, .string s, .slice Af fs.length cf, .slice Ab bd.length cb, .bool kp]] w
      fun e w' => (∃ v u, e = .returned (.tuple #[.agg (opA { o' with tok := v, body := u }), .int .i64 st]) ∧ Kd.R (Kd.int .u8) 5 w' w.heap.size (fun _ => True) v t' ∧ Kd.R (Kd.int .u8) 5 w' w.heap.size (fun _ => True) u b') ∧ Below w.heap.size w w' := by
  have HF := Lib.hid hf
  have HBD := Lib.hid hbd
  have HTT := Lib.hid (show ∀ w', Below w.heap.size w w' → Tabs w' from fun w' hb => hT.below hb)
  clear hbd hT
  have HS := Lib.hid h
  clear hf h
  unfold toG at HS
  obtain ⟨t, hP, hS⟩ := Option.bind_eq_some_iff.1 HS.out
  obtain ⟨P, Q, e⟩ := t
  have HP := Lib.hid hP
  have HS2 := Lib.hid hS
  clear HS hP hS
  go_enter Tryd.func10, Tryd.ntmps10
  go_wp2_with fail
  rw [zero_cells]
  have g0 : (((w.alloc (.cells #[.string m, .string s, .slice Af fs.length cf, .slice Ab bd.length cb, .bool kp] 25)).alloc (.cells (opA zeroO) 33)).heap[w.heap.size]?) = some (.cells #[.string m, .string s, .slice Af fs.length cf, .slice Ab bd.length cb, .bool kp] 25 (0, 0)) := blk_alloc (blk_new w _) _
  have g1 : (((w.alloc (.cells #[.string m, .string s, .slice Af fs.length cf, .slice Ab bd.length cb, .bool kp] 25)).alloc (.cells (opA zeroO) 33)).heap[w.heap.size + 1]?) = some (.cells (opA zeroO) 33 (0, 0)) := by
    have := blk_new (w.alloc (.cells #[.string m, .string s, .slice Af fs.length cf, .slice Ab bd.length cb, .bool kp] 25)) (.cells (opA zeroO) 33)
    simpa only [World.alloc, Array.size_push] using this
  have hb0 : Below w.heap.size w ((w.alloc (.cells #[.string m, .string s, .slice Af fs.length cf, .slice Ab bd.length cb, .bool kp] 25)).alloc (.cells (opA zeroO) 33)) := below_alloc (below_alloc (Below.refl _ _) _) _
  generalize ((w.alloc (.cells #[.string m, .string s, .slice Af fs.length cf, .slice Ab bd.length cb, .bool kp] 25)).alloc (.cells (opA zeroO) 33)) = w0 at g0 g1 hb0 ⊢
  refine (target_Parse.calls K s P Q e _ HP.out).mono ?_
  rintro _ w1 ⟨v0, v1, rfl, r0, r1, hb⟩
  obtain ⟨A0, n0, eo0⟩ := Kd.R_slice r0
  subst eo0
  obtain ⟨A1, n1, eo1⟩ := Kd.R_slice r1
  subst eo1
  have hb1 := below_then hb0 hb0.size hb
  have BR := Lib.hid (blk_below g0 hb)
  have BO := Lib.hid (blk_below g1 hb)
  have RP := Lib.hid (Kd.R_lower r0 hb0.size)
  have RQ := Lib.hid (Kd.R_lower r1 hb0.size)
  clear g0 g1 r0 r1 hb hb0 HP
  have one1 : (#[.slice A0 P.length n0, .slice A1 Q.length n1] : Array Value).all (·.oneCell') = true := by simp [Value.oneCell']
  go_wp2_with ((refine wpList_store_row rfl 51 _ _ rfl w1.heap.size #[.slice A0 P.length n0, .slice A1 Q.length n1] rfl rfl 51 #[.slice none 0 0, .slice none 0 0] (heap_alloc_new w1 _) size51 rfl one1 ?_); refine Hid.out ?_)
  refine Lib.hid ?_
  have f1 := setRow_heap (w1.alloc (.cells #[.slice none 0 0, .slice none 0 0] 51)) w1.heap.size _ #[.slice A0 P.length n0, .slice A1 Q.length n1] 51 _ (heap_alloc_new w1 _)
  have f2 := below_setRow (below_alloc (Below.refl w1.heap.size w1) (.cells #[.slice none 0 0, .slice none 0 0] 51)) (Nat.le_refl _) #[.slice A0 P.length n0, .slice A1 Q.length n1]
  generalize (w1.alloc (.cells #[.slice none 0 0, .slice none 0 0] 51)).setRow w1.heap.size #[.slice A0 P.length n0, .slice A1 Q.length n1] = w2 at f1 f2 ⊢
  generalize hg4 : w1.heap.size = g4 at f1 f2 ⊢
  replace BR := Lib.hid (blk_below BR.out (hg4 ▸ f2))
  replace BO := Lib.hid (blk_below BO.out (hg4 ▸ f2))
  replace RP := Lib.hid (Kd.R_below RP.out (hg4 ▸ f2))
  replace RQ := Lib.hid (Kd.R_below RQ.out (hg4 ▸ f2))
  have HB := Lib.hid (below_then hb1 hb1.size (hg4 ▸ f2))
  have BT := Lib.hid f1
  clear f1 f2 one1 hb1 hg4
  by_cases he : e = 0
  rotate_left
  · have hS := HS2.out
    rw [if_neg (show ¬ (P, Q, e).2.2 = 0 from he)] at hS
    obtain ⟨rfl, hS1⟩ := Prod.mk.inj (Option.some.inj hS)
    obtain ⟨rfl, hS2⟩ := Prod.mk.inj hS1; obtain ⟨rfl, rfl⟩ := Prod.mk.inj hS2; clear hS2
    have h1 : (e != 0) = true := by simpa using he
    clear hS hS1 HS2 he
    go_wp2_with (first | (refine build_to rfl 33 _ rfl (opA zeroO) (by kernel_rfl) ?_) | ((refine wpList_store_row rfl 33 _ _ rfl (w.heap.size + 1) (opA zeroO) rfl rfl 33 (opA zeroO) BO.out size33z rfl oneZ ?_); refine Hid.out ?_))
    refine Lib.hid ?_
    have f1 := setRow_heap w2 (w.heap.size + 1) _ (opA zeroO) 33 _ BO.out
    have f2 : Below w.heap.size w (w2.setRow (w.heap.size + 1) (opA zeroO)) := below_setRow HB.out (Nat.le_succ _) _
    generalize w2.setRow (w.heap.size + 1) (opA zeroO) = w3 at f1 f2 ⊢
    go_wp2
    refine bodyPost_ret (results_ct rfl _ _ (w.heap.size + 1) 33 (opA zeroO) (0, 0) _ rfl f1 Tryd.underlying33 rfl size33z) rfl ?_
    exact ⟨⟨.slice none 0 0, .slice none 0 0, rfl, Kd.R_nil _ _ _ _ _, Kd.R_nil _ _ _ _ _⟩, f2⟩
  · subst he
    have hS := HS2.out
    rw [if_pos (show (P, Q, (0 : Int)).2.2 = 0 from rfl)] at hS
    by_cases hQ : P.length ≤ 1048576
    rotate_left
    · rw [if_neg hQ] at hS; cases hS
    rw [if_pos hQ] at hS
    obtain ⟨rs, hrs, hS⟩ := Option.bind_eq_some_iff.1 hS
    have hrl : rs.length = 17 := by obtain rfl := Option.some.inj hrs; rfl
    have HSC := Lib.hid hS
    have HRS := Lib.hid hrs
    clear hS HS2 hrs
    go_wp2_with fail
    refine (route_roads.calls rs _ HRS.out).mono ?_
    rintro _ w3 ⟨vr, rfl, rr, hb⟩
    obtain ⟨Ar, nr, eor⟩ := Kd.R_slice rr
    subst eor
    replace BR := Lib.hid (blk_below BR.out hb)
    replace BO := Lib.hid (blk_below BO.out hb)
    replace BT := Lib.hid (blk_below BT.out hb)
    replace RP := Lib.hid (Kd.R_below RP.out hb)
    replace RQ := Lib.hid (Kd.R_below RQ.out hb)
    have RR := Lib.hid (Kd.R_lower rr HB.out.size)
    replace HB := Lib.hid (below_then HB.out HB.out.size hb)
    clear rr hb HRS
    go_wp2_with fail
    go_loopw [6, 21] (fun sv i wr => ∃ (k : Nat) (sx : Int), k ≤ rs.length ∧ sv = .int .i64 sx ∧ i = .int .i64 k ∧ Hid (toScanG K m P Q fs bd (rs.drop k) sx = some (o', t', b', st)) ∧ Hid (wr.heap[w.heap.size]? = some (.cells #[.string m, .string s, .slice Af fs.length cf, .slice Ab bd.length cb, .bool kp] 25 (0, 0))) ∧ Hid (wr.heap[w.heap.size + 1]? = some (.cells (opA zeroO) 33 (0, 0))) ∧ Hid (wr.heap[g4]? = some (.cells #[.slice A0 P.length n0, .slice A1 Q.length n1] 51 (0, 0))) ∧ Hid (Kd.R Kd.string 9 wr w.heap.size (fun _ => True) (.slice A0 P.length n0) P) ∧ Hid (Kd.R k91 91 wr w.heap.size (fun _ => True) (.slice A1 Q.length n1) Q) ∧ Hid (Kd.R k58 58 wr w.heap.size (fun _ => True) (.slice Ar rs.length nr) rs) ∧ Hid (Below w.heap.size w wr)) (fun _ i _ => rs.length - (intOf i).toNat)
    case atStart => exact ⟨0, 404, by omega, rfl, rfl, HSC, BR, BO, BT, RP, RQ, RR, HB⟩
    case round =>
      clear HSC BR BO BT RP RQ RR HB
      obtain ⟨k, sx, hk, rfl, rfl, HSC, BR, BO, BT, RP, RQ, RR, HB⟩ := hrel
      by_cases hlt : k < rs.length
      · obtain ⟨ad, e0, x0, x1, x2, x3, x4, x5⟩ := at_T58 (Kd.R_reads' RR.out).2.2 (k : Int) (by omega) (by omega)
        unfold rd_T58 at x0 x1 x2 x3 x4 x5
        rw [Int.toNat_natCast] at x0 x1 x2 x3 x4 x5
        have hdr : rs.drop k = rs.getD k z58 :: rs.drop (k + 1) := by rw [List.drop_eq_getElem_cons hlt, List.getD_eq_getElem?_getD, List.getElem?_eq_getElem hlt]; rfl
        have hsc := HSC.out
        rw [hdr, toScanG] at hsc
        generalize rs.getD k z58 = x at *
        clear hdr HSC
        cases e0
        obtain ⟨b, hb, hsc⟩ := Option.bind_eq_some_iff.1 hsc
        have HFI := Lib.hid hb
        have HSC := Lib.hid hsc
        clear hb hsc
        have one6 : (#[.string x.f0, .string x.f1, .int .i64 x.f2, .bool x.f3, .bool x.f4, .bool x.f5] : Array Value).all (·.oneCell') = true := by simp [Value.oneCell']
        go_wp2_with ((refine wpList_store_row rfl 58 _ _ rfl wr.heap.size #[.string x.f0, .string x.f1, .int .i64 x.f2, .bool x.f3, .bool x.f4, .bool x.f5] rfl rfl 58 #[.string ⟨#[]⟩, .string ⟨#[]⟩, .int .i64 0, .bool false, .bool false, .bool false] (heap_alloc_new wr _) size58 rfl one6 ?_); refine Hid.out ?_)
        refine Lib.hid ?_
        have f1 := setRow_heap (wr.alloc (.cells #[.string ⟨#[]⟩, .string ⟨#[]⟩, .int .i64 0, .bool false, .bool false, .bool false] 58)) wr.heap.size _ #[.string x.f0, .string x.f1, .int .i64 x.f2, .bool x.f3, .bool x.f4, .bool x.f5] 58 _ (heap_alloc_new wr _)
        have f2 := below_setRow (below_alloc (Below.refl wr.heap.size wr) (.cells #[.string ⟨#[]⟩, .string ⟨#[]⟩, .int .i64 0, .bool false, .bool false, .bool false] 58)) (Nat.le_refl _) #[.string x.f0, .string x.f1, .int .i64 x.f2, .bool x.f3, .bool x.f4, .bool x.f5]
        generalize (wr.alloc (.cells #[.string ⟨#[]⟩, .string ⟨#[]⟩, .int .i64 0, .bool false, .bool false, .bool false] 58)).setRow wr.heap.size #[.string x.f0, .string x.f1, .int .i64 x.f2, .bool x.f3, .bool x.f4, .bool x.f5] = w4 at f1 f2 ⊢
        generalize hg8 : wr.heap.size = g8 at f1 f2 ⊢
        replace f2 : Below wr.heap.size wr w4 := hg8 ▸ f2
        replace BR := Lib.hid (blk_below BR.out f2)
        replace BO := Lib.hid (blk_below BO.out f2)
        replace BT := Lib.hid (blk_below BT.out f2)
        replace RP := Lib.hid (Kd.R_below RP.out f2)
        replace RQ := Lib.hid (Kd.R_below RQ.out f2)
        replace RR := Lib.hid (Kd.R_below RR.out f2)
        replace HB := Lib.hid (below_then HB.out HB.out.size f2)
        have BX := Lib.hid f1
        clear f1 f2 one6 hg8 x0 x1 x2 x3 x4 x5
        have y0 : w4.cell? ⟨g4, 0, none⟩ = some (.slice A0 P.length n0) := (blk_cell BT.out 0).trans rfl
        have c0 : w4.cell? ⟨g8, 0, none⟩ = some (.string x.f0) := (blk_cell BX.out 0).trans rfl
        have c1 : w4.cell? ⟨g8, 1, none⟩ = some (.string x.f1) := (blk_cell BX.out 1).trans rfl
        have c2 : w4.cell? ⟨g8, 2, none⟩ = some (.int .i64 x.f2) := (blk_cell BX.out 2).trans rfl
        have c3 : w4.cell? ⟨g8, 3, none⟩ = some (.bool x.f3) := (blk_cell BX.out 3).trans rfl
        have c4 : w4.cell? ⟨g8, 4, none⟩ = some (.bool x.f4) := (blk_cell BX.out 4).trans rfl
        have c5 : w4.cell? ⟨g8, 5, none⟩ = some (.bool x.f5) := (blk_cell BX.out 5).trans rfl
        go_wp2_with fail
        refine (route_road_fits.calls K x.f0 x.f1 x.f2 x.f3 x.f4 x.f5 A0 n0 P b _ (Kd.R_reads' RP.out).2.2 (Kd.R_reads' RP.out).2.1 HFI.out).mono ?_
        rintro _ w5 ⟨rfl, hb⟩
        replace BR := Lib.hid (blk_below BR.out hb)
        replace BO := Lib.hid (blk_below BO.out hb)
        replace BT := Lib.hid (blk_below BT.out hb)
        replace BX := Lib.hid (blk_below BX.out hb)
        replace RP := Lib.hid (Kd.R_below RP.out hb)
        replace RQ := Lib.hid (Kd.R_below RQ.out hb)
        replace RR := Lib.hid (Kd.R_below RR.out hb)
        replace HB := Lib.hid (below_then HB.out HB.out.size hb)
        clear hb y0 c0 c1 c2 c3 c4 c5 HFI
        cases b
        · have HSC2 := Lib.hid (show toScanG K m P Q fs bd (rs.drop (k + 1)) sx = some (o', t', b', st) from HSC.out)
          clear HSC
          go_wp2
          go_roundw
          case rel => exact ⟨k + 1, sx, by omega, rfl, by go_num, HSC2, BR, BO, BT, RP, RQ, RR, HB⟩
          case measure => simp [intOf]; omega
        · have hsc := HSC.out
          rw [if_neg (by decide)] at hsc
          clear HSC
          have c0 : w5.cell? ⟨g8, 0, none⟩ = some (.string x.f0) := (blk_cell BX.out 0).trans rfl
          have d0 : w5.cell? ⟨w.heap.size, 0, none⟩ = some (.string m) := (blk_cell BR.out 0).trans rfl
          by_cases hm : x.f0.toList = m.toList
          rotate_left
          · rw [if_neg hm] at hsc
            have HSC2 := Lib.hid hsc
            have hm2 : (x.f0.toList != m.toList) = true := by simpa using hm
            have hm3 : (x.f0.toList == m.toList) = false := by simpa using hm
            clear hsc hm
            go_wp2
            go_roundw
            case rel => exact ⟨k + 1, 405, by omega, rfl, by go_num, HSC2, BR, BO, BT, RP, RQ, RR, HB⟩
            case measure => simp [intOf]; omega
          · rw [if_pos hm] at hsc
            have hm2 : (x.f0.toList != m.toList) = false := by simpa using hm
            have hm3 : (x.f0.toList == m.toList) = true := by simpa using hm
            clear hm
            obtain ⟨t, ht, hsc⟩ := Option.bind_eq_some_iff.1 hsc
            obtain ⟨form, hform, hsc⟩ := Option.bind_eq_some_iff.1 hsc
            by_cases hx : form.length ≠ P.length
            · rw [if_pos hx] at hsc; cases hsc
            rw [if_neg hx] at hsc
            obtain ⟨q, hq, hsc⟩ := Option.bind_eq_some_iff.1 hsc
            obtain ⟨ok, q⟩ := q
            have HTK := Lib.hid ht
            have HFO := Lib.hid hform
            have HQQ := Lib.hid hq
            have HSC := Lib.hid hsc
            have hxl : form.length = P.length := by
              by_cases h : form.length = P.length
              · exact h
              · exact absurd h hx
            clear ht hform hq hsc hx
            have c2 : w5.cell? ⟨g8, 2, none⟩ = some (.int .i64 x.f2) := (blk_cell BX.out 2).trans rfl
            have d2 : w5.cell? ⟨w.heap.size, 2, none⟩ = some (.slice Af fs.length cf) := (blk_cell BR.out 2).trans rfl
            have HX := Lib.hid (fun (w' : World) (hb : Below w5.heap.size w5 w') => (⟨pw_cell_below hb c2, pw_cell_below hb d2, hb⟩ : (w'.cell? ⟨g8, 2, none⟩ = some (.int .i64 x.f2) ∧ w'.cell? ⟨w.heap.size, 2, none⟩ = some (.slice Af fs.length cf) ∧ Below w5.heap.size w5 w')))
            go_wp2_with fail
            clear c0 d0 c2 d2
            go_region_held3 (fun w' => w'.cell? ⟨g8, 2, none⟩ = some (.int .i64 x.f2) ∧ w'.cell? ⟨w.heap.size, 2, none⟩ = some (.slice Af fs.length cf) ∧ Below w5.heap.size w5 w')
              (first | exact HX.out _ (Below.refl _ _).drew | exact HX.out _ (bthen (last3 (by assumption)) (by assumption)) | exact HX.out _ (below_alloc (last3 (by assumption)) _) | exact HX.out _ (below_setRow (last3 (by assumption)) (by assumption) _) | exact HX.out _ (below_setRow (last3 (by assumption)) (Nat.le_refl _) _) | assumption)
              (first
                | (go_at_call 21; refine (route_token.calls K Af cf fs t _ (Kd.C_below HF.out (below_then HB.out HB.out.size (last3 (by assumption)))) hc HTK.out).mono ?_; rintro e7 w7 ⟨v7, rfl, hr7, hb7⟩; obtain ⟨A7, n7, eo7⟩ := Kd.R_slice hr7; subst eo7; have hle7 : w5.heap.size ≤ w7.heap.size := (bthen (last3 (by assumption)) hb7).size; first | (have hst := stored33b w7 w5.heap.size (blk_below (heap_alloc_new w5.drew _) hb7) x.f2 A7 t.length n7) | (have hst := stored33 w7 x.f2 A7 t.length n7)))
            all_goals
              first
              | (have B9 := Lib.hid (setRow_heap w7 w5.heap.size _ (opA { zeroO with dv := x.f2, tok := .slice A7 t.length n7 }) 33 _ (blk_below (heap_alloc_new w5.drew (.cells Tryd.zeroCells33 33)) hb7))
                 have R7 := Lib.hid (R_setRow (g := w5.heap.size) (cs := opA { zeroO with dv := x.f2, tok := .slice A7 t.length n7 }) (Kd.R_lower hr7 (show w5.heap.size + 1 ≤ _ from blk_lt (heap_alloc_new w5.drew (.cells Tryd.zeroCells33 33)))) (fun k h1 _ => by omega))
                 have hb9 : Below w5.heap.size w5 (w7.setRow w5.heap.size (opA { zeroO with dv := x.f2, tok := .slice A7 t.length n7 })) := below_setRow (bthen (below_alloc (Below.refl _ _).drew _) hb7) (Nat.le_refl _) _
                 have R8 := Lib.hid (Kd.R_lower R7.out (show w.heap.size ≤ _ by have := HB.out.size; omega))
                 clear R7
                 generalize w7.setRow w5.heap.size (opA { zeroO with dv := x.f2, tok := .slice A7 t.length n7 }) = w9 at *
                 obtain ⟨g9, hg9, hgq⟩ : ∃ g9, w5.heap.size ≤ g9 ∧ w5.heap.size = g9 := ⟨_, Nat.le_refl _, rfl⟩
                 rw [hgq] at B9 ⊢
                 clear hgq)
              | (have B9 := Lib.hid (setRow_heap (w7.alloc (.cells Tryd.zeroCells33 33)) w7.heap.size _ (opA { zeroO with dv := x.f2, tok := .slice A7 t.length n7 }) 33 _ (heap_alloc_new w7 _))
                 have R8 := Lib.hid (Kd.R_lower (R_made (.cells Tryd.zeroCells33 33) (opA { zeroO with dv := x.f2, tok := .slice A7 t.length n7 }) hr7) (show w.heap.size ≤ w5.drew.heap.size from HB.out.size))
                 have hb9 : Below w5.heap.size w5 ((w7.alloc (.cells Tryd.zeroCells33 33)).setRow w7.heap.size (opA { zeroO with dv := x.f2, tok := .slice A7 t.length n7 })) := below_setRow (below_alloc (bthen (Below.refl _ _).drew hb7) _) hle7 _
                 generalize (w7.alloc (.cells Tryd.zeroCells33 33)).setRow w7.heap.size (opA { zeroO with dv := x.f2, tok := .slice A7 t.length n7 }) = w9 at *
                 have hg9 : w5.heap.size ≤ w7.heap.size := hle7
                 generalize w7.heap.size = g9 at B9 hg9 ⊢)
            all_goals
              clear hst hr7 hb7 hle7
              have HGE := Lib.hid (show w.heap.size + 1 < g9 from Nat.lt_of_lt_of_le (blk_lt BO.out) hg9)
              replace BR := Lib.hid (blk_below BR.out hb9)
              replace BO := Lib.hid (blk_below BO.out hb9)
              replace BT := Lib.hid (blk_below BT.out hb9)
              replace BX := Lib.hid (blk_below BX.out hb9)
              replace RP := Lib.hid (Kd.R_below RP.out hb9)
              replace RQ := Lib.hid (Kd.R_below RQ.out hb9)
              replace HB := Lib.hid (below_then HB.out HB.out.size hb9)
              clear hb9 hg9 HX RR HTK
              have y0 : w9.cell? ⟨g4, 0, none⟩ = some (.slice A0 P.length n0) := (blk_cell BT.out 0).trans rfl
              have y1 : w9.cell? ⟨g4, 1, none⟩ = some (.slice A1 Q.length n1) := (blk_cell BT.out 1).trans rfl
              have c0 : w9.cell? ⟨g8, 0, none⟩ = some (.string x.f0) := (blk_cell BX.out 0).trans rfl
              have c1 : w9.cell? ⟨g8, 1, none⟩ = some (.string x.f1) := (blk_cell BX.out 1).trans rfl
              have c2 : w9.cell? ⟨g8, 2, none⟩ = some (.int .i64 x.f2) := (blk_cell BX.out 2).trans rfl
              have c3 : w9.cell? ⟨g8, 3, none⟩ = some (.bool x.f3) := (blk_cell BX.out 3).trans rfl
              have c4 : w9.cell? ⟨g8, 4, none⟩ = some (.bool x.f4) := (blk_cell BX.out 4).trans rfl
              have c5 : w9.cell? ⟨g8, 5, none⟩ = some (.bool x.f5) := (blk_cell BX.out 5).trans rfl
              have HQ2 := Lib.hid (show fillG K form P { zeroO with dv := x.f2, tok := .slice A7 t.length n7 } = some (ok, { q with tok := .slice A7 t.length n7 }) by
                have h := fillG_tok K (.slice A7 t.length n7) form P { zeroO with dv := x.f2 }
                rw [HQQ.out] at h
                exact h)
              have hpA : ∀ ad, A0 = some ad → ad.block ≠ g9 := fun ad e => by
                have h := RP.out
                rw [e] at h
                exact Kd.own_blk (Kd.R_ne h B9.out (by decide))
              have HPA := Lib.hid hpA
              have HKP := Lib.hid (fillG_body K form P _ (ok, q) HQQ.out)
              clear hpA HQQ
              go_wp2_with fail
              refine (fill_all K x g9 { zeroO with dv := x.f2, tok := .slice A7 t.length n7 } rfl A0 n0 P w9 form ok _ B9.out (Kd.R_reads' RP.out).2.2 (Kd.R_reads' RP.out).2.1 HPA.out HFO.out hxl hQ HQ2.out).mono ?_
              rintro _ wA ⟨rfl, hol, BG, KB, hbA⟩
              replace BR := Lib.hid (KB.blk BR.out (by have := HGE.out; omega) (by simp))
              replace BO := Lib.hid (KB.blk BO.out (by have := HGE.out; omega) (by simp))
              replace BT := Lib.hid (KB.blk BT.out (blk_ne BT.out B9.out (by decide)) (by simp))
              replace BX := Lib.hid (KB.blk BX.out (blk_ne BX.out B9.out (by decide)) (by simp))
              replace R8 := Lib.hid (Kd.R_mono (Kd.R_keep (Kd.R_types R8.out B9.out (by decide)) KB (fun _ hk => hk.2)) (fun _ hk => hk.1))
              replace RQ := Lib.hid (Kd.R_mono (Kd.R_keep (Kd.R_types RQ.out B9.out (by decide)) KB (fun _ hk => hk.2)) (fun _ hk => hk.1))
              replace HB := Lib.hid (show Below w.heap.size w wA from HB.out.trans ⟨hbA.os, hbA.tape, hbA.output, hbA.size, fun i hi => hbA.block i (by have := HGE.out; omega)⟩)
              replace B9 := Lib.hid BG
              clear BG KB hbA y0 y1 c0 c1 c2 c3 c4 c5 HPA HQ2 HFO RP
              have y1 : wA.cell? ⟨g4, 1, none⟩ = some (.slice A1 Q.length n1) := (blk_cell BT.out 1).trans rfl
              have c0 : wA.cell? ⟨g8, 0, none⟩ = some (.string x.f0) := (blk_cell BX.out 0).trans rfl
              have c1 : wA.cell? ⟨g8, 1, none⟩ = some (.string x.f1) := (blk_cell BX.out 1).trans rfl
              have c2 : wA.cell? ⟨g8, 2, none⟩ = some (.int .i64 x.f2) := (blk_cell BX.out 2).trans rfl
              have c3 : wA.cell? ⟨g8, 3, none⟩ = some (.bool x.f3) := (blk_cell BX.out 3).trans rfl
              have c4 : wA.cell? ⟨g8, 4, none⟩ = some (.bool x.f4) := (blk_cell BX.out 4).trans rfl
              have c5 : wA.cell? ⟨g8, 5, none⟩ = some (.bool x.f5) := (blk_cell BX.out 5).trans rfl
              cases ok
              · have hsc := HSC.out
                rw [if_neg (by simp)] at hsc
                obtain ⟨rfl, hS1⟩ := Prod.mk.inj (Option.some.inj hsc)
                obtain ⟨rfl, hS2⟩ := Prod.mk.inj hS1; obtain ⟨rfl, rfl⟩ := Prod.mk.inj hS2; clear hS2
                clear hS1 HSC hsc
                go_wp2_with (first | (refine build_to rfl 33 _ rfl (opA zeroO) (by kernel_rfl) ?_) | ((refine wpList_store_row rfl 33 _ _ rfl (w.heap.size + 1) (opA zeroO) rfl rfl 33 (opA zeroO) BO.out size33z rfl oneZ ?_); refine Hid.out ?_))
                refine Lib.hid ?_
                have f1 := setRow_heap wA (w.heap.size + 1) _ (opA zeroO) 33 _ BO.out
                have f2 : Below w.heap.size w (wA.setRow (w.heap.size + 1) (opA zeroO)) := below_setRow HB.out (Nat.le_succ _) _
                generalize wA.setRow (w.heap.size + 1) (opA zeroO) = wZ at f1 f2 ⊢
                go_wp2
                refine bodyPost_ret (results_ct rfl _ _ (w.heap.size + 1) 33 (opA zeroO) (0, 0) _ rfl f1 Tryd.underlying33 rfl size33z) rfl ?_
                exact ⟨⟨.slice none 0 0, .slice none 0 0, rfl, Kd.R_nil _ _ _ _ _, Kd.R_nil _ _ _ _ _⟩, f2⟩
              · have hsc := HSC.out
                rw [if_pos rfl] at hsc
                obtain ⟨z, hz, hsc⟩ := Option.bind_eq_some_iff.1 hsc
                have hz2 := askR_tok K x.f4 x.f5 (.slice A7 t.length n7) Q q
                rw [hz] at hz2
                have HKZ := Lib.hid (askR_keeps K x.f4 x.f5 Q q z hz)
                obtain ⟨ok, z⟩ := z
                have HZ := Lib.hid (show askR K x.f4 x.f5 Q { q with tok := .slice A7 t.length n7 } = some (ok, { z with tok := .slice A7 t.length n7 }) from hz2)
                replace HSC := Lib.hid hsc
                have hpA : ∀ ad, A1 = some ad → ad.block ≠ g9 := fun ad e => by
                  have h := RQ.out
                  rw [e] at h
                  exact Kd.own_blk (Kd.R_ne h B9.out (by decide))
                have HPA := Lib.hid hpA
                clear hz hz2 hsc hpA
                go_wp2_with fail
                refine (ask_all K x g9 { q with tok := .slice A7 t.length n7 } hol A1 n1 Q wA ok _ B9.out (Kd.R_reads' RQ.out).2.2 (Kd.R_reads' RQ.out).2.1 HPA.out HZ.out (HTT.out _ HB.out)).mono ?_
                rintro _ wB ⟨rfl, hol2, BG, KB, hbA⟩
                clear hol
                have hol := hol2
                clear hol2
                replace BR := Lib.hid (KB.blk BR.out (by have := HGE.out; omega) (by simp))
                replace BO := Lib.hid (KB.blk BO.out (by have := HGE.out; omega) (by simp))
                replace BX := Lib.hid (KB.blk BX.out (blk_ne BX.out B9.out (by decide)) (by simp))
                replace R8 := Lib.hid (Kd.R_mono (Kd.R_keep (Kd.R_types R8.out B9.out (by decide)) KB (fun _ hk => hk.2)) (fun _ hk => hk.1))
                replace HB := Lib.hid (show Below w.heap.size w wB from HB.out.trans ⟨hbA.os, hbA.tape, hbA.output, hbA.size, fun i hi => hbA.block i (by have := HGE.out; omega)⟩)
                replace B9 := Lib.hid BG
                clear BG KB hbA y1 c0 c1 c2 c3 c4 c5 HPA HZ RQ BT
                have c3 : wB.cell? ⟨g8, 3, none⟩ = some (.bool x.f3) := (blk_cell BX.out 3).trans rfl
                have d3 : wB.cell? ⟨w.heap.size, 3, none⟩ = some (.slice Ab bd.length cb) := (blk_cell BR.out 3).trans rfl
                cases ok
                · have hsc := HSC.out
                  rw [if_neg (by simp)] at hsc
                  obtain ⟨rfl, hS1⟩ := Prod.mk.inj (Option.some.inj hsc)
                  obtain ⟨rfl, hS2⟩ := Prod.mk.inj hS1; obtain ⟨rfl, rfl⟩ := Prod.mk.inj hS2; clear hS2
                  clear hS1 hsc HSC
                  go_wp2_with (first | (refine build_to rfl 33 _ rfl (opA zeroO) (by kernel_rfl) ?_) | ((refine wpList_store_row rfl 33 _ _ rfl (w.heap.size + 1) (opA zeroO) rfl rfl 33 (opA zeroO) BO.out size33z rfl oneZ ?_); refine Hid.out ?_))
                  refine Lib.hid ?_
                  have f1 := setRow_heap wB (w.heap.size + 1) _ (opA zeroO) 33 _ BO.out
                  have f2 : Below w.heap.size w (wB.setRow (w.heap.size + 1) (opA zeroO)) := below_setRow HB.out (Nat.le_succ _) _
                  generalize wB.setRow (w.heap.size + 1) (opA zeroO) = wZ at f1 f2 ⊢
                  go_wp2
                  refine bodyPost_ret (results_ct rfl _ _ (w.heap.size + 1) 33 (opA zeroO) (0, 0) _ rfl f1 Tryd.underlying33 rfl size33z) rfl ?_
                  exact ⟨⟨.slice none 0 0, .slice none 0 0, rfl, Kd.R_nil _ _ _ _ _, Kd.R_nil _ _ _ _ _⟩, f2⟩
                · have hsc := HSC.out
                  rw [if_pos rfl] at hsc
                  obtain ⟨rfl, hS1⟩ := Prod.mk.inj (Option.some.inj hsc)
                  obtain ⟨rfl, hS2⟩ := Prod.mk.inj hS1; obtain ⟨rfl, rfl⟩ := Prod.mk.inj hS2; clear hS2
                  clear hS1 hsc HSC
                  have hbz : z.body = .slice none 0 0 := HKZ.out.1.trans HKP.out
                  obtain ⟨x0, x1, x2, x3, x4, x5⟩ := x
                  simp only at *
                  cases x3
                  · obtain ⟨zz, hzz⟩ : ∃ zz, zz = ({ z with tok := .slice A7 t.length n7, body := .slice none 0 0 } : OpV) := ⟨_, rfl⟩
                    have hz0 : ({ z with tok := .slice A7 t.length n7 } : OpV) = zz := by rw [hzz, ← hbz]
                    have one7 : (opA zz).all (·.oneCell') = true := one_op zz (by rw [hzz]; rfl) (by rw [hzz]; rfl)
                    rw [hz0] at B9
                    have hol2 : zz.of_.length = 32 := by rw [hzz]; exact hol
                    clear hol
                    have hol := hol2
                    clear hol2
                    have RU := Lib.hid (Kd.R_nil (Kd.int .u8) 5 wB w.heap.size (fun _ => True))
                    clear hz0 hbz
                    have HZZ := Lib.hid hzz
                    clear hzz
                    have hold : (opA zeroO).size = (opA zz).size := by rw [opA_size hol, opA_size (o := zeroO) rfl]
                    go_wp2_with (first | (refine wpList_load_row rfl 33 _ rfl g9 rfl 33 (opA zz) (0, 0) _ B9.out Tryd.underlying33 rfl (size_op _ hol) ?_) | ((refine wpList_store_row rfl 33 _ _ rfl (w.heap.size + 1) (opA zz) rfl rfl 33 (opA zeroO) BO.out (size_op _ hol) hold one7 ?_); refine Hid.out ?_))
                    refine Lib.hid ?_
                    have f1 := setRow_heap wB (w.heap.size + 1) _ (opA zz) 33 _ BO.out
                    have f2 : Below w.heap.size w (wB.setRow (w.heap.size + 1) (opA zz)) := below_setRow HB.out (Nat.le_succ _) _
                    have f3 : Kd.R (Kd.int .u8) 5 (wB.setRow (w.heap.size + 1) (opA zz)) w.heap.size (fun _ => True) (.slice A7 t.length n7) t := Kd.R_mono (Kd.R_step (Kd.R_types R8.out BO.out (by decide)) (fun k hk hlt => setRow_other wB (w.heap.size + 1) k _ hk.2)) (fun _ hk => hk.1)
                    have f4 : Kd.R (Kd.int .u8) 5 (wB.setRow (w.heap.size + 1) (opA zz)) w.heap.size (fun _ => True) (.slice none 0 0) [] := Kd.R_mono (Kd.R_step (Kd.R_types RU.out BO.out (by decide)) (fun k hk hlt => setRow_other wB (w.heap.size + 1) k _ hk.2)) (fun _ hk => hk.1)
                    generalize wB.setRow (w.heap.size + 1) (opA zz) = wZ at f1 f2 f3 f4 ⊢
                    go_wp2
                    refine bodyPost_ret (results_ct rfl _ _ (w.heap.size + 1) 33 (opA zz) (0, 0) _ rfl f1 Tryd.underlying33 rfl (size_op _ hol)) rfl ?_
                    exact ⟨⟨.slice A7 t.length n7, (.slice none 0 0), by rw [HZZ.out]; rfl, f3, f4⟩, f2⟩
                  · go_wp2_with fail
                    refine (clone_any wB Ab cb bd (Kd.C_below HBD.out HB.out) hbl).mono ?_
                    rintro _ wD ⟨u, rfl, ru, hb⟩
                    obtain ⟨AU, nu, eu⟩ := Kd.R_slice ru
                    subst eu
                    obtain ⟨zz, hzz⟩ : ∃ zz, zz = ({ z with tok := .slice A7 t.length n7, body := .slice AU bd.length nu } : OpV) := ⟨_, rfl⟩
                    have hz0 : (opA { z with tok := .slice A7 t.length n7 }).setIfInBounds 37 (.slice AU bd.length nu) = opA zz := by rw [hzz]; exact set_body (o := { z with tok := .slice A7 t.length n7 }) hol _
                    have hol2 : zz.of_.length = 32 := by rw [hzz]; exact hol
                    have one7 : (opA zz).all (·.oneCell') = true := one_op zz (by rw [hzz]; rfl) (by rw [hzz]; rfl)
                    have B8 := Lib.hid (blk_below B9.out hb)
                    have hz1 : wD.cell? ⟨g9, 37, none⟩ = some z.body := (blk_cell B8.out 37).trans (opA_37 (o := { z with tok := .slice A7 t.length n7 }) hol)
                    rw [hbz] at hz1
                    have hfz := blk_frozen B8.out 37
                    replace BO := Lib.hid (blk_far (p := ⟨g9, 37, none⟩) (blk_below BO.out hb) (by show w.heap.size + 1 ≠ g9; have := HGE.out; omega) (.slice AU bd.length nu))
                    replace R8 := Lib.hid (Kd.R_mono (Kd.R_far (p := ⟨g9, 37, none⟩) (Kd.R_types (Kd.R_below R8.out hb) B8.out (by decide)) (fun _ hk => hk.2) (.slice AU bd.length nu)) (fun _ h_ => h_.1))
                    have RU := Lib.hid (Kd.R_mono (Kd.R_far (p := ⟨g9, 37, none⟩) (Kd.R_types (Kd.R_lower ru HB.out.size) B8.out (by decide)) (fun _ hk => hk.2) (.slice AU bd.length nu)) (fun _ h_ => h_.1))
                    replace HB := Lib.hid ((below_then HB.out HB.out.size hb).setCell (p := ⟨g9, 37, none⟩) (by show w.heap.size ≤ g9; have := HGE.out; omega) (.slice AU bd.length nu))
                    replace B9 := Lib.hid (blk_put B8.out 37 (.slice AU bd.length nu) hz0)
                    clear hz0 hbz hol B8 hb ru c3 d3
                    have hol := hol2
                    clear hol2
                    go_upto_region 16 with fail
                    generalize wD.setCell ⟨g9, 37, none⟩ (.slice AU bd.length nu) = wC at *
                    clear hz1 hfz
                    have HZZ := Lib.hid hzz
                    clear hzz
                    have hold : (opA zeroO).size = (opA zz).size := by rw [opA_size hol, opA_size (o := zeroO) rfl]
                    go_wp2_with (first | (refine wpList_load_row rfl 33 _ rfl g9 rfl 33 (opA zz) (0, 0) _ B9.out Tryd.underlying33 rfl (size_op _ hol) ?_) | ((refine wpList_store_row rfl 33 _ _ rfl (w.heap.size + 1) (opA zz) rfl rfl 33 (opA zeroO) BO.out (size_op _ hol) hold one7 ?_); refine Hid.out ?_))
                    refine Lib.hid ?_
                    have f1 := setRow_heap wC (w.heap.size + 1) _ (opA zz) 33 _ BO.out
                    have f2 : Below w.heap.size w (wC.setRow (w.heap.size + 1) (opA zz)) := below_setRow HB.out (Nat.le_succ _) _
                    have f3 : Kd.R (Kd.int .u8) 5 (wC.setRow (w.heap.size + 1) (opA zz)) w.heap.size (fun _ => True) (.slice A7 t.length n7) t := Kd.R_mono (Kd.R_step (Kd.R_types R8.out BO.out (by decide)) (fun k hk hlt => setRow_other wC (w.heap.size + 1) k _ hk.2)) (fun _ hk => hk.1)
                    have f4 : Kd.R (Kd.int .u8) 5 (wC.setRow (w.heap.size + 1) (opA zz)) w.heap.size (fun _ => True) (.slice AU bd.length nu) bd := Kd.R_mono (Kd.R_step (Kd.R_types RU.out BO.out (by decide)) (fun k hk hlt => setRow_other wC (w.heap.size + 1) k _ hk.2)) (fun _ hk => hk.1)
                    generalize wC.setRow (w.heap.size + 1) (opA zz) = wZ at f1 f2 f3 f4 ⊢
                    go_wp2
                    refine bodyPost_ret (results_ct rfl _ _ (w.heap.size + 1) 33 (opA zz) (0, 0) _ rfl f1 Tryd.underlying33 rfl (size_op _ hol)) rfl ?_
                    exact ⟨⟨.slice A7 t.length n7, (.slice AU bd.length nu), by rw [HZZ.out]; rfl, f3, f4⟩, f2⟩
      · obtain rfl : k = rs.length := by omega
        have hsc := HSC.out
        rw [List.drop_length] at hsc
        obtain ⟨rfl, hS1⟩ := Prod.mk.inj (Option.some.inj hsc)
        obtain ⟨rfl, hS2⟩ := Prod.mk.inj hS1; obtain ⟨rfl, rfl⟩ := Prod.mk.inj hS2; clear hS2
        clear hS1 HSC hsc
        go_wp2_with (first | (refine build_to rfl 33 _ rfl (opA zeroO) (by kernel_rfl) ?_) | ((refine wpList_store_row rfl 33 _ _ rfl (w.heap.size + 1) (opA zeroO) rfl rfl 33 (opA zeroO) BO.out size33z rfl oneZ ?_); refine Hid.out ?_))
        refine Lib.hid ?_
        have f1 := setRow_heap wr (w.heap.size + 1) _ (opA zeroO) 33 _ BO.out
        have f2 : Below w.heap.size w (wr.setRow (w.heap.size + 1) (opA zeroO)) := below_setRow HB.out (Nat.le_succ _) _
        generalize wr.setRow (w.heap.size + 1) (opA zeroO) = w3 at f1 f2 ⊢
        go_wp2
        refine bodyPost_ret (results_ct rfl _ _ (w.heap.size + 1) 33 (opA zeroO) (0, 0) _ rfl f1 Tryd.underlying33 rfl size33z) rfl ?_
        exact ⟨⟨.slice none 0 0, .slice none 0 0, rfl, Kd.R_nil _ _ _ _ _, Kd.R_nil _ _ _ _ _⟩, f2⟩
end Go.Proofs.YtnfimhdcpmakpaaDoor.S
