/-
  The reference's To, walked.
-/
import Derived.Test.YtnfimhdcpmakpaaDoorRfP
import Derived.Test.YtnfimhdcpmakpaaDoorSx10P
import Derived.Test.YtnfimhdcpmakpaaDoorSx15P
import Derived.Deep.RegionWith
namespace Go.Proofs.YtnfimhdcpmakpaaDoor.S
open Go.RowKit Go.Proofs.YtnfimhdcpmakpaaDoorW.PrintWords
set_option linter.unusedVariables false
set_option linter.unusedSimpArgs false
def toScanR (K : Nat) (m : ByteArray) (P : List ByteArray) (Q : List S91) (fs : List S41) (bd : List Int) : List S67 → Int → Option (OpV × List Int × List Int × Int)
  | [], st => some (zeroO, [], [], st)
  | x :: rs, st => (cofferref26_cut.f K x.f1 47).bind fun form => (cofferref26_fits.f K form P).bind fun b => if b = false then toScanR K m P Q fs bd rs st else if x.f0.toList = m.toList then
      (cofferref26_Token.f K fs).bind fun t => if form.length ≠ P.length then none else (rnG K form P { zeroO with dv := x.f4 }).bind fun q =>
        if q.1 = true then (prR K x.f2 x.f3 Q q.2).bind fun z => if z.1 = true then some (z.2, t, if z.2.dv = 1 ∨ z.2.dv = 3 then bd else [], 0) else some (zeroO, [], [], 400) else some (zeroO, [], [], 400)
    else toScanR K m P Q fs bd rs 405
def toR (K : Nat) (m s : ByteArray) (fs : List S41) (bd : List Int) : Option (OpV × List Int × List Int × Int) :=
  (cofferref21_Parse.f K s).bind fun t => if t.2.2 = 0 then (if t.1.length ≤ 1048576 then (cofferref26_roads.f).bind fun rs => toScanR K m t.1 t.2.1 fs bd rs 404 else none) else some (zeroO, [], [], 400)
theorem rnG_tok (K : Nat) (v : Value) : ∀ (xs ps : List ByteArray) (o : OpV), rnG K xs ps { o with tok := v } = (rnG K xs ps o).map fun q => (q.1, { q.2 with tok := v })
  | [], _, o => rfl
  | _ :: _, [], _ => rfl
  | x :: xs, p :: ps, o => by
    rw [rnG_of, rnG_of]
    by_cases h1 : x.toList = [78, 65, 77, 69]
    · rw [if_pos h1, if_pos h1]
      rcases cofferref4_May.f K p with _ | b
      · rfl
      · simp only [Option.bind_some]
        by_cases hb : b = true
        · rw [if_pos hb, if_pos hb]; exact rnG_tok K v xs ps { o with ten := p }
        · rw [if_neg hb, if_neg hb]; rfl
    · rw [if_neg h1, if_neg h1]
      by_cases h2 : x.toList = [72, 69, 88]
      · rw [if_pos h2, if_pos h2]
        by_cases hz : p.size ≤ 1048576
        · rw [if_pos hz, if_pos hz]
          by_cases hb : (idOf (unh p)).2 = 0
          · rw [if_pos hb, if_pos hb]; exact rnG_tok K v xs ps { o with of_ := (idOf (unh p)).1 }
          · rw [if_neg hb, if_neg hb]; rfl
        · rw [if_neg hz, if_neg hz]; rfl
      · rw [if_neg h2, if_neg h2]
        by_cases h3 : x.toList = [78]
        · rw [if_pos h3, if_pos h3]
          rcases cofferref4_Number.f K p with _ | n
          · rfl
          · simp only [Option.bind_some]
            by_cases hb : n.2 = 0
            · rw [if_pos hb, if_pos hb]; exact rnG_tok K v xs ps { o with num := n.1 }
            · rw [if_neg hb, if_neg hb]; rfl
        · rw [if_neg h3, if_neg h3]; exact rnG_tok K v xs ps o
theorem rnG_body (K : Nat) : ∀ (xs ps : List ByteArray) (o : OpV) (z : Bool × OpV), rnG K xs ps o = some z → z.2.body = o.body
  | [], _, o, z, h => by cases h; rfl
  | _ :: _, [], _, z, h => by cases h
  | x :: xs, p :: ps, o, z, h => by
    rw [rnG_of] at h
    by_cases h1 : x.toList = [78, 65, 77, 69]
    · rw [if_pos h1] at h
      obtain ⟨b, _, h⟩ := Option.bind_eq_some_iff.1 h
      by_cases hb : b = true
      · rw [if_pos hb] at h; exact rnG_body K xs ps { o with ten := p } z h
      · rw [if_neg hb] at h; cases h; rfl
    · rw [if_neg h1] at h
      by_cases h2 : x.toList = [72, 69, 88]
      · rw [if_pos h2] at h
        by_cases hz : p.size ≤ 1048576
        · rw [if_pos hz] at h
          by_cases hb : (idOf (unh p)).2 = 0
          · rw [if_pos hb] at h; exact rnG_body K xs ps { o with of_ := (idOf (unh p)).1 } z h
          · rw [if_neg hb] at h; cases h; rfl
        · rw [if_neg hz] at h; cases h
      · rw [if_neg h2] at h
        by_cases h3 : x.toList = [78]
        · rw [if_pos h3] at h
          obtain ⟨n, _, h⟩ := Option.bind_eq_some_iff.1 h
          by_cases hb : n.2 = 0
          · rw [if_pos hb] at h; exact rnG_body K xs ps { o with num := n.1 } z h
          · rw [if_neg hb] at h; cases h; rfl
        · rw [if_neg h3] at h; exact rnG_body K xs ps o z h
theorem refV_tok (K : Nat) (p : S91) (v : Value) (o : OpV) : refV K p { o with tok := v } = (refV K p o).map fun z => (z.1, { z.2 with tok := v }) := by
  unfold refV
  split
  · rcases cofferref4_Number.f K p.f1 with _ | n <;> rfl
  · split
    · rcases cofferref4_Number.f K p.f1 with _ | n <;> rfl
    · split
      · rcases cofferref13_Parse.f K p.f1 with _ | n <;> rfl
      · rcases cofferref4_May.f K p.f1 with _ | n <;> rfl
theorem refV_keeps (K : Nat) (p : S91) (o : OpV) (z : Bool × OpV) (h : refV K p o = some z) : z.2.body = o.body := by
  unfold refV at h
  split at h
  · obtain ⟨n, _, h⟩ := Option.bind_eq_some_iff.1 h; cases h; rfl
  · split at h
    · obtain ⟨n, _, h⟩ := Option.bind_eq_some_iff.1 h; cases h; rfl
    · split at h
      · obtain ⟨n, _, h⟩ := Option.bind_eq_some_iff.1 h; cases h; rfl
      · obtain ⟨n, _, h⟩ := Option.bind_eq_some_iff.1 h; cases h; rfl
theorem prV_tok (K : Nat) (must may : List ByteArray) (v : Value) : ∀ (l : List S91) (o : OpV), prV K must may l { o with tok := v } = (prV K must may l o).map fun z => (z.1, { z.2 with tok := v })
  | [], o => rfl
  | p :: ps, o => by
    rw [prV_of, prV_of, refV_tok]
    rcases cofferref26_has.f K must p.f0 with _ | a
    · rfl
    · simp only [Option.bind_some]
      cases a
      · rw [if_neg (by decide), if_neg (by decide)]
        rcases cofferref26_has.f K may p.f0 with _ | b
        · rfl
        · simp only [Option.bind_some]
          cases b
          · rw [if_neg (by decide), if_neg (by decide)]; rfl
          · rw [if_pos rfl, if_pos rfl]
            rcases refV K p o with _ | z
            · rfl
            · simp only [Option.map_some, Option.bind_some]
              split
              · exact prV_tok K must may v ps z.2
              · rfl
      · rw [if_pos rfl, if_pos rfl]
        rcases refV K p o with _ | z
        · rfl
        · simp only [Option.map_some, Option.bind_some]
          split
          · exact prV_tok K must may v ps z.2
          · rfl
theorem prV_keeps (K : Nat) (must may : List ByteArray) : ∀ (l : List S91) (o : OpV) (z : Bool × OpV), prV K must may l o = some z → z.2.body = o.body
  | [], o, z, h => by cases h; rfl
  | p :: ps, o, z, h => by
    rw [prV_of] at h
    have hv : ∀ z0, ((refV K p o).bind fun z => if z.1 = true then prV K must may ps z.2 else some (false, z.2)) = some z0 → z0.2.body = o.body := by
      intro z0 h
      obtain ⟨y, hy, h⟩ := Option.bind_eq_some_iff.1 h
      have := refV_keeps K p o y hy
      split at h
      · exact (prV_keeps K must may ps y.2 z0 h).trans this
      · cases h; exact this
    obtain ⟨a, _, h⟩ := Option.bind_eq_some_iff.1 h
    split at h
    · exact hv z h
    · obtain ⟨b, _, h⟩ := Option.bind_eq_some_iff.1 h
      split at h
      · exact hv z h
      · cases h; rfl
theorem prR_tok (K : Nat) (x2 x3 : ByteArray) (v : Value) (l : List S91) (o : OpV) : prR K x2 x3 l { o with tok := v } = (prR K x2 x3 l o).map fun z => (z.1, { z.2 with tok := v }) := by
  unfold prR
  rcases cofferref26_cut.f K x2 44 with _ | must
  · rfl
  rcases cofferref26_cut.f K x3 44 with _ | may
  · rfl
  simp only [Option.bind_some]
  split
  · rcases prM K l must with _ | b
    · rfl
    · simp only [Option.bind_some]
      split
      · exact prV_tok K must may v l o
      · rfl
  · rfl
theorem prR_body (K : Nat) (x2 x3 : ByteArray) (l : List S91) (o : OpV) (z : Bool × OpV) (h : prR K x2 x3 l o = some z) : z.2.body = o.body := by
  unfold prR at h
  obtain ⟨must, _, h⟩ := Option.bind_eq_some_iff.1 h
  obtain ⟨may, _, h⟩ := Option.bind_eq_some_iff.1 h
  split at h
  · obtain ⟨b, _, h⟩ := Option.bind_eq_some_iff.1 h
    split at h
    · exact prV_keeps K must may l o z h
    · cases h; rfl
  · cases h
theorem has_own {w : World} {base : Nat} {A : Option Addr} {n c g t : Nat} {α : Type} {d : Kd α} {e : Nat} {ok : Nat → Prop} {xs : List α} {cs : Array Value} (h : d.R e w base ok (.slice A n c) xs) (hb : w.heap[g]? = some (.cells cs t (0, 0))) (ht : e ≠ t) : ∀ ad, A = some ad → ad.block ≠ g := fun ad ea => by
  subst ea
  exact Kd.own_blk (Kd.R_ne h hb ht)
theorem k89 {a b c d e f g : Prop} {w9 W : World} {g9 : Nat} (h : a ∧ b ∧ c ∧ d ∧ e ∧ f ∧ g ∧ KeepBut w9 W g9 none ∧ Below g9 w9 W) : KeepBut w9 W g9 none ∧ Below g9 w9 W := h.2.2.2.2.2.2.2
set_option maxHeartbeats 8000000 in
set_option maxRecDepth 100000 in
theorem rto_all (K : Nat) (m s : ByteArray) (Af : Option Addr) (cf : Nat) (fs : List S41) (Ab : Option Addr) (cb : Nat) (bd : List Int) (kp : Bool) (w : World) (o' : OpV) (t' b' : List Int) (st : Int)
    (hf : Kd.C k41 w Af fs.length fs) (hc : fs.length ≤ cf) (hbd : Kd.C (Kd.int .u8) w Ab bd.length bd) (hcb : bd.length ≤ cb) (hbl : bd.length ≤ 140737488355328) (h : toR K m s fs bd = some (o', t', b', st)) :
    Calls Tryd.prog 11 #[.agg #[.string m, .string s, .slice Af fs.length cf, .slice Ab bd.length cb, .bool kp]] w
      fun e w' => (∃ v u, e = .returned (.tuple #[.agg (opA { o' with tok := v, body := u }), .int .i64 st]) ∧ Kd.R (Kd.int .u8) 5 w' w.heap.size (fun _ => True) v t' ∧ Kd.R (Kd.int .u8) 5 w' w.heap.size (fun _ => True) u b') ∧ Below w.heap.size w w' := by
  have HF := Lib.hid hf
  have HBD := Lib.hid hbd
  clear hbd
  have HS := Lib.hid h
  clear hf h
  unfold toR at HS
  obtain ⟨t, hP, hS⟩ := Option.bind_eq_some_iff.1 HS.out
  obtain ⟨P, Q, e⟩ := t
  have HP := Lib.hid hP
  have HS2 := Lib.hid hS
  clear HS hP hS
  go_enter Tryd.func11, Tryd.ntmps11
  go_wp2_with fail
  rw [zero_cells]
  have g0 : (((w.alloc (.cells #[.string m, .string s, .slice Af fs.length cf, .slice Ab bd.length cb, .bool kp] 25)).alloc (.cells (opA zeroO) 33)).heap[w.heap.size]?) = some (.cells #[.string m, .string s, .slice Af fs.length cf, .slice Ab bd.length cb, .bool kp] 25 (0, 0)) := blk_alloc (blk_new w _) _
  have g1 : (((w.alloc (.cells #[.string m, .string s, .slice Af fs.length cf, .slice Ab bd.length cb, .bool kp] 25)).alloc (.cells (opA zeroO) 33)).heap[w.heap.size + 1]?) = some (.cells (opA zeroO) 33 (0, 0)) := by
    have := blk_new (w.alloc (.cells #[.string m, .string s, .slice Af fs.length cf, .slice Ab bd.length cb, .bool kp] 25)) (.cells (opA zeroO) 33)
    simpa only [World.alloc, Array.size_push] using this
  have hb0 : Below w.heap.size w ((w.alloc (.cells #[.string m, .string s, .slice Af fs.length cf, .slice Ab bd.length cb, .bool kp] 25)).alloc (.cells (opA zeroO) 33)) := below_alloc (below_alloc (Below.refl _ _) _) _
  generalize ((w.alloc (.cells #[.string m, .string s, .slice Af fs.length cf, .slice Ab bd.length cb, .bool kp] 25)).alloc (.cells (opA zeroO) 33)) = w0 at g0 g1 hb0 ⊢
  refine (cofferref21_Parse.calls K s P Q e _ HP.out).mono ?_
  rintro _ w1 ⟨v0, v1, rfl, r0, r1, hb⟩
  obtain ⟨A0, n0, eo0⟩ := Kd.R_slice r0
  subst eo0
  obtain ⟨A1, n1, eo1⟩ := Kd.R_slice r1
  subst eo1
  have hb1 := below_then hb0 hb0.size hb
  have BR := Lib.hid (blk_below g0 hb)
  have BO := Lib.hid (blk_below g1 hb)
  have RP := Lib.hid (Kd.R_lower r0 hb0.size)
  have RQ := Lib.hid (Kd.R_lower r1 hb0.size)
  clear g0 g1 r0 r1 hb hb0 HP
  have one1 : (#[.slice A0 P.length n0, .slice A1 Q.length n1] : Array Value).all (·.oneCell') = true := by simp [Value.oneCell']
  go_wp2_with ((refine wpList_store_row rfl 51 _ _ rfl w1.heap.size #[.slice A0 P.length n0, .slice A1 Q.length n1] rfl rfl 51 #[.slice none 0 0, .slice none 0 0] (heap_alloc_new w1 _) size51 rfl one1 ?_); refine Hid.out ?_)
  refine Lib.hid ?_
  have f1 := setRow_heap (w1.alloc (.cells #[.slice none 0 0, .slice none 0 0] 51)) w1.heap.size _ #[.slice A0 P.length n0, .slice A1 Q.length n1] 51 _ (heap_alloc_new w1 _)
  have f2 := below_setRow (below_alloc (Below.refl w1.heap.size w1) (.cells #[.slice none 0 0, .slice none 0 0] 51)) (Nat.le_refl _) #[.slice A0 P.length n0, .slice A1 Q.length n1]
  generalize (w1.alloc (.cells #[.slice none 0 0, .slice none 0 0] 51)).setRow w1.heap.size #[.slice A0 P.length n0, .slice A1 Q.length n1] = w2 at f1 f2 ⊢
  generalize hg4 : w1.heap.size = g4 at f1 f2 ⊢
  replace BR := Lib.hid (blk_below BR.out (hg4 ▸ f2))
  replace BO := Lib.hid (blk_below BO.out (hg4 ▸ f2))
  replace RP := Lib.hid (Kd.R_below RP.out (hg4 ▸ f2))
  replace RQ := Lib.hid (Kd.R_below RQ.out (hg4 ▸ f2))
  have HB := Lib.hid (below_then hb1 hb1.size (hg4 ▸ f2))
  have BT := Lib.hid f1
  clear f1 f2 one1 hb1 hg4
  by_cases he : e = 0
  rotate_left
  · have hS := HS2.out
    rw [if_neg (show ¬ (P, Q, e).2.2 = 0 from he)] at hS
    obtain ⟨rfl, hS1⟩ := Prod.mk.inj (Option.some.inj hS)
    obtain ⟨rfl, hS2⟩ := Prod.mk.inj hS1; obtain ⟨rfl, rfl⟩ := Prod.mk.inj hS2; clear hS2
    have h1 : (e != 0) = true := by simpa using he
    clear hS hS1 HS2 he
    go_wp2_with (first | (refine build_to rfl 33 _ rfl (opA zeroO) (by kernel_rfl) ?_) | ((refine wpList_store_row rfl 33 _ _ rfl (w.heap.size + 1) (opA zeroO) rfl rfl 33 (opA zeroO) BO.out size33z rfl oneZ ?_); refine Hid.out ?_))
    refine Lib.hid ?_
    have f1 := setRow_heap w2 (w.heap.size + 1) _ (opA zeroO) 33 _ BO.out
    have f2 : Below w.heap.size w (w2.setRow (w.heap.size + 1) (opA zeroO)) := below_setRow HB.out (Nat.le_succ _) _
    generalize w2.setRow (w.heap.size + 1) (opA zeroO) = w3 at f1 f2 ⊢
    go_wp2
    refine bodyPost_ret (results_ct rfl _ _ (w.heap.size + 1) 33 (opA zeroO) (0, 0) _ rfl f1 Tryd.underlying33 rfl size33z) rfl ?_
    exact ⟨⟨.slice none 0 0, .slice none 0 0, rfl, Kd.R_nil _ _ _ _ _, Kd.R_nil _ _ _ _ _⟩, f2⟩
  · subst he
    have hS := HS2.out
    rw [if_pos (show (P, Q, (0 : Int)).2.2 = 0 from rfl)] at hS
    by_cases hQ : P.length ≤ 1048576
    rotate_left
    · rw [if_neg hQ] at hS; cases hS
    rw [if_pos hQ] at hS
    obtain ⟨rs, hrs, hS1⟩ := Option.bind_eq_some_iff.1 hS
    clear hS
    have hS := hS1
    clear hS1
    have hrl : rs.length = 17 := by obtain rfl := Option.some.inj hrs; rfl
    have HSC := Lib.hid hS
    have HRS := Lib.hid hrs
    clear hS HS2 hrs
    go_wp2_with fail
    refine (cofferref26_roads.calls rs _ HRS.out).mono ?_
    rintro _ w3 ⟨vr, rfl, rr, hb⟩
    obtain ⟨Ar, nr, eor⟩ := Kd.R_slice rr
    subst eor
    replace BR := Lib.hid (blk_below BR.out hb)
    replace BO := Lib.hid (blk_below BO.out hb)
    replace BT := Lib.hid (blk_below BT.out hb)
    replace RP := Lib.hid (Kd.R_below RP.out hb)
    replace RQ := Lib.hid (Kd.R_below RQ.out hb)
    have RR := Lib.hid (Kd.R_lower rr HB.out.size)
    replace HB := Lib.hid (below_then HB.out HB.out.size hb)
    clear rr hb HRS
    go_wp2_with fail
    go_loopw [7, 8] (fun sv i wr => ∃ (k : Nat) (sx : Int), k ≤ rs.length ∧ sv = .int .i64 sx ∧ i = .int .i64 k ∧ Hid (toScanR K m P Q fs bd (rs.drop k) sx = some (o', t', b', st)) ∧ Hid (wr.heap[w.heap.size]? = some (.cells #[.string m, .string s, .slice Af fs.length cf, .slice Ab bd.length cb, .bool kp] 25 (0, 0))) ∧ Hid (wr.heap[w.heap.size + 1]? = some (.cells (opA zeroO) 33 (0, 0))) ∧ Hid (wr.heap[g4]? = some (.cells #[.slice A0 P.length n0, .slice A1 Q.length n1] 51 (0, 0))) ∧ Hid (Kd.R Kd.string 9 wr w.heap.size (fun _ => True) (.slice A0 P.length n0) P) ∧ Hid (Kd.R k91 91 wr w.heap.size (fun _ => True) (.slice A1 Q.length n1) Q) ∧ Hid (Kd.R k67 67 wr w.heap.size (fun _ => True) (.slice Ar rs.length nr) rs) ∧ Hid (Below w.heap.size w wr)) (fun _ i _ => rs.length - (intOf i).toNat)
    case atStart => exact ⟨0, 404, by omega, rfl, rfl, HSC, BR, BO, BT, RP, RQ, RR, HB⟩
    case round =>
      clear HSC BR BO BT RP RQ RR HB
      obtain ⟨k, sx, hk, rfl, rfl, HSC, BR, BO, BT, RP, RQ, RR, HB⟩ := hrel
      by_cases hlt : k < rs.length
      · obtain ⟨ad, e0, x0, x1, x2, x3, x4⟩ := at_T67 (Kd.R_reads' RR.out).2.2 (k : Int) (by omega) (by omega)
        unfold rd_T67 at x0 x1 x2 x3 x4
        rw [Int.toNat_natCast] at x0 x1 x2 x3 x4
        have hdr : rs.drop k = rs.getD k z67 :: rs.drop (k + 1) := by rw [List.drop_eq_getElem_cons hlt, List.getD_eq_getElem?_getD, List.getElem?_eq_getElem hlt]; rfl
        have hsc := HSC.out
        rw [hdr, toScanR] at hsc
        generalize rs.getD k z67 = x at *
        clear hdr HSC
        cases e0
        obtain ⟨form, hform, hsc1⟩ := Option.bind_eq_some_iff.1 hsc
        clear hsc
        obtain ⟨b, hb, hsc⟩ := Option.bind_eq_some_iff.1 hsc1
        clear hsc1
        have HFO := Lib.hid hform
        have HFI := Lib.hid hb
        have HSC := Lib.hid hsc
        clear hb hsc hform
        go_wp2_with fail
        refine (cofferref26_cut.calls K x.f1 47 form _ HFO.out).mono ?_
        rintro _ w4 ⟨v4, rfl, r4, hb⟩
        obtain ⟨A4, n4, ev4⟩ := Kd.R_slice r4
        subst ev4
        have RF := Lib.hid (Kd.R_lower r4 HB.out.size)
        replace BR := Lib.hid (blk_below BR.out hb)
        replace BO := Lib.hid (blk_below BO.out hb)
        replace BT := Lib.hid (blk_below BT.out hb)
        replace RP := Lib.hid (Kd.R_below RP.out hb)
        replace RQ := Lib.hid (Kd.R_below RQ.out hb)
        replace RR := Lib.hid (Kd.R_below RR.out hb)
        replace HB := Lib.hid (below_then HB.out HB.out.size hb)
        replace x0 := pw_cell_below hb x0
        replace x1 := pw_cell_below hb x1
        replace x2 := pw_cell_below hb x2
        replace x3 := pw_cell_below hb x3
        replace x4 := pw_cell_below hb x4
        have y0 : w4.cell? ⟨g4, 0, none⟩ = some (.slice A0 P.length n0) := (blk_cell BT.out 0).trans rfl
        clear hb HFO r4
        go_wp2_with fail
        refine (cofferref26_fits.calls K A4 n4 form A0 n0 P b _ (Kd.R_reads' RF.out).2.2 (Kd.R_reads' RF.out).2.1 (Kd.R_reads' RP.out).2.2 (Kd.R_reads' RP.out).2.1 HFI.out).mono ?_
        rintro _ w5 ⟨rfl, hb⟩
        obtain ⟨nd, rfl⟩ := hb
        have hb : Below w4.heap.size w4 (w4.drewN nd) := pw_below_drewN (Below.refl _ _) nd
        replace BR := Lib.hid (blk_below BR.out hb)
        replace BO := Lib.hid (blk_below BO.out hb)
        replace BT := Lib.hid (blk_below BT.out hb)
        replace RP := Lib.hid (Kd.R_below RP.out hb)
        replace RQ := Lib.hid (Kd.R_below RQ.out hb)
        replace RR := Lib.hid (Kd.R_below RR.out hb)
        replace RF := Lib.hid (Kd.R_below RF.out hb)
        replace HB := Lib.hid (below_then HB.out HB.out.size hb)
        replace x0 := pw_cell_below hb x0
        replace x1 := pw_cell_below hb x1
        replace x2 := pw_cell_below hb x2
        replace x3 := pw_cell_below hb x3
        replace x4 := pw_cell_below hb x4
        generalize w4.drewN nd = w5 at *
        clear hb y0 HFI
        cases b
        · have HSC2 := Lib.hid (show toScanR K m P Q fs bd (rs.drop (k + 1)) sx = some (o', t', b', st) from HSC.out)
          clear HSC
          go_wp2
          go_roundw
          case rel => exact ⟨k + 1, sx, by omega, rfl, by go_num, HSC2, BR, BO, BT, RP, RQ, RR, HB⟩
          case measure => simp [intOf]; omega
        · have hsc := HSC.out
          rw [if_neg (by decide)] at hsc
          clear HSC
          have d0 : w5.cell? ⟨w.heap.size, 0, none⟩ = some (.string m) := (blk_cell BR.out 0).trans rfl
          have HX := Lib.hid (fun (w' : World) (hb : Below w5.heap.size w5 w') => (⟨pw_cell_below hb x0, pw_cell_below hb d0, hb⟩ : (w'.cell? (ad.add (k * 5)) = some (.string x.f0) ∧ w'.cell? ⟨w.heap.size, 0, none⟩ = some (.string m) ∧ Below w5.heap.size w5 w')))
          have HX5 := Lib.hid (And.intro x0 (And.intro x1 (And.intro x2 (And.intro x3 x4))))
          clear d0 x0 x1 x2 x3 x4
          go_upto_region 12 with fail
          go_region_held3 (fun w' => w'.cell? (ad.add (k * 5)) = some (.string x.f0) ∧ w'.cell? ⟨w.heap.size, 0, none⟩ = some (.string m) ∧ Below w5.heap.size w5 w')
            (first | exact HX.out _ (Below.refl _ _).drew | assumption) (fail)
          have hb : Below w5.heap.size w5 w5.drew := (Below.refl _ _).drew
          obtain ⟨x0, x1, x2, x3, x4⟩ := HX5.out
          replace BR := Lib.hid (blk_below BR.out hb)
          replace BO := Lib.hid (blk_below BO.out hb)
          replace BT := Lib.hid (blk_below BT.out hb)
          replace RP := Lib.hid (Kd.R_below RP.out hb)
          replace RQ := Lib.hid (Kd.R_below RQ.out hb)
          replace RR := Lib.hid (Kd.R_below RR.out hb)
          replace RF := Lib.hid (Kd.R_below RF.out hb)
          replace HB := Lib.hid (below_then HB.out HB.out.size hb)
          replace x0 := pw_cell_below hb x0
          replace x1 := pw_cell_below hb x1
          replace x2 := pw_cell_below hb x2
          replace x3 := pw_cell_below hb x3
          replace x4 := pw_cell_below hb x4
          generalize w5.drew = w6 at *
          clear hb HX HX5
          by_cases hm : x.f0.toList = m.toList
          rotate_left
          · rw [if_neg hm] at hsc
            have HSC2 := Lib.hid hsc
            have hm2 : (x.f0.toList != m.toList) = true := by simpa using hm
            have hm3 : (x.f0.toList == m.toList) = false := by simpa using hm
            clear hsc hm
            rw [hm3]
            go_wp2
            go_roundw
            case rel => exact ⟨k + 1, 405, by omega, rfl, by go_num, HSC2, BR, BO, BT, RP, RQ, RR, HB⟩
            case measure => simp [intOf]; omega
          · rw [if_pos hm] at hsc
            have hm2 : (x.f0.toList != m.toList) = false := by simpa using hm
            have hm3 : (x.f0.toList == m.toList) = true := by simpa using hm
            clear hm
            obtain ⟨t, ht, hsc1⟩ := Option.bind_eq_some_iff.1 hsc
            clear hsc
            have hsc := hsc1
            clear hsc1
            by_cases hx : form.length ≠ P.length
            · rw [if_pos hx] at hsc; cases hsc
            rw [if_neg hx] at hsc
            obtain ⟨q, hq, hsc1⟩ := Option.bind_eq_some_iff.1 hsc
            clear hsc
            have hsc := hsc1
            clear hsc1
            obtain ⟨ok, q⟩ := q
            have HTK := Lib.hid ht
            have HQQ := Lib.hid hq
            have HSC := Lib.hid hsc
            have hxl : form.length = P.length := by
              by_cases h : form.length = P.length
              · exact h
              · exact absurd h hx
            have HXL := Lib.hid hxl
            clear ht hq hsc hx hxl
            rw [hm3]
            go_upto_region 13 with fail
            have d2 : w6.cell? ⟨w.heap.size, 2, none⟩ = some (.slice Af fs.length cf) := (blk_cell BR.out 2).trans rfl
            have HX := Lib.hid (fun (w' : World) (hb : Below w6.heap.size w6 w') => (⟨pw_cell_below hb x4, pw_cell_below hb d2, hb⟩ : (w'.cell? ⟨(ad.add (k * 5)).block, (ad.add (k * 5)).off + 4, none⟩ = some (.int .i64 x.f4) ∧ w'.cell? ⟨w.heap.size, 2, none⟩ = some (.slice Af fs.length cf) ∧ Below w6.heap.size w6 w')))
            have HX5 := Lib.hid (And.intro x0 (And.intro x1 (And.intro x2 (And.intro x3 x4))))
            clear d2 x0 x1 x2 x3 x4
            go_region_held3 (fun w' => w'.cell? ⟨(ad.add (k * 5)).block, (ad.add (k * 5)).off + 4, none⟩ = some (.int .i64 x.f4) ∧ w'.cell? ⟨w.heap.size, 2, none⟩ = some (.slice Af fs.length cf) ∧ Below w6.heap.size w6 w')
              (first | exact HX.out _ (Below.refl _ _).drew | exact HX.out _ (bthen (last3 (by assumption)) (by assumption)) | exact HX.out _ (below_alloc (last3 (by assumption)) _) | exact HX.out _ (below_setRow (last3 (by assumption)) (by assumption) _) | exact HX.out _ (below_setRow (last3 (by assumption)) (Nat.le_refl _) _) | assumption)
              (first
                | (go_at_call 15; with_reducible refine (cofferref26_Token.calls K Af cf fs t _ (Kd.C_below HF.out (below_then HB.out HB.out.size (last3 (by assumption)))) hc HTK.out).mono ?_; rintro e7 w7 ⟨v7, rfl, hr7, hb7⟩; obtain ⟨A7, n7, eo7⟩ := Kd.R_slice hr7; subst eo7; have hle7 : w6.heap.size ≤ w7.heap.size := (bthen (last3 (by assumption)) hb7).size; first | (have hst := stored33b w7 w6.heap.size (blk_below (heap_alloc_new w6.drew _) hb7) x.f4 A7 t.length n7) | (have hst := stored33 w7 x.f4 A7 t.length n7)))
            all_goals
              first
              | (have B9 := Lib.hid (setRow_heap w7 w6.heap.size _ (opA { zeroO with dv := x.f4, tok := .slice A7 t.length n7 }) 33 _ (blk_below (heap_alloc_new w6.drew (.cells Tryd.zeroCells33 33)) hb7))
                 have R7 := Lib.hid (R_setRow (g := w6.heap.size) (cs := opA { zeroO with dv := x.f4, tok := .slice A7 t.length n7 }) (Kd.R_lower hr7 (show w6.heap.size + 1 ≤ _ from blk_lt (heap_alloc_new w6.drew (.cells Tryd.zeroCells33 33)))) (fun k h1 _ => by omega))
                 have hb9 : Below w6.heap.size w6 (w7.setRow w6.heap.size (opA { zeroO with dv := x.f4, tok := .slice A7 t.length n7 })) := below_setRow (bthen (below_alloc (Below.refl _ _).drew _) hb7) (Nat.le_refl _) _
                 have R8 := Lib.hid (Kd.R_lower R7.out (show w.heap.size ≤ _ by have := HB.out.size; omega))
                 clear R7
                 generalize w7.setRow w6.heap.size (opA { zeroO with dv := x.f4, tok := .slice A7 t.length n7 }) = w9 at *
                 obtain ⟨g9, hg9, hgq⟩ : ∃ g9, w6.heap.size ≤ g9 ∧ w6.heap.size = g9 := ⟨_, Nat.le_refl _, rfl⟩
                 rw [hgq] at B9 ⊢
                 clear hgq)
              | (have B9 := Lib.hid (setRow_heap (w7.alloc (.cells Tryd.zeroCells33 33)) w7.heap.size _ (opA { zeroO with dv := x.f4, tok := .slice A7 t.length n7 }) 33 _ (heap_alloc_new w7 _))
                 have R8 := Lib.hid (Kd.R_lower (R_made (.cells Tryd.zeroCells33 33) (opA { zeroO with dv := x.f4, tok := .slice A7 t.length n7 }) hr7) (show w.heap.size ≤ w6.drew.heap.size from HB.out.size))
                 have hb9 : Below w6.heap.size w6 ((w7.alloc (.cells Tryd.zeroCells33 33)).setRow w7.heap.size (opA { zeroO with dv := x.f4, tok := .slice A7 t.length n7 })) := below_setRow (below_alloc (bthen (Below.refl _ _).drew hb7) _) hle7 _
                 generalize (w7.alloc (.cells Tryd.zeroCells33 33)).setRow w7.heap.size (opA { zeroO with dv := x.f4, tok := .slice A7 t.length n7 }) = w9 at *
                 have hg9 : w6.heap.size ≤ w7.heap.size := hle7
                 generalize w7.heap.size = g9 at B9 hg9 ⊢)
            all_goals
              clear hst hr7 hb7 hle7
              have HGE := Lib.hid (show w.heap.size + 1 < g9 from Nat.lt_of_lt_of_le (blk_lt BO.out) hg9)
              replace BR := Lib.hid (blk_below BR.out hb9)
              replace BO := Lib.hid (blk_below BO.out hb9)
              replace BT := Lib.hid (blk_below BT.out hb9)
              replace RP := Lib.hid (Kd.R_below RP.out hb9)
              replace RQ := Lib.hid (Kd.R_below RQ.out hb9)
              replace RR := Lib.hid (Kd.R_below RR.out hb9)
              replace RF := Lib.hid (Kd.R_below RF.out hb9)
              replace HB := Lib.hid (below_then HB.out HB.out.size hb9)
              obtain ⟨x0, x1, x2, x3, x4⟩ := HX5.out
              replace x0 := pw_cell_below hb9 x0
              replace x1 := pw_cell_below hb9 x1
              replace x2 := pw_cell_below hb9 x2
              replace x3 := pw_cell_below hb9 x3
              replace x4 := pw_cell_below hb9 x4
              clear hb9 hg9 HX HTK HX5
              have c0 : w9.cell? ⟨g4, 0, none⟩ = some (.slice A0 P.length n0) := (blk_cell BT.out 0).trans rfl
              have c1 : w9.cell? ⟨g4, 1, none⟩ = some (.slice A1 Q.length n1) := (blk_cell BT.out 1).trans rfl
              have HNA := Lib.hid (has_own RR.out B9.out (by decide) ad rfl)
              have HNT := Lib.hid (blk_ne BT.out B9.out (by decide))
              have HPA := Lib.hid (has_own RP.out B9.out (by decide))
              have HQA := Lib.hid (has_own RQ.out B9.out (by decide))
              have HFA := Lib.hid (has_own RF.out B9.out (by decide))
              have HQ2 := Lib.hid (show rnG K form P { zeroO with dv := x.f4, tok := .slice A7 t.length n7 } = some (ok, { q with tok := .slice A7 t.length n7 }) by
                have h := rnG_tok K (.slice A7 t.length n7) form P { zeroO with dv := x.f4 }
                rw [HQQ.out] at h
                exact h)
              have HKP := Lib.hid (rnG_body K form P _ (ok, q) HQQ.out)
              clear HQQ
              have HX := Lib.hid (fun (w' : World) (hk : KeepBut w9 w' g9 none) (hb : Below g9 w9 w') => (⟨keep_cell hk c0 HNT.out, keep_cell hk c1 HNT.out, keep_cell hk x0 (by rw [add_block]; exact HNA.out), keep_cell hk x1 (by show (ad.add _).block ≠ g9; rw [add_block]; exact HNA.out), keep_cell hk x2 (by show (ad.add _).block ≠ g9; rw [add_block]; exact HNA.out), keep_cell hk x3 (by show (ad.add _).block ≠ g9; rw [add_block]; exact HNA.out), keep_cell hk x4 (by show (ad.add _).block ≠ g9; rw [add_block]; exact HNA.out), hk, hb⟩ : (w'.cell? ⟨g4, 0, none⟩ = some (.slice A0 P.length n0) ∧ w'.cell? ⟨g4, 1, none⟩ = some (.slice A1 Q.length n1) ∧ w'.cell? (ad.add (k * 5)) = some (.string x.f0) ∧ w'.cell? ⟨(ad.add (k * 5)).block, (ad.add (k * 5)).off + 1, none⟩ = some (.string x.f1) ∧ w'.cell? ⟨(ad.add (k * 5)).block, (ad.add (k * 5)).off + 2, none⟩ = some (.string x.f2) ∧ w'.cell? ⟨(ad.add (k * 5)).block, (ad.add (k * 5)).off + 3, none⟩ = some (.string x.f3) ∧ w'.cell? ⟨(ad.add (k * 5)).block, (ad.add (k * 5)).off + 4, none⟩ = some (.int .i64 x.f4) ∧ KeepBut w9 w' g9 none ∧ Below g9 w9 w')))
              clear c0 c1 x0 x1 x2 x3 x4
              cases ok
              · have hsc := HSC.out
                rw [if_neg (by simp)] at hsc
                obtain ⟨rfl, hS1⟩ := Prod.mk.inj (Option.some.inj hsc)
                obtain ⟨rfl, hS2⟩ := Prod.mk.inj hS1; obtain ⟨rfl, rfl⟩ := Prod.mk.inj hS2
                clear hS1 hS2 HSC hsc
                go_upto_region 14 with fail
                refine wp_region_noPanic ?_
                refine wp_region_held_drew (S := (fun w' => (w'.cell? ⟨g4, 0, none⟩ = some (.slice A0 P.length n0) ∧ w'.cell? ⟨g4, 1, none⟩ = some (.slice A1 Q.length n1) ∧ w'.cell? (ad.add (k * 5)) = some (.string x.f0) ∧ w'.cell? ⟨(ad.add (k * 5)).block, (ad.add (k * 5)).off + 1, none⟩ = some (.string x.f1) ∧ w'.cell? ⟨(ad.add (k * 5)).block, (ad.add (k * 5)).off + 2, none⟩ = some (.string x.f2) ∧ w'.cell? ⟨(ad.add (k * 5)).block, (ad.add (k * 5)).off + 3, none⟩ = some (.string x.f3) ∧ w'.cell? ⟨(ad.add (k * 5)).block, (ad.add (k * 5)).off + 4, none⟩ = some (.int .i64 x.f4) ∧ KeepBut w9 w' g9 none ∧ Below g9 w9 w'))) (by kernel_rfl) ?_ (fun hHeld => ?_)
                · (try dsimp only); (first | exact HX.out _ (keep_drew (KeepBut.refl _ _ _)) (Below.refl _ _).drew | exact HX.out _ ((k89 hHeld).1.trans hk2 (.inl rfl)) ((k89 hHeld).2.trans hl2))
                refine wpAnyH_take (i := 0) (oi := { dst := some 55, op := Op.move (Operand.tmp 9), type := 39, pos := "ref.go:127", after := #[], guard := none }) (v := ?_) rfl (by kernel_rfl) (by kernel_rfl) (by kernel_rfl) (fun _ _ _ h => h) (Or.inl ⟨by rfl, ?_⟩) (by assumption) ?_
                rotate_left
                · intro w hSw; (try dsimp only at hSw); first | (go_simp; done) | (go_simp; with_reducible rfl)
                try simp only [Act.put, List.setIfInBounds_toArray, List.set_cons_zero, List.set_cons_succ]
                refine wpAnyH_take (i := 1) (oi := { dst := some 56, op := Op.fieldAddr 51 (Operand.tmp 4) 0, type := 0, pos := "ref.go:127", after := #[], guard := none }) (v := ?_) rfl (by kernel_rfl) (by kernel_rfl) (by kernel_rfl) (fun _ _ _ h => h) (Or.inl ⟨by rfl, ?_⟩) (by assumption) ?_
                rotate_left
                · intro w hSw; (try dsimp only at hSw); first | (go_simp; done) | (go_simp; with_reducible rfl)
                try simp only [Act.put, List.setIfInBounds_toArray, List.set_cons_zero, List.set_cons_succ]
                refine wpAnyH_take (i := 2) (oi := { dst := some 57, op := Op.load 39 (Operand.tmp 56), type := 39, pos := "ref.go:127", after := #[{ on := 1, ground := Ground.data }], guard := none }) (v := ?_) rfl (by kernel_rfl) (by kernel_rfl) (by kernel_rfl) (fun _ _ _ h => h) (Or.inl ⟨by rfl, ?_⟩) (by assumption) ?_
                rotate_left
                · intro w hSw; (try dsimp only at hSw); first | (go_simp; done) | (go_simp; with_reducible rfl)
                try simp only [Act.put, List.setIfInBounds_toArray, List.set_cons_zero, List.set_cons_succ]
                refine wpAnyH_ready (rs := [3]) (by kernel_rfl) (by simp) ?_
                refine AllReadyH.cons (o := { dst := some 58, op := Op.call { callee := Callee.value (Operand.func 29), args := #[Operand.tmp 55, Operand.tmp 57, Operand.tmp 10], argTypes := #[39, 39, 61] }, type := 4, pos := "ref.go:127", after := #[{ on := 0, ground := Ground.data }, { on := 2, ground := Ground.data }], guard := none }) rfl (fun K_ hK_ => ?_) AllReadyH.nil
                go_simp
                go_at_call 29
                refine (rnames_all K g9 { zeroO with dv := x.f4, tok := .slice A7 t.length n7 } rfl A0 n0 P A4 n4 w9.drew form _ _ (blk_drew B9.out) (Kd.C_below (Kd.R_reads' RP.out).2.2 (Below.refl _ _).drew) (Kd.R_reads' RP.out).2.1 HPA.out (Kd.C_below (Kd.R_reads' RF.out).2.2 (Below.refl _ _).drew) (Kd.R_reads' RF.out).2.1 HFA.out HXL.out hQ HQ2.out).mono ?_
                rintro e wA ⟨rfl, hol, BG, hk2, hl2⟩
                go_wp2_with fail
                refine hK_.out _ _ ?_ (fun hHeld2 => ?_)
                · (try dsimp only); (first | exact HX.out _ (keep_drew (KeepBut.refl _ _ _)) (Below.refl _ _).drew | exact HX.out _ ((k89 hHeld).1.trans hk2 (.inl rfl)) ((k89 hHeld).2.trans hl2))
                clear hK_ K_ hHeld
                have hHeld := hHeld2
                clear hHeld2
                try simp only [Act.put, List.setIfInBounds_toArray, List.set_cons_zero, List.set_cons_succ]
                refine wpAnyH_take (i := 4) (oi := { dst := some 59, op := Op.unOp UnOp.not 4 (Operand.tmp 58), type := 4, pos := "ref.go:127", after := #[{ on := 3, ground := Ground.data }], guard := none }) (v := ?_) rfl (by kernel_rfl) (by kernel_rfl) (by kernel_rfl) (fun _ _ _ h => h) (Or.inl ⟨by rfl, ?_⟩) (by assumption) ?_
                rotate_left
                · intro w hSw; (try dsimp only at hSw); first | (go_simp; done) | (go_simp; with_reducible rfl)
                try simp only [Act.put, List.setIfInBounds_toArray, List.set_cons_zero, List.set_cons_succ]
                refine wpAnyH_take (i := 5) (oi := { dst := some 60, op := Op.move (Operand.tmp 59), type := 4, pos := "ref.go:127", after := #[{ on := 4, ground := Ground.data }, { on := 3, ground := Ground.chain }], guard := none }) (v := ?_) rfl (by kernel_rfl) (by kernel_rfl) (by kernel_rfl) (fun _ _ _ h => h) (Or.inl ⟨by rfl, ?_⟩) (by assumption) ?_
                rotate_left
                · intro w hSw; (try dsimp only at hSw); first | (go_simp; done) | (go_simp; with_reducible rfl)
                try simp only [Act.put, List.setIfInBounds_toArray, List.set_cons_zero, List.set_cons_succ]
                refine wpAnyH_take (i := 6) (oi := { dst := some 61, op := Op.move (Operand.tmp 6), type := 63, pos := "ref.go:127", after := #[{ on := 5, ground := Ground.guard }], guard := some (5, false) }) (v := undef) rfl (by kernel_rfl) (by kernel_rfl) (by kernel_rfl) (fun _ _ _ h => h) (Or.inr ⟨by rfl, rfl⟩) (by assumption) ?_
                try simp only [Act.put, List.setIfInBounds_toArray, List.set_cons_zero, List.set_cons_succ]
                refine wpAnyH_take (i := 7) (oi := { dst := some 62, op := Op.move (Operand.tmp 8), type := 3, pos := "ref.go:127", after := #[{ on := 5, ground := Ground.guard }], guard := some (5, false) }) (v := undef) rfl (by kernel_rfl) (by kernel_rfl) (by kernel_rfl) (fun _ _ _ h => h) (Or.inr ⟨by rfl, rfl⟩) (by assumption) ?_
                try simp only [Act.put, List.setIfInBounds_toArray, List.set_cons_zero, List.set_cons_succ]
                refine wpAnyH_take (i := 8) (oi := { dst := some 63, op := Op.indexAddr 63 (Operand.tmp 61) (Operand.tmp 62), type := 0, pos := "ref.go:127", after := #[{ on := 6, ground := Ground.data }, { on := 7, ground := Ground.data }, { on := 5, ground := Ground.guard }], guard := some (5, false) }) (v := undef) rfl (by kernel_rfl) (by kernel_rfl) (by kernel_rfl) (fun _ _ _ h => h) (Or.inr ⟨by rfl, rfl⟩) (by assumption) ?_
                try simp only [Act.put, List.setIfInBounds_toArray, List.set_cons_zero, List.set_cons_succ]
                refine wpAnyH_take (i := 9) (oi := { dst := some 64, op := Op.load 67 (Operand.tmp 63), type := 67, pos := "ref.go:127", after := #[{ on := 8, ground := Ground.data }, { on := 5, ground := Ground.guard }], guard := some (5, false) }) (v := undef) rfl (by kernel_rfl) (by kernel_rfl) (by kernel_rfl) (fun _ _ _ h => h) (Or.inr ⟨by rfl, rfl⟩) (by assumption) ?_
                try simp only [Act.put, List.setIfInBounds_toArray, List.set_cons_zero, List.set_cons_succ]
                refine wpAnyH_take (i := 10) (oi := { dst := some 65, op := Op.fieldAddr 51 (Operand.tmp 4) 1, type := 0, pos := "ref.go:127", after := #[{ on := 5, ground := Ground.guard }], guard := some (5, false) }) (v := undef) rfl (by kernel_rfl) (by kernel_rfl) (by kernel_rfl) (fun _ _ _ h => h) (Or.inr ⟨by rfl, rfl⟩) (by assumption) ?_
                try simp only [Act.put, List.setIfInBounds_toArray, List.set_cons_zero, List.set_cons_succ]
                refine wpAnyH_take (i := 11) (oi := { dst := some 66, op := Op.load 49 (Operand.tmp 65), type := 49, pos := "ref.go:127", after := #[{ on := 10, ground := Ground.data }, { on := 5, ground := Ground.guard }], guard := some (5, false) }) (v := undef) rfl (by kernel_rfl) (by kernel_rfl) (by kernel_rfl) (fun _ _ _ h => h) (Or.inr ⟨by rfl, rfl⟩) (by assumption) ?_
                try simp only [Act.put, List.setIfInBounds_toArray, List.set_cons_zero, List.set_cons_succ]
                refine wpAnyH_take (i := 12) (oi := { dst := some 67, op := Op.call { callee := Callee.value (Operand.func 30), args := #[Operand.tmp 64, Operand.tmp 66, Operand.tmp 10], argTypes := #[67, 49, 61] }, type := 4, pos := "ref.go:127", after := #[{ on := 9, ground := Ground.data }, { on := 11, ground := Ground.data }, { on := 5, ground := Ground.chain }, { on := 5, ground := Ground.guard }], guard := some (5, false) }) (v := undef) rfl (by kernel_rfl) (by kernel_rfl) (by kernel_rfl) (fun _ _ _ h => h) (Or.inr ⟨by rfl, rfl⟩) (by assumption) ?_
                try simp only [Act.put, List.setIfInBounds_toArray, List.set_cons_zero, List.set_cons_succ]
                refine wpAnyH_take (i := 13) (oi := { dst := some 68, op := Op.unOp UnOp.not 4 (Operand.tmp 67), type := 4, pos := "ref.go:127", after := #[{ on := 12, ground := Ground.data }, { on := 5, ground := Ground.guard }], guard := some (5, false) }) (v := undef) rfl (by kernel_rfl) (by kernel_rfl) (by kernel_rfl) (fun _ _ _ h => h) (Or.inr ⟨by rfl, rfl⟩) (by assumption) ?_
                try simp only [Act.put, List.setIfInBounds_toArray, List.set_cons_zero, List.set_cons_succ]
                refine wpAnyH_take (i := 14) (oi := { dst := some 69, op := Op.pick (Operand.tmp 60) (Operand.const (Value.bool true)) (Operand.tmp 68), type := 4, pos := "ref.go:127", after := #[{ on := 5, ground := Ground.data }, { on := 13, ground := Ground.data }], guard := none }) (v := ?_) rfl (by kernel_rfl) (by kernel_rfl) (by kernel_rfl) (fun _ _ _ h => h) (Or.inl ⟨by rfl, ?_⟩) (by assumption) ?_
                rotate_left
                · intro w hSw; (try dsimp only at hSw); first | (go_simp; done) | (go_simp; with_reducible rfl)
                try simp only [Act.put, List.setIfInBounds_toArray, List.set_cons_zero, List.set_cons_succ]
                refine wpAnyH_done (by kernel_rfl) ?_ _
                refine NoPanic.normal ?_
                have hKB : KeepBut w9 wA g9 none ∧ Below g9 w9 wA := k89 hHeld
                replace BO := Lib.hid (hKB.1.blk BO.out (by have := HGE.out; omega) (by simp))
                replace HB := Lib.hid (show Below w.heap.size w wA from HB.out.trans ⟨hKB.2.os, hKB.2.tape, hKB.2.output, hKB.2.size, fun i hi => hKB.2.block i (by have := HGE.out; omega)⟩)
                clear hKB HX
                go_wp2_with (first | (refine build_to rfl 33 _ rfl (opA zeroO) (by kernel_rfl) ?_) | ((refine wpList_store_row rfl 33 _ _ rfl (w.heap.size + 1) (opA zeroO) rfl rfl 33 (opA zeroO) BO.out size33z rfl oneZ ?_); refine Hid.out ?_))
                refine Lib.hid ?_
                have f1 := setRow_heap wA (w.heap.size + 1) _ (opA zeroO) 33 _ BO.out
                have f2 : Below w.heap.size w (wA.setRow (w.heap.size + 1) (opA zeroO)) := below_setRow HB.out (Nat.le_succ _) _
                generalize wA.setRow (w.heap.size + 1) (opA zeroO) = wZ at f1 f2 ⊢
                go_wp2
                refine bodyPost_ret (results_ct rfl _ _ (w.heap.size + 1) 33 (opA zeroO) (0, 0) _ rfl f1 Tryd.underlying33 rfl size33z) rfl ?_
                exact ⟨⟨.slice none 0 0, .slice none 0 0, rfl, Kd.R_nil _ _ _ _ _, Kd.R_nil _ _ _ _ _⟩, f2⟩
              · have hsc := HSC.out
                rw [if_pos rfl] at hsc
                obtain ⟨z, hz, hsc1⟩ := Option.bind_eq_some_iff.1 hsc
                clear hsc
                have hsc := hsc1
                clear hsc1
                have hz2 := prR_tok K x.f2 x.f3 (.slice A7 t.length n7) Q q
                rw [hz] at hz2
                have HKZ := Lib.hid (prR_body K x.f2 x.f3 Q q z hz)
                obtain ⟨ok, z⟩ := z
                have HZ := Lib.hid (show prR K x.f2 x.f3 Q { q with tok := .slice A7 t.length n7 } = some (ok, { z with tok := .slice A7 t.length n7 }) from hz2)
                replace HSC := Lib.hid hsc
                clear hz hz2 hsc
                go_upto_region 14 with fail
                refine wp_region_noPanic ?_
                refine wp_region_held_drew (S := (fun w' => (w'.cell? ⟨g4, 0, none⟩ = some (.slice A0 P.length n0) ∧ w'.cell? ⟨g4, 1, none⟩ = some (.slice A1 Q.length n1) ∧ w'.cell? (ad.add (k * 5)) = some (.string x.f0) ∧ w'.cell? ⟨(ad.add (k * 5)).block, (ad.add (k * 5)).off + 1, none⟩ = some (.string x.f1) ∧ w'.cell? ⟨(ad.add (k * 5)).block, (ad.add (k * 5)).off + 2, none⟩ = some (.string x.f2) ∧ w'.cell? ⟨(ad.add (k * 5)).block, (ad.add (k * 5)).off + 3, none⟩ = some (.string x.f3) ∧ w'.cell? ⟨(ad.add (k * 5)).block, (ad.add (k * 5)).off + 4, none⟩ = some (.int .i64 x.f4) ∧ KeepBut w9 w' g9 none ∧ Below g9 w9 w'))) (by kernel_rfl) ?_ (fun hHeld => ?_)
                · (try dsimp only); (first | exact HX.out _ (keep_drew (KeepBut.refl _ _ _)) (Below.refl _ _).drew | exact HX.out _ ((k89 hHeld).1.trans hk2 (.inl rfl)) ((k89 hHeld).2.trans hl2))
                refine wpAnyH_take (i := 0) (oi := { dst := some 55, op := Op.move (Operand.tmp 9), type := 39, pos := "ref.go:127", after := #[], guard := none }) (v := ?_) rfl (by kernel_rfl) (by kernel_rfl) (by kernel_rfl) (fun _ _ _ h => h) (Or.inl ⟨by rfl, ?_⟩) (by assumption) ?_
                rotate_left
                · intro w hSw; (try dsimp only at hSw); first | (go_simp; done) | (go_simp; with_reducible rfl)
                try simp only [Act.put, List.setIfInBounds_toArray, List.set_cons_zero, List.set_cons_succ]
                refine wpAnyH_take (i := 1) (oi := { dst := some 56, op := Op.fieldAddr 51 (Operand.tmp 4) 0, type := 0, pos := "ref.go:127", after := #[], guard := none }) (v := ?_) rfl (by kernel_rfl) (by kernel_rfl) (by kernel_rfl) (fun _ _ _ h => h) (Or.inl ⟨by rfl, ?_⟩) (by assumption) ?_
                rotate_left
                · intro w hSw; (try dsimp only at hSw); first | (go_simp; done) | (go_simp; with_reducible rfl)
                try simp only [Act.put, List.setIfInBounds_toArray, List.set_cons_zero, List.set_cons_succ]
                refine wpAnyH_take (i := 2) (oi := { dst := some 57, op := Op.load 39 (Operand.tmp 56), type := 39, pos := "ref.go:127", after := #[{ on := 1, ground := Ground.data }], guard := none }) (v := ?_) rfl (by kernel_rfl) (by kernel_rfl) (by kernel_rfl) (fun _ _ _ h => h) (Or.inl ⟨by rfl, ?_⟩) (by assumption) ?_
                rotate_left
                · intro w hSw; (try dsimp only at hSw); first | (go_simp; done) | (go_simp; with_reducible rfl)
                try simp only [Act.put, List.setIfInBounds_toArray, List.set_cons_zero, List.set_cons_succ]
                refine wpAnyH_ready (rs := [3]) (by kernel_rfl) (by simp) ?_
                refine AllReadyH.cons (o := { dst := some 58, op := Op.call { callee := Callee.value (Operand.func 29), args := #[Operand.tmp 55, Operand.tmp 57, Operand.tmp 10], argTypes := #[39, 39, 61] }, type := 4, pos := "ref.go:127", after := #[{ on := 0, ground := Ground.data }, { on := 2, ground := Ground.data }], guard := none }) rfl (fun K_ hK_ => ?_) AllReadyH.nil
                go_simp
                go_at_call 29
                refine (rnames_all K g9 { zeroO with dv := x.f4, tok := .slice A7 t.length n7 } rfl A0 n0 P A4 n4 w9.drew form _ _ (blk_drew B9.out) (Kd.C_below (Kd.R_reads' RP.out).2.2 (Below.refl _ _).drew) (Kd.R_reads' RP.out).2.1 HPA.out (Kd.C_below (Kd.R_reads' RF.out).2.2 (Below.refl _ _).drew) (Kd.R_reads' RF.out).2.1 HFA.out HXL.out hQ HQ2.out).mono ?_
                rintro e wA ⟨rfl, hol, BG, hk2, hl2⟩
                go_wp2_with fail
                refine hK_.out _ _ ?_ (fun hHeld2 => ?_)
                · (try dsimp only); (first | exact HX.out _ (keep_drew (KeepBut.refl _ _ _)) (Below.refl _ _).drew | exact HX.out _ ((k89 hHeld).1.trans hk2 (.inl rfl)) ((k89 hHeld).2.trans hl2))
                clear hK_ K_ hHeld
                have hHeld := hHeld2
                clear hHeld2
                try simp only [Act.put, List.setIfInBounds_toArray, List.set_cons_zero, List.set_cons_succ]
                refine wpAnyH_take (i := 4) (oi := { dst := some 59, op := Op.unOp UnOp.not 4 (Operand.tmp 58), type := 4, pos := "ref.go:127", after := #[{ on := 3, ground := Ground.data }], guard := none }) (v := ?_) rfl (by kernel_rfl) (by kernel_rfl) (by kernel_rfl) (fun _ _ _ h => h) (Or.inl ⟨by rfl, ?_⟩) (by assumption) ?_
                rotate_left
                · intro w hSw; (try dsimp only at hSw); first | (go_simp; done) | (go_simp; with_reducible rfl)
                try simp only [Act.put, List.setIfInBounds_toArray, List.set_cons_zero, List.set_cons_succ]
                refine wpAnyH_take (i := 5) (oi := { dst := some 60, op := Op.move (Operand.tmp 59), type := 4, pos := "ref.go:127", after := #[{ on := 4, ground := Ground.data }, { on := 3, ground := Ground.chain }], guard := none }) (v := ?_) rfl (by kernel_rfl) (by kernel_rfl) (by kernel_rfl) (fun _ _ _ h => h) (Or.inl ⟨by rfl, ?_⟩) (by assumption) ?_
                rotate_left
                · intro w hSw; (try dsimp only at hSw); first | (go_simp; done) | (go_simp; with_reducible rfl)
                try simp only [Act.put, List.setIfInBounds_toArray, List.set_cons_zero, List.set_cons_succ]
                refine wpAnyH_take (i := 6) (oi := { dst := some 61, op := Op.move (Operand.tmp 6), type := 63, pos := "ref.go:127", after := #[{ on := 5, ground := Ground.guard }], guard := some (5, false) }) (v := ?_) rfl (by kernel_rfl) (by kernel_rfl) (by kernel_rfl) (fun _ _ _ h => h) (Or.inl ⟨by rfl, ?_⟩) (by assumption) ?_
                rotate_left
                · intro w hSw; (try dsimp only at hSw); first | (go_simp; done) | (go_simp; with_reducible rfl)
                try simp only [Act.put, List.setIfInBounds_toArray, List.set_cons_zero, List.set_cons_succ]
                refine wpAnyH_take (i := 7) (oi := { dst := some 62, op := Op.move (Operand.tmp 8), type := 3, pos := "ref.go:127", after := #[{ on := 5, ground := Ground.guard }], guard := some (5, false) }) (v := ?_) rfl (by kernel_rfl) (by kernel_rfl) (by kernel_rfl) (fun _ _ _ h => h) (Or.inl ⟨by rfl, ?_⟩) (by assumption) ?_
                rotate_left
                · intro w hSw; (try dsimp only at hSw); first | (go_simp; done) | (go_simp; with_reducible rfl)
                try simp only [Act.put, List.setIfInBounds_toArray, List.set_cons_zero, List.set_cons_succ]
                refine wpAnyH_take (i := 8) (oi := { dst := some 63, op := Op.indexAddr 63 (Operand.tmp 61) (Operand.tmp 62), type := 0, pos := "ref.go:127", after := #[{ on := 6, ground := Ground.data }, { on := 7, ground := Ground.data }, { on := 5, ground := Ground.guard }], guard := some (5, false) }) (v := ?_) rfl (by kernel_rfl) (by kernel_rfl) (by kernel_rfl) (fun _ _ _ h => h) (Or.inl ⟨by rfl, ?_⟩) (by assumption) ?_
                rotate_left
                · intro w hSw; (try dsimp only at hSw); first | (go_simp; done) | (go_simp; with_reducible rfl)
                try simp only [Act.put, List.setIfInBounds_toArray, List.set_cons_zero, List.set_cons_succ]
                refine wpAnyH_take (i := 9) (oi := { dst := some 64, op := Op.load 67 (Operand.tmp 63), type := 67, pos := "ref.go:127", after := #[{ on := 8, ground := Ground.data }, { on := 5, ground := Ground.guard }], guard := some (5, false) }) (v := ?_) rfl (by kernel_rfl) (by kernel_rfl) (by kernel_rfl) (fun _ _ _ h => h) (Or.inl ⟨by rfl, ?_⟩) (by assumption) ?_
                rotate_left
                · intro w hSw; (try dsimp only at hSw); first | (go_simp; done) | (go_simp; with_reducible rfl)
                try simp only [Act.put, List.setIfInBounds_toArray, List.set_cons_zero, List.set_cons_succ]
                refine wpAnyH_take (i := 10) (oi := { dst := some 65, op := Op.fieldAddr 51 (Operand.tmp 4) 1, type := 0, pos := "ref.go:127", after := #[{ on := 5, ground := Ground.guard }], guard := some (5, false) }) (v := ?_) rfl (by kernel_rfl) (by kernel_rfl) (by kernel_rfl) (fun _ _ _ h => h) (Or.inl ⟨by rfl, ?_⟩) (by assumption) ?_
                rotate_left
                · intro w hSw; (try dsimp only at hSw); first | (go_simp; done) | (go_simp; with_reducible rfl)
                try simp only [Act.put, List.setIfInBounds_toArray, List.set_cons_zero, List.set_cons_succ]
                refine wpAnyH_take (i := 11) (oi := { dst := some 66, op := Op.load 49 (Operand.tmp 65), type := 49, pos := "ref.go:127", after := #[{ on := 10, ground := Ground.data }, { on := 5, ground := Ground.guard }], guard := some (5, false) }) (v := ?_) rfl (by kernel_rfl) (by kernel_rfl) (by kernel_rfl) (fun _ _ _ h => h) (Or.inl ⟨by rfl, ?_⟩) (by assumption) ?_
                rotate_left
                · intro w hSw; (try dsimp only at hSw); first | (go_simp; done) | (go_simp; with_reducible rfl)
                try simp only [Act.put, List.setIfInBounds_toArray, List.set_cons_zero, List.set_cons_succ]
                refine wpAnyH_ready (rs := [12]) (by kernel_rfl) (by simp) ?_
                refine AllReadyH.cons (o := { dst := some 67, op := Op.call { callee := Callee.value (Operand.func 30), args := #[Operand.tmp 64, Operand.tmp 66, Operand.tmp 10], argTypes := #[67, 49, 61] }, type := 4, pos := "ref.go:127", after := #[{ on := 9, ground := Ground.data }, { on := 11, ground := Ground.data }, { on := 5, ground := Ground.chain }, { on := 5, ground := Ground.guard }], guard := some (5, false) }) rfl (fun K_ hK_ => ?_) AllReadyH.nil
                clear hk2 hl2
                go_simp
                go_at_call 30
                refine (rparams_all K x.f0 x.f1 x.f2 x.f3 x.f4 g9 { q with tok := .slice A7 t.length n7 } hol A1 n1 Q _ _ _ BG (Kd.R_reads' (Kd.R_mono (Kd.R_keep (Kd.R_types RQ.out B9.out (by decide)) (k89 hHeld).1 (fun _ hk => hk.2)) (fun _ hk => hk.1))).2.2 (Kd.R_reads' RQ.out).2.1 HQA.out HZ.out).mono ?_
                rintro e wB ⟨rfl, hol2, BG2, hk2, hl2⟩
                go_wp2_with fail
                refine hK_.out _ _ ?_ (fun hHeld2 => ?_)
                · (try dsimp only); (first | exact HX.out _ (keep_drew (KeepBut.refl _ _ _)) (Below.refl _ _).drew | exact HX.out _ ((k89 hHeld).1.trans hk2 (.inl rfl)) ((k89 hHeld).2.trans hl2))
                clear hK_ K_ hHeld
                have hHeld := hHeld2
                clear hHeld2
                try simp only [Act.put, List.setIfInBounds_toArray, List.set_cons_zero, List.set_cons_succ]
                refine wpAnyH_take (i := 13) (oi := { dst := some 68, op := Op.unOp UnOp.not 4 (Operand.tmp 67), type := 4, pos := "ref.go:127", after := #[{ on := 12, ground := Ground.data }, { on := 5, ground := Ground.guard }], guard := some (5, false) }) (v := ?_) rfl (by kernel_rfl) (by kernel_rfl) (by kernel_rfl) (fun _ _ _ h => h) (Or.inl ⟨by rfl, ?_⟩) (by assumption) ?_
                rotate_left
                · intro w hSw; (try dsimp only at hSw); first | (go_simp; done) | (go_simp; with_reducible rfl)
                try simp only [Act.put, List.setIfInBounds_toArray, List.set_cons_zero, List.set_cons_succ]
                refine wpAnyH_take (i := 14) (oi := { dst := some 69, op := Op.pick (Operand.tmp 60) (Operand.const (Value.bool true)) (Operand.tmp 68), type := 4, pos := "ref.go:127", after := #[{ on := 5, ground := Ground.data }, { on := 13, ground := Ground.data }], guard := none }) (v := ?_) rfl (by kernel_rfl) (by kernel_rfl) (by kernel_rfl) (fun _ _ _ h => h) (Or.inl ⟨by rfl, ?_⟩) (by assumption) ?_
                rotate_left
                · intro w hSw; (try dsimp only at hSw); first | (go_simp; done) | (go_simp; with_reducible rfl)
                try simp only [Act.put, List.setIfInBounds_toArray, List.set_cons_zero, List.set_cons_succ]
                refine wpAnyH_done (by kernel_rfl) ?_ _
                refine NoPanic.normal ?_
                have hKB : KeepBut w9 wB g9 none ∧ Below g9 w9 wB := k89 hHeld
                replace BR := Lib.hid (hKB.1.blk BR.out (by have := HGE.out; omega) (by simp))
                replace BO := Lib.hid (hKB.1.blk BO.out (by have := HGE.out; omega) (by simp))
                replace R8 := Lib.hid (Kd.R_mono (Kd.R_keep (Kd.R_types R8.out B9.out (by decide)) hKB.1 (fun _ hk => hk.2)) (fun _ hk => hk.1))
                replace HB := Lib.hid (show Below w.heap.size w wB from HB.out.trans ⟨hKB.2.os, hKB.2.tape, hKB.2.output, hKB.2.size, fun i hi => hKB.2.block i (by have := HGE.out; omega)⟩)
                replace B9 := Lib.hid BG2
                clear hol
                have hol := hol2
                clear hol2 hKB HX BG BG2 hHeld hk2 hl2 HZ HQ2 HPA HQA HFA HNA HNT RQ RP RF RR BT HXL
                have c3 : wB.cell? ⟨g9, 0, none⟩ = some (.int .i64 z.dv) := (blk_cell B9.out 0).trans (opA_0 (o := { z with tok := .slice A7 t.length n7 }) hol)
                have d3 : wB.cell? ⟨w.heap.size, 3, none⟩ = some (.slice Ab bd.length cb) := (blk_cell BR.out 3).trans rfl
                cases ok
                · have hsc := HSC.out
                  rw [if_neg (by simp)] at hsc
                  obtain ⟨rfl, hS1⟩ := Prod.mk.inj (Option.some.inj hsc)
                  obtain ⟨rfl, hS2⟩ := Prod.mk.inj hS1; obtain ⟨rfl, rfl⟩ := Prod.mk.inj hS2
                  clear hS1 hS2 hsc HSC
                  go_wp2_with (first | (refine build_to rfl 33 _ rfl (opA zeroO) (by kernel_rfl) ?_) | ((refine wpList_store_row rfl 33 _ _ rfl (w.heap.size + 1) (opA zeroO) rfl rfl 33 (opA zeroO) BO.out size33z rfl oneZ ?_); refine Hid.out ?_))
                  refine Lib.hid ?_
                  have f1 := setRow_heap wB (w.heap.size + 1) _ (opA zeroO) 33 _ BO.out
                  have f2 : Below w.heap.size w (wB.setRow (w.heap.size + 1) (opA zeroO)) := below_setRow HB.out (Nat.le_succ _) _
                  generalize wB.setRow (w.heap.size + 1) (opA zeroO) = wZ at f1 f2 ⊢
                  go_wp2
                  refine bodyPost_ret (results_ct rfl _ _ (w.heap.size + 1) 33 (opA zeroO) (0, 0) _ rfl f1 Tryd.underlying33 rfl size33z) rfl ?_
                  exact ⟨⟨.slice none 0 0, .slice none 0 0, rfl, Kd.R_nil _ _ _ _ _, Kd.R_nil _ _ _ _ _⟩, f2⟩
                · have hsc := HSC.out
                  rw [if_pos rfl] at hsc
                  obtain ⟨rfl, hS1⟩ := Prod.mk.inj (Option.some.inj hsc)
                  obtain ⟨rfl, hS2⟩ := Prod.mk.inj hS1; obtain ⟨hbq, rfl⟩ := Prod.mk.inj hS2
                  clear hS1 hS2 hsc HSC
                  have hbz : z.body = .slice none 0 0 := HKZ.out.trans HKP.out
                  by_cases hd : z.dv = 1 ∨ z.dv = 3
                  rotate_left
                  · rw [if_neg hd] at hbq
                    subst hbq
                    have e1 : (z.dv == 1) = false := by simpa using fun h => hd (.inl h)
                    have e3 : (z.dv == 3) = false := by simpa using fun h => hd (.inr h)
                    clear hd
                    obtain ⟨zz, hzz⟩ : ∃ zz, zz = ({ z with tok := .slice A7 t.length n7, body := .slice none 0 0 } : OpV) := ⟨_, rfl⟩
                    have hz0 : ({ z with tok := .slice A7 t.length n7 } : OpV) = zz := by rw [hzz, ← hbz]
                    have one7 : (opA zz).all (·.oneCell') = true := one_op zz (by rw [hzz]; rfl) (by rw [hzz]; rfl)
                    rw [hz0] at B9
                    have hol2 : zz.of_.length = 32 := by rw [hzz]; exact hol
                    clear hol
                    have hol := hol2
                    clear hol2
                    have RU := Lib.hid (Kd.R_nil (Kd.int .u8) 5 wB w.heap.size (fun _ => True))
                    clear hz0 hbz
                    have HZZ := Lib.hid hzz
                    clear hzz
                    have hold : (opA zeroO).size = (opA zz).size := by rw [opA_size hol, opA_size (o := zeroO) rfl]
                    go_wp2_with (first | (refine wpList_load_row rfl 33 _ rfl g9 rfl 33 (opA zz) (0, 0) _ B9.out Tryd.underlying33 rfl (size_op _ hol) ?_) | ((refine wpList_store_row rfl 33 _ _ rfl (w.heap.size + 1) (opA zz) rfl rfl 33 (opA zeroO) BO.out (size_op _ hol) hold one7 ?_); refine Hid.out ?_))
                    refine Lib.hid ?_
                    have f1 := setRow_heap wB (w.heap.size + 1) _ (opA zz) 33 _ BO.out
                    have f2 : Below w.heap.size w (wB.setRow (w.heap.size + 1) (opA zz)) := below_setRow HB.out (Nat.le_succ _) _
                    have f3 : Kd.R (Kd.int .u8) 5 (wB.setRow (w.heap.size + 1) (opA zz)) w.heap.size (fun _ => True) (.slice A7 t.length n7) t := Kd.R_mono (Kd.R_step (Kd.R_types R8.out BO.out (by decide)) (fun k hk hlt => setRow_other wB (w.heap.size + 1) k _ hk.2)) (fun _ hk => hk.1)
                    have f4 : Kd.R (Kd.int .u8) 5 (wB.setRow (w.heap.size + 1) (opA zz)) w.heap.size (fun _ => True) (.slice none 0 0) [] := Kd.R_mono (Kd.R_step (Kd.R_types RU.out BO.out (by decide)) (fun k hk hlt => setRow_other wB (w.heap.size + 1) k _ hk.2)) (fun _ hk => hk.1)
                    generalize wB.setRow (w.heap.size + 1) (opA zz) = wZ at f1 f2 f3 f4 ⊢
                    go_wp2
                    refine bodyPost_ret (results_ct rfl _ _ (w.heap.size + 1) 33 (opA zz) (0, 0) _ rfl f1 Tryd.underlying33 rfl (size_op _ hol)) rfl ?_
                    exact ⟨⟨.slice A7 t.length n7, (.slice none 0 0), by rw [HZZ.out]; rfl, f3, f4⟩, f2⟩
                  · rw [if_pos hd] at hbq
                    subst hbq
                    have hbb : Hid (bd.length ≤ 140737488355328) := Lib.hid hbl
                    obtain ⟨e1, he1⟩ : ∃ e1, (z.dv == 1) = e1 := ⟨_, rfl⟩
                    have he3 : e1 = false → (z.dv == 3) = true := fun h => by
                      rw [h] at he1
                      rcases hd with hd | hd
                      · rw [hd] at he1; cases he1
                      · rw [hd]; rfl
                    have HE3 := Lib.hid he3
                    clear hd he3 hbl
                    cases e1
                    all_goals
                      (try (have e3 := HE3.out rfl))
                      clear HE3
                      go_upto_region 18 with (first | ((with_reducible refine gate_dst (N := 79) rfl ?_); refine Kd.R_lit (Kd.int .u8) _ 5 ?hg (N := 79) ?hd (xs := ([] : List Int)) (inner := []) (ok := fun _ => True) (okp := fun _ => True) ?hr ?hp (fun _ hk => hk) trivial (Below.refl _ _) (Nat.le_refl _) (by simp) ?_; (case hd => rfl); (case hg => rfl); (case hr => (first | (go_simp; done) | (go_simp; rfl))); (case hp => exact ⟨rfl, fun j p hj => by simp at hj⟩); intro v3 w3 ho3 hb3 hg_ hnew_; clear hg_ hnew_; have d3 := pw_cell_below hb3 d3; have HO3 := Lib.hid ho3; have HB3 := Lib.hid hb3; clear ho3 hb3) | ((with_reducible refine gate_builtin (b := .append) (xs := #[.tmp 79, .tmp 81]) rfl ?_); at_builtin; refine Kd.R_append_rows (Kd.int .u8) (Rr := (Kd.int .u8).K w3) (w0 := wB) wB.heap.size rfl (.tmp 79) (.tmp 81) 23 5 (.int .u8 0) 1 rfl Tryd.underlying23 info5 rfl (by decide) (by omega) _ _ bd Ab bd.length cb (fun _ => True) (fun _ => False) rfl rfl HO3.out (Kd.C_below HBD.out (below_then HB.out HB.out.size HB3.out)) ?aP (fun _ hk => hk.elim) (fun _ _ => trivial) HB3.out HB3.out.size ?aL ?_; (case aP => intro x cs h; exact h); (case aL => have := hbb.out; simp; omega); intro v5 wD ho5 hb5 hg5 hat5; clear hg5 hat5; obtain ⟨AU, nu, eu⟩ := Kd.R_slice ho5; subst eu; rw [List.nil_append] at ho5 ⊢; have HO5 := Lib.hid ho5; have HB5 := Lib.hid hb5; have hz1 := (blk_cell (blk_below B9.out hb5) 37).trans (opA_37 (o := { z with tok := .slice A7 t.length n7 }) hol); have hfz := blk_frozen (blk_below B9.out hb5) 37; clear ho5 hb5))
                      have hb := HB5.out
                      have ru := HO5.out
                      obtain ⟨zz, hzz⟩ : ∃ zz, zz = ({ z with tok := .slice A7 t.length n7, body := .slice AU bd.length nu } : OpV) := ⟨_, rfl⟩
                      have hz0 : (opA { z with tok := .slice A7 t.length n7 }).setIfInBounds 37 (.slice AU bd.length nu) = opA zz := by rw [hzz]; exact set_body (o := { z with tok := .slice A7 t.length n7 }) hol _
                      have hol2 : zz.of_.length = 32 := by rw [hzz]; exact hol
                      have one7 : (opA zz).all (·.oneCell') = true := one_op zz (by rw [hzz]; rfl) (by rw [hzz]; rfl)
                      have B8 := Lib.hid (blk_below B9.out hb)
                      have hz1 : wD.cell? ⟨g9, 37, none⟩ = some z.body := (blk_cell B8.out 37).trans (opA_37 (o := { z with tok := .slice A7 t.length n7 }) hol)
                      rw [hbz] at hz1
                      have hfz := blk_frozen B8.out 37
                      replace BO := Lib.hid (blk_far (p := ⟨g9, 37, none⟩) (blk_below BO.out hb) (by show w.heap.size + 1 ≠ g9; have := HGE.out; omega) (.slice AU bd.length nu))
                      replace R8 := Lib.hid (Kd.R_mono (Kd.R_far (p := ⟨g9, 37, none⟩) (Kd.R_types (Kd.R_below R8.out hb) B8.out (by decide)) (fun _ hk => hk.2) (.slice AU bd.length nu)) (fun _ h_ => h_.1))
                      have RU := Lib.hid (Kd.R_mono (Kd.R_far (p := ⟨g9, 37, none⟩) (Kd.R_types (Kd.R_lower ru HB.out.size) B8.out (by decide)) (fun _ hk => hk.2) (.slice AU bd.length nu)) (fun _ h_ => h_.1))
                      replace HB := Lib.hid ((below_then HB.out HB.out.size hb).setCell (p := ⟨g9, 37, none⟩) (by show w.heap.size ≤ g9; have := HGE.out; omega) (.slice AU bd.length nu))
                      replace B9 := Lib.hid (blk_put B8.out 37 (.slice AU bd.length nu) hz0)
                      clear hz0 hbz hol B8 hb ru c3 d3
                      have hol := hol2
                      clear hol2
                      generalize wD.setCell ⟨g9, 37, none⟩ (.slice AU bd.length nu) = wC at *
                      clear hz1 hfz
                      have HZZ := Lib.hid hzz
                      clear hzz
                      have hold : (opA zeroO).size = (opA zz).size := by rw [opA_size hol, opA_size (o := zeroO) rfl]
                      go_wp2_with (first | (refine wpList_load_row rfl 33 _ rfl g9 rfl 33 (opA zz) (0, 0) _ B9.out Tryd.underlying33 rfl (size_op _ hol) ?_) | ((refine wpList_store_row rfl 33 _ _ rfl (w.heap.size + 1) (opA zz) rfl rfl 33 (opA zeroO) BO.out (size_op _ hol) hold one7 ?_); refine Hid.out ?_))
                      refine Lib.hid ?_
                      have f1 := setRow_heap wC (w.heap.size + 1) _ (opA zz) 33 _ BO.out
                      have f2 : Below w.heap.size w (wC.setRow (w.heap.size + 1) (opA zz)) := below_setRow HB.out (Nat.le_succ _) _
                      have f3 : Kd.R (Kd.int .u8) 5 (wC.setRow (w.heap.size + 1) (opA zz)) w.heap.size (fun _ => True) (.slice A7 t.length n7) t := Kd.R_mono (Kd.R_step (Kd.R_types R8.out BO.out (by decide)) (fun k hk hlt => setRow_other wC (w.heap.size + 1) k _ hk.2)) (fun _ hk => hk.1)
                      have f4 : Kd.R (Kd.int .u8) 5 (wC.setRow (w.heap.size + 1) (opA zz)) w.heap.size (fun _ => True) (.slice AU bd.length nu) bd := Kd.R_mono (Kd.R_step (Kd.R_types RU.out BO.out (by decide)) (fun k hk hlt => setRow_other wC (w.heap.size + 1) k _ hk.2)) (fun _ hk => hk.1)
                      generalize wC.setRow (w.heap.size + 1) (opA zz) = wZ at f1 f2 f3 f4 ⊢
                      go_wp2
                      refine bodyPost_ret (results_ct rfl _ _ (w.heap.size + 1) 33 (opA zz) (0, 0) _ rfl f1 Tryd.underlying33 rfl (size_op _ hol)) rfl ?_
                      exact ⟨⟨.slice A7 t.length n7, (.slice AU bd.length nu), by rw [HZZ.out]; rfl, f3, f4⟩, f2⟩
      · obtain rfl : k = rs.length := by omega
        have hsc := HSC.out
        rw [List.drop_length] at hsc
        obtain ⟨rfl, hS1⟩ := Prod.mk.inj (Option.some.inj hsc)
        obtain ⟨rfl, hS2⟩ := Prod.mk.inj hS1; obtain ⟨rfl, rfl⟩ := Prod.mk.inj hS2; clear hS2
        clear hS1 HSC hsc
        go_wp2_with (first | (refine build_to rfl 33 _ rfl (opA zeroO) (by kernel_rfl) ?_) | ((refine wpList_store_row rfl 33 _ _ rfl (w.heap.size + 1) (opA zeroO) rfl rfl 33 (opA zeroO) BO.out size33z rfl oneZ ?_); refine Hid.out ?_))
        refine Lib.hid ?_
        have f1 := setRow_heap wr (w.heap.size + 1) _ (opA zeroO) 33 _ BO.out
        have f2 : Below w.heap.size w (wr.setRow (w.heap.size + 1) (opA zeroO)) := below_setRow HB.out (Nat.le_succ _) _
        generalize wr.setRow (w.heap.size + 1) (opA zeroO) = w3 at f1 f2 ⊢
        go_wp2
        refine bodyPost_ret (results_ct rfl _ _ (w.heap.size + 1) 33 (opA zeroO) (0, 0) _ rfl f1 Tryd.underlying33 rfl size33z) rfl ?_
        exact ⟨⟨.slice none 0 0, .slice none 0 0, rfl, Kd.R_nil _ _ _ _ _, Kd.R_nil _ _ _ _ _⟩, f2⟩
end Go.Proofs.YtnfimhdcpmakpaaDoor.S
