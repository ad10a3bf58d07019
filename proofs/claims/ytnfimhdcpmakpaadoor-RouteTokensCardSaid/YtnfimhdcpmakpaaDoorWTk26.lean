/-
  RouteTokens, walked.
-/
import Derived.Test.YtnfimhdcpmakpaaDoorLit26
import Derived.Test.YtnfimhdcpmakpaaDoorSx8
namespace Go.Proofs.YtnfimhdcpmakpaaDoor.S
open Go.RowKit Go.Proofs.YtnfimhdcpmakpaaDoorW.PrintWords
set_option linter.unusedVariables false
set_option linter.unusedSimpArgs false
def auths (vs : List ByteArray) : List S41 := vs.map fun v => ⟨⟨#[97, 117, 116, 104, 111, 114, 105, 122, 97, 116, 105, 111, 110]⟩, v⟩
theorem info41 : (Tryd.prog.info? 41).map (fun i => (i.zero, i.size, i.bytes)) = some (some (.agg #[.string ⟨#[]⟩, .string ⟨#[]⟩]), 2, 32) := by kernel_rfl
theorem size25 : (Tryd.prog.info? 25).map (·.size) = some 5 := by kernel_rfl
theorem auths_snoc (vs : List ByteArray) (k : Nat) (h : k < vs.length) : auths (vs.take (k + 1)) = auths (vs.take k) ++ [⟨⟨#[97, 117, 116, 104, 111, 114, 105, 122, 97, 116, 105, 111, 110]⟩, vs.getD k ByteArray.empty⟩] := by
  unfold auths
  rw [List.take_add_one, List.getElem?_eq_getElem h, List.map_append, List.getD_eq_getElem?_getD, List.getElem?_eq_getElem h]
  rfl
theorem auths_len (vs : List ByteArray) : (auths vs).length = vs.length := List.length_map ..
theorem noints (w : World) : Kd.C (Kd.int .u8) w none ([] : List Int).length [] := ⟨rfl, by decide, fun h => absurd h (by decide)⟩
theorem last4 {a b c d : Prop} (h : a ∧ b ∧ c ∧ d) : d := h.2.2.2
set_option maxHeartbeats 8000000 in
set_option maxRecDepth 100000 in
theorem tokens_small (w : World) (A : Option Addr) (c : Nat) (vs : List ByteArray) (hC : Kd.C Kd.string w A vs.length vs) (hc : vs.length ≤ c) (B : Option Addr) (d : Nat) (os : List S41) (hD : Kd.C k41 w B os.length os) (hd : os.length ≤ d) (hv : vs.length ≤ 5) (ho : os.length ≤ 5) :
    Calls Tryd.prog 4 #[.slice A vs.length c, .slice B os.length d] w fun e w' => e = .returned (.bool true) ∧ Below w.heap.size w w' := by
  have HC := Lib.hid hC
  have HD := Lib.hid hD
  have c1 := Lib.hid begun_any
  have hn1 : decide ((5 : Int) < (vs.length : Int)) = false := decide_eq_false (by omega)
  have hn2 : decide ((5 : Int) < (os.length : Int)) = false := decide_eq_false (by omega)
  clear hC hD
  go_enter Tryd.func4, Tryd.ntmps4
  go_wp2_with fail
  refine (c1.out _).mono ?_
  rintro _ w1 ⟨rfl, hb1⟩
  have HB := Lib.hid hb1
  clear hb1 c1
  go_wp2_with fail
  go_loopw [5, 6] (fun lv i wr => ∃ (k : Nat), k ≤ vs.length ∧ i = .int .i64 k ∧ Hid (Kd.R k41 41 wr w.heap.size (fun _ => True) lv (auths (vs.take k))) ∧ Hid (Below w.heap.size w wr)) (fun _ i _ => vs.length - (intOf i).toNat)
  case atStart => exact ⟨0, by omega, rfl, Lib.hid (Kd.R_nil _ _ _ _ _), HB⟩
  case round =>
    clear HB
    obtain ⟨k, hk, rfl, HL, HB⟩ := hrel
    by_cases hlt : k < vs.length
    · obtain ⟨ad, e0, hx⟩ := Kd.at_string (Kd.C_below HC.out HB.out) (k : Int) (by omega) (by omega)
      unfold rdOf at hx
      rw [Int.toNat_natCast] at hx
      have htk := Lib.hid (auths_snoc vs k hlt)
      have hlk : Hid ((auths (vs.take k)).length ≤ 5) := Lib.hid (by rw [auths_len, List.length_take]; omega)
      generalize vs.getD k ByteArray.empty = x at *
      cases e0
      go_wp2_with ((with_reducible refine gate_builtin (b := .append) (xs := #[.tmp 26, .tmp 32]) rfl ?_); at_builtin; refine Kd.R_append k41 (w0 := w) w.heap.size rfl (.tmp 26) (.tmp 32) 22 41 (.agg #[(.string ⟨#[]⟩), (.string ⟨#[]⟩)]) 32 rfl Tryd.underlying22 info41 rfl (by decide) (by omega) _ _ (⟨⟨#[97, 117, 116, 104, 111, 114, 105, 122, 97, 116, 105, 111, 110]⟩, x⟩ : S41) [.string ⟨#[97, 117, 116, 104, 111, 114, 105, 122, 97, 116, 105, 111, 110]⟩, .string x] (fun _ => True) (fun _ => False) rfl rfl ?aP (fun _ hk => hk.elim) (fun _ _ => trivial) HL.out HB.out (below_size HB.out) ?aL ?_; (case aP => exact k41_mkM _ _ _ _); (case aL => have := hlk.out; omega); intro v5 w5 ho5 hb5 hg5 hat5; rw [← htk.out] at ho5; replace HL := Lib.hid ho5; replace HB := Lib.hid hb5; clear ho5 hb5 hg5 hat5)
      go_roundw
      case rel => exact ⟨k + 1, by omega, by go_num, HL, HB⟩
      case measure => simp [intOf]; omega
    · obtain rfl : k = vs.length := by omega
      rw [List.take_length] at HL
      have hlk : Hid ((auths vs).length ≤ 5) := Lib.hid (by rw [auths_len]; omega)
      go_wp2_with ((with_reducible refine gate_builtin (b := .append) (xs := #[.tmp 34, .tmp 35]) rfl ?_); at_builtin; refine Kd.R_append_rows k41 (Rr := k41.K wr) (w0 := w) w.heap.size rfl (.tmp 34) (.tmp 35) 22 41 (.agg #[(.string ⟨#[]⟩), (.string ⟨#[]⟩)]) 32 rfl Tryd.underlying22 info41 rfl (by decide) (by omega) _ _ os B os.length d (fun _ => True) (fun _ => False) rfl rfl HL.out (Kd.C_below HD.out HB.out) ?aP (fun _ hk => hk.elim) (fun _ _ => trivial) HB.out (below_size HB.out) ?aL ?_; (case aP => intro x cs h; rw [k41_open h]; exact k41_mkM _ _ _ _); (case aL => have := hlk.out; omega); intro v5 w5 ho5 hb5 hg5 hat5; replace HL := Lib.hid ho5; replace HB := Lib.hid hb5; obtain ⟨A5, n5, ev5⟩ := Kd.R_slice ho5; subst ev5; clear ho5 hb5 hg5 hat5)
      clear HC HD hn1 hn2 hk hlt hlk
      have hfl : Hid ((auths vs ++ os).length ≤ 10) := Lib.hid (by rw [List.length_append, auths_len]; omega)
      simp only [← List.length_append]
      generalize auths vs ++ os = fs at *
      have y6 := heap_alloc_new w5 (.cells #[.string GET, .string ⟨#[47, 97, 47, 104, 101, 97, 100]⟩, .slice A5 fs.length n5, .slice none 0 0, .bool false] 25)
      have hb6 : Below w5.heap.size w5 (w5.alloc (.cells #[.string GET, .string ⟨#[47, 97, 47, 104, 101, 97, 100]⟩, .slice A5 fs.length n5, .slice none 0 0, .bool false] 25)) := below_alloc (Below.refl _ _) _
      unfold GET at y6 hb6
      replace HL := Lib.hid (Kd.R_below HL.out hb6)
      replace HB := Lib.hid (below_then HB.out HB.out.size hb6)
      generalize (w5.alloc (.cells #[.string ⟨#[71, 69, 84]⟩, .string ⟨#[47, 97, 47, 104, 101, 97, 100]⟩, .slice A5 fs.length n5, .slice none 0 0, .bool false] 25)) = w6 at y6 hb6 HL HB ⊢
      generalize w5.heap.size = g5 at y6 ⊢
      clear hb6
      obtain ⟨r, ⟨K, hK⟩, hr2⟩ := lightR_ev fs hfl.out
      refine (cofferlaw26_light.calls K _ _ A5 n5 fs none 0 [] false r _ (Kd.R_reads' HL.out).2.2 (Kd.R_reads' HL.out).2.1 (noints _) (Nat.zero_le _) (hK K (Nat.le_refl _))).mono ?_
      rintro _ w7 ⟨rfl, hb7⟩
      have y7 := blk_below y6 hb7
      replace HL := Lib.hid (Kd.R_below HL.out hb7)
      replace HB := Lib.hid (below_then HB.out HB.out.size hb7)
      clear y6 hb7 hK
      cases r
      · go_wp2
        go_ret
        exact ⟨rfl, HB.out⟩
      have hsz := Lib.hid (hr2 rfl)
      clear hr2
      go_wp2_with (first | (refine wpList_load_row rfl 25 _ rfl g5 rfl 25 _ (0, 0) _ y7 Tryd.underlying25 rfl size25 ?_))
      obtain ⟨KT, hT⟩ := to_tok fs (by have := hfl.out; omega) (getF_size fs hsz.out)
      have hRT : Hid (Ev (fun k => cofferref26_Token.f k fs) (tokF fs)) := Lib.hid (reftoken_f fs (by have := hfl.out; omega) (getF_size fs hsz.out))
      refine (to_any KT _ _ A5 n5 fs none 0 0 false _ _ _ _ (Kd.R_reads' HL.out).2.2 (Kd.R_reads' HL.out).2.1 hT).mono ?_
      rintro _ w8 ⟨⟨v, rfl, r⟩, hb8⟩
      replace HL := Lib.hid (Kd.R_below HL.out hb8)
      replace HB := Lib.hid (below_then HB.out HB.out.size hb8)
      clear y7 hb8 hT
      obtain ⟨A8, n8, ev⟩ := Kd.R_slice r
      subst ev
      obtain ⟨o8, ho8⟩ : ∃ o, o = ({ zeroO with dv := 17, tok := .slice A8 (tokF fs).length n8 } : OpV) := ⟨_, rfl⟩
      have hl : o8.of_.length = 32 := by rw [ho8]; rfl
      have hn3 : (opA o8).all (·.oneCell') = true := one_op o8 (by rw [ho8]; rfl) (by rw [ho8]; rfl)
      have ht : o8.tok = .slice A8 (tokF fs).length n8 := by rw [ho8]
      have hdv : o8.dv = 17 := by rw [ho8]
      rw [← ho8]
      clear ho8
      go_wp2_with ((refine wpList_store_row rfl 33 _ _ rfl w8.heap.size (opA o8) rfl rfl 33 Tryd.zeroCells33 (heap_alloc_new w8 _) (size_op _ hl) (size_new _ hl) hn3 ?_); refine Hid.out ?_)
      refine Lib.hid ?_
      obtain ⟨f1, f2⟩ := kept33 (w1 := w8) o8 hl
      generalize (w8.alloc (.cells Tryd.zeroCells33 33)).setRow w8.heap.size (opA o8) = u8 at f1 f2 ⊢
      have y8 : u8.cell? ⟨w8.heap.size, 38, none⟩ = some (.slice A8 (tokF fs).length n8) := by rw [blk_cell f1 38, opA_38 hl, ht]
      have y9 : u8.cell? ⟨w8.heap.size, 0, none⟩ = some (.int .i64 17) := by rw [blk_cell f1 0, opA_0 hl, hdv]
      have R8 := Lib.hid (Kd.R_below r f2)
      replace HL := Lib.hid (Kd.R_below HL.out f2)
      replace HB := Lib.hid (below_then HB.out HB.out.size f2)
      clear f1 f2 hl hn3 ht r
      generalize w8.heap.size = g8 at y8 y9 ⊢
      have HX := Lib.hid (fun (w' : World) (hb : Below u8.heap.size u8 w') => (⟨pw_cell_below hb y8, pw_cell_below hb y9, Kd.C_string (P := Tryd.prog) (src := 23) (dst := 9) (c := n8) Tryd.underlying23 Tryd.underlying5 Tryd.underlying9 (Kd.R_reads' (Kd.R_below R8.out hb)).2.2, hb⟩ : (w'.cell? ⟨g8, 38, none⟩ = some (.slice A8 (tokF fs).length n8) ∧ w'.cell? ⟨g8, 0, none⟩ = some (.int .i64 17) ∧ (convert 23 9 (.slice A8 (tokF fs).length n8)).run Tryd.prog w' = .ok (.string (strOfNums (tokF fs))) w' ∧ Below u8.heap.size u8 w')))
      go_wp2_with fail
      obtain ⟨KR, hKR⟩ := hRT.out
      have hTK := Lib.hid (hKR KR (Nat.le_refl _))
      clear hKR y8 y9 hRT hdv hfl hsz
      refine wp_region_noPanic ?_
      refine wp_region_held_drew (S := (fun w' => w'.cell? ⟨g8, 38, none⟩ = some (.slice A8 (tokF fs).length n8) ∧ w'.cell? ⟨g8, 0, none⟩ = some (.int .i64 17) ∧ (convert 23 9 (.slice A8 (tokF fs).length n8)).run Tryd.prog w' = .ok (.string (strOfNums (tokF fs))) w' ∧ Below u8.heap.size u8 w')) (by kernel_rfl) ?_ (fun hHeld => ?_)
      · (try dsimp only); (first | exact HX.out _ (Below.refl _ _).drew | exact HX.out _ (bthen (last4 hHeld) (by assumption)) | exact hHeld)
      refine wpAnyH_take (i := 0) (oi := { dst := some 47, op := Op.move (Operand.tmp 9), type := 3, pos := "law.go:115", after := #[], guard := none }) (v := ?_) rfl (by kernel_rfl) (by kernel_rfl) (by kernel_rfl) (fun _ _ _ h => h) (Or.inl ⟨by rfl, ?_⟩) (by assumption) ?_
      rotate_left
      · intro w hSw; (try dsimp only at hSw); first | (go_simp; done) | (go_simp; with_reducible rfl)
      try simp only [Act.put, List.setIfInBounds_toArray, List.set_cons_zero, List.set_cons_succ]
      refine wpAnyH_take (i := 1) (oi := { dst := some 48, op := Op.binOp BinOp.eql 3 (Operand.tmp 47) (Operand.const (Value.int IntKind.i64 0)) 3, type := 4, pos := "law.go:115", after := #[{ on := 0, ground := Ground.data }], guard := none }) (v := ?_) rfl (by kernel_rfl) (by kernel_rfl) (by kernel_rfl) (fun _ _ _ h => h) (Or.inl ⟨by rfl, ?_⟩) (by assumption) ?_
      rotate_left
      · intro w hSw; (try dsimp only at hSw); first | (go_simp; done) | (go_simp; with_reducible rfl)
      try simp only [Act.put, List.setIfInBounds_toArray, List.set_cons_zero, List.set_cons_succ]
      refine wpAnyH_take (i := 2) (oi := { dst := some 49, op := Op.move (Operand.tmp 48), type := 4, pos := "law.go:115", after := #[{ on := 1, ground := Ground.data }], guard := none }) (v := ?_) rfl (by kernel_rfl) (by kernel_rfl) (by kernel_rfl) (fun _ _ _ h => h) (Or.inl ⟨by rfl, ?_⟩) (by assumption) ?_
      rotate_left
      · intro w hSw; (try dsimp only at hSw); first | (go_simp; done) | (go_simp; with_reducible rfl)
      try simp only [Act.put, List.setIfInBounds_toArray, List.set_cons_zero, List.set_cons_succ]
      refine wpAnyH_take (i := 3) (oi := { dst := some 50, op := Op.fieldAddr 33 (Operand.tmp 8) 0, type := 0, pos := "law.go:115", after := #[{ on := 2, ground := Ground.guard }], guard := some (2, true) }) (v := ?_) rfl (by kernel_rfl) (by kernel_rfl) (by kernel_rfl) (fun _ _ _ h => h) (Or.inl ⟨by rfl, ?_⟩) (by assumption) ?_
      rotate_left
      · intro w hSw; (try dsimp only at hSw); first | (go_simp; done) | (go_simp; with_reducible rfl)
      try simp only [Act.put, List.setIfInBounds_toArray, List.set_cons_zero, List.set_cons_succ]
      refine wpAnyH_take (i := 4) (oi := { dst := some 51, op := Op.load 3 (Operand.tmp 50), type := 3, pos := "law.go:115", after := #[{ on := 3, ground := Ground.data }, { on := 2, ground := Ground.guard }], guard := some (2, true) }) (v := ?_) rfl (by kernel_rfl) (by kernel_rfl) (by kernel_rfl) (fun _ _ _ h => h) (Or.inl ⟨by rfl, ?_⟩) (by assumption) ?_
      rotate_left
      · intro w hSw; (try dsimp only at hSw); first | (go_simp; done) | (go_simp; with_reducible rfl)
      try simp only [Act.put, List.setIfInBounds_toArray, List.set_cons_zero, List.set_cons_succ]
      refine wpAnyH_take (i := 5) (oi := { dst := some 52, op := Op.binOp BinOp.eql 3 (Operand.tmp 51) (Operand.const (Value.int IntKind.i64 17)) 3, type := 4, pos := "law.go:115", after := #[{ on := 4, ground := Ground.data }, { on := 2, ground := Ground.guard }], guard := some (2, true) }) (v := ?_) rfl (by kernel_rfl) (by kernel_rfl) (by kernel_rfl) (fun _ _ _ h => h) (Or.inl ⟨by rfl, ?_⟩) (by assumption) ?_
      rotate_left
      · intro w hSw; (try dsimp only at hSw); first | (go_simp; done) | (go_simp; with_reducible rfl)
      try simp only [Act.put, List.setIfInBounds_toArray, List.set_cons_zero, List.set_cons_succ]
      refine wpAnyH_take (i := 6) (oi := { dst := some 53, op := Op.pick (Operand.tmp 49) (Operand.tmp 52) (Operand.const (Value.bool false)), type := 4, pos := "law.go:115", after := #[{ on := 2, ground := Ground.data }, { on := 5, ground := Ground.data }], guard := none }) (v := ?_) rfl (by kernel_rfl) (by kernel_rfl) (by kernel_rfl) (fun _ _ _ h => h) (Or.inl ⟨by rfl, ?_⟩) (by assumption) ?_
      rotate_left
      · intro w hSw; (try dsimp only at hSw); first | (go_simp; done) | (go_simp; with_reducible rfl)
      try simp only [Act.put, List.setIfInBounds_toArray, List.set_cons_zero, List.set_cons_succ]
      refine wpAnyH_take (i := 7) (oi := { dst := some 54, op := Op.move (Operand.tmp 53), type := 4, pos := "law.go:115", after := #[{ on := 6, ground := Ground.data }, { on := 2, ground := Ground.chain }], guard := none }) (v := ?_) rfl (by kernel_rfl) (by kernel_rfl) (by kernel_rfl) (fun _ _ _ h => h) (Or.inl ⟨by rfl, ?_⟩) (by assumption) ?_
      rotate_left
      · intro w hSw; (try dsimp only at hSw); first | (go_simp; done) | (go_simp; with_reducible rfl)
      try simp only [Act.put, List.setIfInBounds_toArray, List.set_cons_zero, List.set_cons_succ]
      refine wpAnyH_take (i := 8) (oi := { dst := some 55, op := Op.fieldAddr 33 (Operand.tmp 8) 7, type := 0, pos := "law.go:115", after := #[{ on := 7, ground := Ground.guard }], guard := some (7, true) }) (v := ?_) rfl (by kernel_rfl) (by kernel_rfl) (by kernel_rfl) (fun _ _ _ h => h) (Or.inl ⟨by rfl, ?_⟩) (by assumption) ?_
      rotate_left
      · intro w hSw; (try dsimp only at hSw); first | (go_simp; done) | (go_simp; with_reducible rfl)
      try simp only [Act.put, List.setIfInBounds_toArray, List.set_cons_zero, List.set_cons_succ]
      refine wpAnyH_take (i := 9) (oi := { dst := some 56, op := Op.load 23 (Operand.tmp 55), type := 23, pos := "law.go:115", after := #[{ on := 8, ground := Ground.data }, { on := 7, ground := Ground.guard }], guard := some (7, true) }) (v := ?_) rfl (by kernel_rfl) (by kernel_rfl) (by kernel_rfl) (fun _ _ _ h => h) (Or.inl ⟨by rfl, ?_⟩) (by assumption) ?_
      rotate_left
      · intro w hSw; (try dsimp only at hSw); first | (go_simp; done) | (go_simp; with_reducible rfl)
      try simp only [Act.put, List.setIfInBounds_toArray, List.set_cons_zero, List.set_cons_succ]
      refine wpAnyH_take (i := 10) (oi := { dst := some 57, op := Op.convert 23 9 (Operand.tmp 56), type := 9, pos := "law.go:115", after := #[{ on := 9, ground := Ground.data }, { on := 7, ground := Ground.guard }], guard := some (7, true) }) (v := ?_) rfl (by kernel_rfl) (by kernel_rfl) (by kernel_rfl) (fun _ _ _ h => h) (Or.inl ⟨by rfl, ?_⟩) (by assumption) ?_
      rotate_left
      · intro w hSw; (try dsimp only at hSw); first | (go_simp; done) | (go_simp; with_reducible rfl)
      try simp only [Act.put, List.setIfInBounds_toArray, List.set_cons_zero, List.set_cons_succ]
      refine wpAnyH_take (i := 11) (oi := { dst := some 58, op := Op.move (Operand.tmp 5), type := 22, pos := "law.go:115", after := #[{ on := 7, ground := Ground.guard }], guard := some (7, true) }) (v := ?_) rfl (by kernel_rfl) (by kernel_rfl) (by kernel_rfl) (fun _ _ _ h => h) (Or.inl ⟨by rfl, ?_⟩) (by assumption) ?_
      rotate_left
      · intro w hSw; (try dsimp only at hSw); first | (go_simp; done) | (go_simp; with_reducible rfl)
      try simp only [Act.put, List.setIfInBounds_toArray, List.set_cons_zero, List.set_cons_succ]
      refine wpAnyH_ready (rs := [12]) (by kernel_rfl) (by simp) ?_
      refine AllReadyH.cons (o := { dst := some 59, op := Op.call { callee := Callee.value (Operand.func 15), args := #[Operand.tmp 58], argTypes := #[22] }, type := 23, pos := "law.go:115", after := #[{ on := 11, ground := Ground.data }, { on := 7, ground := Ground.chain }, { on := 7, ground := Ground.guard }], guard := some (7, true) }) rfl (fun K hK => ?_) AllReadyH.nil
      go_simp
      go_at_call 15
      refine (cofferref26_Token.calls KR A5 n5 fs _ _ (Kd.R_reads' (Kd.R_below HL.out (last4 hHeld))).2.2 (Kd.R_reads' HL.out).2.1 hTK.out).mono ?_
      rintro e9 w9 ⟨v9, rfl, r9, hb9⟩
      obtain ⟨A9, n9, ev9⟩ := Kd.R_slice r9
      subst ev9
      have hc9 := Kd.C_string (P := Tryd.prog) (src := 23) (dst := 9) (c := n9) Tryd.underlying23 Tryd.underlying5 Tryd.underlying9 (Kd.R_reads' r9).2.2
      go_wp2_with fail
      refine hK.out _ _ ?_ (fun hHeld2 => ?_)
      · (try dsimp only); (first | exact HX.out _ (Below.refl _ _).drew | exact HX.out _ (bthen (last4 hHeld) (by assumption)) | exact hHeld)
      clear hK K hHeld
      have hHeld := hHeld2
      clear hHeld2
      try simp only [Act.put, List.setIfInBounds_toArray, List.set_cons_zero, List.set_cons_succ]
      refine wpAnyH_ready (rs := [13]) (by kernel_rfl) (by simp) ?_
      refine AllReadyH.cons (o := { dst := some 60, op := Op.convert 23 9 (Operand.tmp 59), type := 9, pos := "law.go:115", after := #[{ on := 12, ground := Ground.data }, { on := 7, ground := Ground.guard }], guard := some (7, true) }) rfl (fun K hK => ?_) AllReadyH.nil
      go_simp
      refine hK.out _ _ ?_ (fun hHeld2 => ?_)
      · (try dsimp only); (first | exact HX.out _ (Below.refl _ _).drew | exact HX.out _ (bthen (last4 hHeld) (by assumption)) | exact hHeld)
      clear hK K hHeld
      have hHeld := hHeld2
      clear hHeld2
      try simp only [Act.put, List.setIfInBounds_toArray, List.set_cons_zero, List.set_cons_succ]
      refine wpAnyH_take (i := 14) (oi := { dst := some 61, op := Op.binOp BinOp.eql 9 (Operand.tmp 57) (Operand.tmp 60) 9, type := 4, pos := "law.go:115", after := #[{ on := 10, ground := Ground.data }, { on := 13, ground := Ground.data }, { on := 7, ground := Ground.guard }], guard := some (7, true) }) (v := ?_) rfl (by kernel_rfl) (by kernel_rfl) (by kernel_rfl) (fun _ _ _ h => h) (Or.inl ⟨by rfl, ?_⟩) (by assumption) ?_
      rotate_left
      · intro w hSw; (try dsimp only at hSw); first | (go_simp; done) | (go_simp; with_reducible rfl)
      try simp only [Act.put, List.setIfInBounds_toArray, List.set_cons_zero, List.set_cons_succ]
      refine wpAnyH_take (i := 15) (oi := { dst := some 62, op := Op.pick (Operand.tmp 54) (Operand.tmp 61) (Operand.const (Value.bool false)), type := 4, pos := "law.go:115", after := #[{ on := 7, ground := Ground.data }, { on := 14, ground := Ground.data }], guard := none }) (v := ?_) rfl (by kernel_rfl) (by kernel_rfl) (by kernel_rfl) (fun _ _ _ h => h) (Or.inl ⟨by rfl, ?_⟩) (by assumption) ?_
      rotate_left
      · intro w hSw; (try dsimp only at hSw); first | (go_simp; done) | (go_simp; with_reducible rfl)
      try simp only [Act.put, List.setIfInBounds_toArray, List.set_cons_zero, List.set_cons_succ]
      refine wpAnyH_take (i := 16) (oi := { dst := some 4, op := Op.assign (Operand.tmp 62), type := 4, pos := "law.go:115", after := #[{ on := 15, ground := Ground.data }, { on := 12, ground := Ground.chain }, { on := 0, ground := Ground.phase }, { on := 1, ground := Ground.phase }, { on := 2, ground := Ground.phase }, { on := 3, ground := Ground.phase }, { on := 4, ground := Ground.phase }, { on := 5, ground := Ground.phase }, { on := 6, ground := Ground.phase }, { on := 7, ground := Ground.phase }, { on := 8, ground := Ground.phase }, { on := 9, ground := Ground.phase }, { on := 10, ground := Ground.phase }, { on := 11, ground := Ground.phase }, { on := 12, ground := Ground.phase }, { on := 13, ground := Ground.phase }, { on := 14, ground := Ground.phase }, { on := 15, ground := Ground.phase }], guard := none }) (v := ?_) rfl (by kernel_rfl) (by kernel_rfl) (by kernel_rfl) (fun _ _ _ h => h) (Or.inl ⟨by rfl, ?_⟩) (by assumption) ?_
      rotate_left
      · intro w hSw; (try dsimp only at hSw); first | (go_simp; done) | (go_simp; with_reducible rfl)
      try simp only [Act.put, List.setIfInBounds_toArray, List.set_cons_zero, List.set_cons_succ]
      refine wpAnyH_done (by kernel_rfl) ?_ _
      refine NoPanic.normal ?_
      have hB9 := last4 hHeld
      have HB9 := Lib.hid (below_then HB.out HB.out.size hB9)
      clear hB9
      go_wp2
      go_ret
      exact ⟨rfl, HB9.out⟩
theorem tokens_big (w : World) (A : Option Addr) (c : Nat) (B : Option Addr) (d : Nat) (n m : Nat) (hn : ¬ (n ≤ 5 ∧ m ≤ 5)) :
    Calls Tryd.prog 4 #[.slice A n c, .slice B m d] w fun e w' => e = .returned (.bool true) ∧ Below w.heap.size w w' := by
  have c1 := Lib.hid begun_any
  by_cases h5 : n ≤ 5
  · have hn1 : decide ((5 : Int) < (n : Int)) = false := decide_eq_false (by omega)
    have hn2 : decide ((5 : Int) < (m : Int)) = true := decide_eq_true (by omega)
    go_enter Tryd.func4, Tryd.ntmps4
    go_wp2_with fail
    refine (c1.out _).mono ?_
    rintro _ w1 ⟨rfl, hb1⟩
    go_wp2
    go_ret
    exact ⟨rfl, hb1⟩
  · have hn1 : decide ((5 : Int) < (n : Int)) = true := decide_eq_true (by omega)
    go_enter Tryd.func4, Tryd.ntmps4
    go_wp2_with fail
    refine (c1.out _).mono ?_
    rintro _ w1 ⟨rfl, hb1⟩
    go_wp2
    go_ret
    exact ⟨rfl, hb1⟩
theorem routeTokens_walk (w : World) (A : Option Addr) (c : Nat) (vs : List ByteArray) (hv : Kd.C Kd.string w A vs.length vs ∧ vs.length ≤ c) (B : Option Addr) (d : Nat) (os : List S41) (ho : Kd.C k41 w B os.length os ∧ os.length ≤ d) :
    Calls Tryd.prog 4 #[.slice A vs.length c, .slice B os.length d] w fun e w' => e = .returned (.bool true) ∧ Below w.heap.size w w' := by
  by_cases hn : vs.length ≤ 5 ∧ os.length ≤ 5
  · exact tokens_small w A c vs hv.1 hv.2 B d os ho.1 ho.2 hn.1 hn.2
  · exact tokens_big w A c B d vs.length os.length hn
end Go.Proofs.YtnfimhdcpmakpaaDoor.S
