/-
  Short words for the tactics that the printed walks repeat (hook.py's SHORT puts them in).
-/
import Derived.Test.YtnfimhdcpmakpaaDoorWWordsP
set_option hygiene false in macro "qb_" : tactic => `(tactic| (with_reducible repeat (first | refine blk_drewN ?_ _ | refine blk_drew ?_ | refine blk_alloc ?_ _)))
set_option hygiene false in macro "qp_" : tactic => `(tactic| first | exact HB.out | apply below_alloc | apply pw_below_drewN | apply below_drew1)
set_option hygiene false in macro "qh_" : tactic => `(tactic| (repeat (first | (with_reducible first | exact HB.out | apply below_alloc | apply pw_below_drewN | apply below_drew1) | exact HB.out)))
set_option hygiene false in macro "qk_" : tactic => `(tactic| (with_reducible repeat (first | apply Kd.R_alloc | apply Kd.R_drewN | apply Kd.R_drew)))
set_option hygiene false in macro "qm_" : tactic => `(tactic| ((try simp only [List.map_toArray, List.map_cons, List.map_nil]); first | done | rfl | (simp only [List.length_drop, List.length_take]; rfl)))
set_option hygiene false in macro "qa_" : tactic => `(tactic| first | (with_reducible assumption) | assumption)
set_option hygiene false in macro "qs_" : tactic => `(tactic| simp only [Act.put, List.setIfInBounds_toArray, List.set_cons_zero, List.set_cons_succ, i64_w, i32_w])
set_option hygiene false in macro "qr_" : tactic => `(tactic| first | rfl | (simp; done) | (simp [*]; done))
set_option hygiene false in macro "qd_" : tactic => `(tactic| (repeat (first | exact Drawn0.refl _ | apply Drawn0.step)))
