/- Texts of one claim, merged by a program of this session; what is proved stands in the last of them. -/
import Derived.BigQuiet
import Derived.Deep.QuietTactic
import Derived.Deep.RegionWith
import Derived.Laws.CopyOwn
import Derived.Outline
import Derived.Test.YtpmkibggmkibeaaKa1
import Derived.Test.YtpmkibggmkibeaaKa2
namespace Go.Proofs.Ytpmkibggmkibeaa.G
open Go.RowKit Go.Proofs.YtpmkibggmkibeaaW.PrintWords Go.Proofs.YtpmkibggmkibeaaW.PrintLast Go.Proofs.YtpmkibggmkibeaaW.PrintMore
attribute [local go_sem] max2_int min2_int max_two min_two max_three min_three max_four min_four   -- for this text's walks alone
set_option linter.unusedVariables false
set_option linter.unusedSimpArgs false
def address_numbered.f (a0 : Int) : Option (Int × Int × Int × Bool) := if a0 < 0 then (some (0, 0, 0, false)) else (if a0 > 449999 then (some (0, 0, 0, false)) else (some (wrap64 (Int.tdiv (wrap64 (Int.tdiv a0 75)) 60), Int.tmod (wrap64 (Int.tdiv a0 75)) 60, Int.tmod a0 75, true)))
set_option maxHeartbeats 8000000 in
set_option maxRecDepth 100000 in
theorem address_numbered.calls (a0 : Int) (r1 : Int) (r2 : Int) (r3 : Int) (r4 : Bool) (w : World) (h : address_numbered.f a0 = some (r1, r2, r3, r4)) :
 Calls Try.prog 70 #[.int .i64 a0] w fun e w' => e = .returned (.tuple #[.agg #[.int .i64 r1, .int .i64 r2, .int .i64 r3], .bool r4]) ∧ Below w.heap.size w w' := by
 have hu25 := Try.underlying25
 have HB := Aside0.mk (Below.refl w.heap.size w)
 have H : (if a0 < 0 then (some (0, 0, 0, false)) else (if a0 > 449999 then (some (0, 0, 0, false)) else (some (wrap64 (Int.tdiv (wrap64 (Int.tdiv a0 75)) 60), Int.tmod (wrap64 (Int.tdiv a0 75)) 60, Int.tmod a0 75, true)))) = some (r1, r2, r3, r4) := h
 clear h
 by_cases c2 : a0 < 0
 · rw [if_pos c2] at H
   have c2b0 : decide (a0 < 0) = true := decide_eq_true c2
   clear c2
   simp only [Option.some.injEq, Prod.mk.injEq] at H
   obtain ⟨rfl, rfl, rfl, rfl⟩ := H
   go_enter Try.func70, Try.ntmps70
   go_wp2_with (first | ((with_reducible refine gate_dst (N := 2) rfl ?_); refine box_event ?hg (N := 2) ?hd (cs := #[.int .i64 0, .int .i64 0, .int .i64 0]) (t := 25) ?hr ?_; (case hd => rfl); (case hg => rfl); (case hr => first | (go_simp; done) | (go_simp; rfl)); intro gb125 hg w3 hbox hb; have n0_ := Aside0.mk (below_step (by repeat (first | (with_reducible first | exact HB.out | apply below_alloc | apply pw_below_drewN | apply below_drew1) | exact HB.out)) hb); have n1_ := Aside0.mk (hbox); have n2_ := Aside0.mk ((by rw [hg]; exact (below_size (by repeat (first | (with_reducible first | exact HB.out | apply below_alloc | apply pw_below_drewN | apply below_drew1) | exact HB.out))) : w.heap.size ≤ gb125)); have n3_ := Aside0.mk ((by rw [hg]; exact (below_size (by repeat (first | (with_reducible first | exact HB.out | apply below_alloc | apply pw_below_drewN | apply below_drew1) | exact HB.out))) : w.heap.size ≤ gb125)); clear HB; have HB := n0_; have BK125 := n1_; have GW125 := n2_; have GE125 := n3_; clear n0_ n1_ n2_ n3_; clear hb hbox hg; obtain ⟨hcz4_0, hcz4_1, hcz4_2⟩ := cel3 BK125.out; obtain ⟨hfz4_0, hfz4_1, hfz4_2⟩ := frz3 BK125.out))
   refine bodyPost_ret (results_ct rfl _ _ gb125 25 #[.int .i64 0, .int .i64 0, .int .i64 0] (0, 0) _ rfl (by (with_reducible repeat (first | refine blk_drewN ?_ _ | refine blk_drew ?_ | refine blk_alloc ?_ _)); refine blk_put (cs := #[.int .i64 0, .int .i64 0, .int .i64 0]) ?_ 2 _ rfl; (with_reducible repeat (first | refine blk_drewN ?_ _ | refine blk_drew ?_ | refine blk_alloc ?_ _)); refine blk_put (cs := #[.int .i64 0, .int .i64 0, .int .i64 0]) ?_ 1 _ rfl; (with_reducible repeat (first | refine blk_drewN ?_ _ | refine blk_drew ?_ | refine blk_alloc ?_ _)); refine blk_put (cs := #[.int .i64 0, .int .i64 0, .int .i64 0]) ?_ 0 _ rfl; (with_reducible repeat (first | refine blk_drewN ?_ _ | refine blk_drew ?_ | refine blk_alloc ?_ _)); exact BK125.out) Try.underlying25 rfl (by kernel_rfl)) rfl ?_
   exact ⟨by first | rfl | (simp [errW_none, errW_some] <;> rfl) | (simp [*, errW_none, errW_some] <;> rfl), by repeat (first | (with_reducible first | exact HB.out | apply below_alloc | apply pw_below_drewN | apply below_drew1 | refine below_set ?_ GE125.out) | exact HB.out)⟩
 · rw [if_neg c2] at H
   have c2b0 : decide (a0 < 0) = false := decide_eq_false c2
   clear c2
   by_cases c5 : a0 > 449999
   · rw [if_pos c5] at H
     have c5b0 : decide (449999 < a0) = true := decide_eq_true c5
     clear c5
     simp only [Option.some.injEq, Prod.mk.injEq] at H
     obtain ⟨rfl, rfl, rfl, rfl⟩ := H
     go_enter Try.func70, Try.ntmps70
     go_wp2_with (first | ((with_reducible refine gate_dst (N := 2) rfl ?_); refine box_event ?hg (N := 2) ?hd (cs := #[.int .i64 0, .int .i64 0, .int .i64 0]) (t := 25) ?hr ?_; (case hd => rfl); (case hg => rfl); (case hr => first | (go_simp; done) | (go_simp; rfl)); intro gb125 hg w6 hbox hb; have n0_ := Aside0.mk (below_step (by repeat (first | (with_reducible first | exact HB.out | apply below_alloc | apply pw_below_drewN | apply below_drew1) | exact HB.out)) hb); have n1_ := Aside0.mk (hbox); have n2_ := Aside0.mk ((by rw [hg]; exact (below_size (by repeat (first | (with_reducible first | exact HB.out | apply below_alloc | apply pw_below_drewN | apply below_drew1) | exact HB.out))) : w.heap.size ≤ gb125)); have n3_ := Aside0.mk ((by rw [hg]; exact (below_size (by repeat (first | (with_reducible first | exact HB.out | apply below_alloc | apply pw_below_drewN | apply below_drew1) | exact HB.out))) : w.heap.size ≤ gb125)); clear HB; have HB := n0_; have BK125 := n1_; have GW125 := n2_; have GE125 := n3_; clear n0_ n1_ n2_ n3_; clear hb hbox hg; obtain ⟨hcz7_0, hcz7_1, hcz7_2⟩ := cel3 BK125.out; obtain ⟨hfz7_0, hfz7_1, hfz7_2⟩ := frz3 BK125.out))
     refine bodyPost_ret (results_ct rfl _ _ gb125 25 #[.int .i64 0, .int .i64 0, .int .i64 0] (0, 0) _ rfl (by (with_reducible repeat (first | refine blk_drewN ?_ _ | refine blk_drew ?_ | refine blk_alloc ?_ _)); refine blk_put (cs := #[.int .i64 0, .int .i64 0, .int .i64 0]) ?_ 2 _ rfl; (with_reducible repeat (first | refine blk_drewN ?_ _ | refine blk_drew ?_ | refine blk_alloc ?_ _)); refine blk_put (cs := #[.int .i64 0, .int .i64 0, .int .i64 0]) ?_ 1 _ rfl; (with_reducible repeat (first | refine blk_drewN ?_ _ | refine blk_drew ?_ | refine blk_alloc ?_ _)); refine blk_put (cs := #[.int .i64 0, .int .i64 0, .int .i64 0]) ?_ 0 _ rfl; (with_reducible repeat (first | refine blk_drewN ?_ _ | refine blk_drew ?_ | refine blk_alloc ?_ _)); exact BK125.out) Try.underlying25 rfl (by kernel_rfl)) rfl ?_
     exact ⟨by first | rfl | (simp [errW_none, errW_some] <;> rfl) | (simp [*, errW_none, errW_some] <;> rfl), by repeat (first | (with_reducible first | exact HB.out | apply below_alloc | apply pw_below_drewN | apply below_drew1 | refine below_set ?_ GE125.out) | exact HB.out)⟩
   · rw [if_neg c5] at H
     have c5b0 : decide (449999 < a0) = false := decide_eq_false c5
     clear c5
     simp only [Option.some.injEq, Prod.mk.injEq] at H
     obtain ⟨rfl, rfl, rfl, rfl⟩ := H
     go_enter Try.func70, Try.ntmps70
     go_wp2_with (first | ((with_reducible refine gate_dst (N := 2) rfl ?_); refine box_event ?hg (N := 2) ?hd (cs := #[.int .i64 0, .int .i64 0, .int .i64 0]) (t := 25) ?hr ?_; (case hd => rfl); (case hg => rfl); (case hr => first | (go_simp; done) | (go_simp; rfl)); intro gb125 hg w8 hbox hb; have n0_ := Aside0.mk (below_step (by repeat (first | (with_reducible first | exact HB.out | apply below_alloc | apply pw_below_drewN | apply below_drew1) | exact HB.out)) hb); have n1_ := Aside0.mk (hbox); have n2_ := Aside0.mk ((by rw [hg]; exact (below_size (by repeat (first | (with_reducible first | exact HB.out | apply below_alloc | apply pw_below_drewN | apply below_drew1) | exact HB.out))) : w.heap.size ≤ gb125)); have n3_ := Aside0.mk ((by rw [hg]; exact (below_size (by repeat (first | (with_reducible first | exact HB.out | apply below_alloc | apply pw_below_drewN | apply below_drew1) | exact HB.out))) : w.heap.size ≤ gb125)); clear HB; have HB := n0_; have BK125 := n1_; have GW125 := n2_; have GE125 := n3_; clear n0_ n1_ n2_ n3_; clear hb hbox hg; obtain ⟨hcz9_0, hcz9_1, hcz9_2⟩ := cel3 BK125.out; obtain ⟨hfz9_0, hfz9_1, hfz9_2⟩ := frz3 BK125.out))
     refine bodyPost_ret (results_ct rfl _ _ gb125 25 #[.int .i64 (wrap64 (Int.tdiv (wrap64 (Int.tdiv a0 75)) 60)), .int .i64 (Int.tmod (wrap64 (Int.tdiv a0 75)) 60), .int .i64 (Int.tmod a0 75)] (0, 0) _ rfl (by (with_reducible repeat (first | refine blk_drewN ?_ _ | refine blk_drew ?_ | refine blk_alloc ?_ _)); refine blk_put (cs := #[.int .i64 (wrap64 (Int.tdiv (wrap64 (Int.tdiv a0 75)) 60)), .int .i64 (Int.tmod (wrap64 (Int.tdiv a0 75)) 60), .int .i64 0]) ?_ 2 _ rfl; (with_reducible repeat (first | refine blk_drewN ?_ _ | refine blk_drew ?_ | refine blk_alloc ?_ _)); refine blk_put (cs := #[.int .i64 (wrap64 (Int.tdiv (wrap64 (Int.tdiv a0 75)) 60)), .int .i64 0, .int .i64 0]) ?_ 1 _ rfl; (with_reducible repeat (first | refine blk_drewN ?_ _ | refine blk_drew ?_ | refine blk_alloc ?_ _)); refine blk_put (cs := #[.int .i64 0, .int .i64 0, .int .i64 0]) ?_ 0 _ rfl; (with_reducible repeat (first | refine blk_drewN ?_ _ | refine blk_drew ?_ | refine blk_alloc ?_ _)); exact BK125.out) Try.underlying25 rfl (by kernel_rfl)) rfl ?_
     exact ⟨by first | rfl | (simp [errW_none, errW_some] <;> rfl) | (simp [*, errW_none, errW_some] <;> rfl), by repeat (first | (with_reducible first | exact HB.out | apply below_alloc | apply pw_below_drewN | apply below_drew1 | refine below_set ?_ GE125.out) | exact HB.out)⟩
end Go.Proofs.Ytpmkibggmkibeaa.G
namespace Go.Proofs.Ytpmkibggmkibeaa.G
open Go.RowKit Go.Proofs.YtpmkibggmkibeaaW.PrintWords Go.Proofs.YtpmkibggmkibeaaW.PrintLast Go.Proofs.YtpmkibggmkibeaaW.PrintMore
attribute [local go_sem] max2_int min2_int max_two min_two max_three min_three max_four min_four   -- for this text's walks alone
set_option linter.unusedVariables false
set_option linter.unusedSimpArgs false
def address_ToMSF.f (a0 : Int) : Option (Int × Int × Int × Int) := if a0 > 449849 then (some (0, 0, 0, 2)) else ((address_numbered.f (wrap64 (a0 + 150))).bind fun bt127 => (if bt127.2.2.2 = true then (some (bt127.1, bt127.2.1, bt127.2.2.1, 0)) else (some (bt127.1, bt127.2.1, bt127.2.2.1, 2))))
set_option maxHeartbeats 8000000 in
set_option maxRecDepth 100000 in
theorem address_ToMSF.calls (a0 : Int) (r1 : Int) (r2 : Int) (r3 : Int) (r4 : Int) (w : World) (h : address_ToMSF.f a0 = some (r1, r2, r3, r4)) :
 Calls Try.prog 54 #[.int .i64 a0] w fun e w' => e = .returned (.tuple #[.agg #[.int .i64 r1, .int .i64 r2, .int .i64 r3], .int .i64 r4]) ∧ Below w.heap.size w w' := by
 have hu25 := Try.underlying25
 have HB := Aside0.mk (Below.refl w.heap.size w)
 have H : (if a0 > 449849 then (some (0, 0, 0, 2)) else ((address_numbered.f (wrap64 (a0 + 150))).bind fun bt127 => (if bt127.2.2.2 = true then (some (bt127.1, bt127.2.1, bt127.2.2.1, 0)) else (some (bt127.1, bt127.2.1, bt127.2.2.1, 2))))) = some (r1, r2, r3, r4) := h
 clear h
 by_cases c2 : a0 > 449849
 · rw [if_pos c2] at H
   have c2b0 : decide (449849 < a0) = true := decide_eq_true c2
   clear c2
   simp only [Option.some.injEq, Prod.mk.injEq] at H
   obtain ⟨rfl, rfl, rfl, rfl⟩ := H
   go_enter Try.func54, Try.ntmps54
   go_wp2_with (first | ((with_reducible refine gate_dst (N := 2) rfl ?_); refine box_event ?hg (N := 2) ?hd (cs := #[.int .i64 0, .int .i64 0, .int .i64 0]) (t := 25) ?hr ?_; (case hd => rfl); (case hg => rfl); (case hr => first | (go_simp; done) | (go_simp; rfl)); intro gb126 hg w3 hbox hb; have n0_ := Aside0.mk (below_step (by repeat (first | (with_reducible first | exact HB.out | apply below_alloc | apply pw_below_drewN | apply below_drew1) | exact HB.out)) hb); have n1_ := Aside0.mk (hbox); have n2_ := Aside0.mk ((by rw [hg]; exact (below_size (by repeat (first | (with_reducible first | exact HB.out | apply below_alloc | apply pw_below_drewN | apply below_drew1) | exact HB.out))) : w.heap.size ≤ gb126)); have n3_ := Aside0.mk ((by rw [hg]; exact (below_size (by repeat (first | (with_reducible first | exact HB.out | apply below_alloc | apply pw_below_drewN | apply below_drew1) | exact HB.out))) : w.heap.size ≤ gb126)); clear HB; have HB := n0_; have BK126 := n1_; have GW126 := n2_; have GE126 := n3_; clear n0_ n1_ n2_ n3_; clear hb hbox hg; obtain ⟨hcz4_0, hcz4_1, hcz4_2⟩ := cel3 BK126.out; obtain ⟨hfz4_0, hfz4_1, hfz4_2⟩ := frz3 BK126.out))
   refine bodyPost_ret (results_ct rfl _ _ gb126 25 #[.int .i64 0, .int .i64 0, .int .i64 0] (0, 0) _ rfl (by (with_reducible repeat (first | refine blk_drewN ?_ _ | refine blk_drew ?_ | refine blk_alloc ?_ _)); refine blk_put (cs := #[.int .i64 0, .int .i64 0, .int .i64 0]) ?_ 2 _ rfl; (with_reducible repeat (first | refine blk_drewN ?_ _ | refine blk_drew ?_ | refine blk_alloc ?_ _)); refine blk_put (cs := #[.int .i64 0, .int .i64 0, .int .i64 0]) ?_ 1 _ rfl; (with_reducible repeat (first | refine blk_drewN ?_ _ | refine blk_drew ?_ | refine blk_alloc ?_ _)); refine blk_put (cs := #[.int .i64 0, .int .i64 0, .int .i64 0]) ?_ 0 _ rfl; (with_reducible repeat (first | refine blk_drewN ?_ _ | refine blk_drew ?_ | refine blk_alloc ?_ _)); exact BK126.out) Try.underlying25 rfl (by kernel_rfl)) rfl ?_
   exact ⟨by first | rfl | (simp [errW_none, errW_some] <;> rfl) | (simp [*, errW_none, errW_some] <;> rfl), by repeat (first | (with_reducible first | exact HB.out | apply below_alloc | apply pw_below_drewN | apply below_drew1 | refine below_set ?_ GE126.out) | exact HB.out)⟩
 · rw [if_neg c2] at H
   have c2b0 : decide (449849 < a0) = false := decide_eq_false c2
   clear c2
   replace H := Option.bind_eq_some_iff.mp H
   obtain ⟨⟨t127, t128, t129, t130⟩, A50, H⟩ := H
   replace H : (if t130 = true then (some (t127, t128, t129, 0)) else (some (t127, t128, t129, 2))) = some (r1, r2, r3, r4) := H
   have A5 := Aside0.mk A50
   clear A50
   by_cases c6 : t130 = true
   · subst c6
     have H1 : (some (t127, t128, t129, 0)) = some (r1, r2, r3, r4) := by rw [if_pos rfl] at H; exact H
     clear H
     have H := H1
     clear H1
     simp only [Option.some.injEq, Prod.mk.injEq] at H
     obtain ⟨rfl, rfl, rfl, rfl⟩ := H
     go_enter Try.func54, Try.ntmps54
     go_wp2_with (first | ((with_reducible refine gate_dst (N := 2) rfl ?_); refine box_event ?hg (N := 2) ?hd (cs := #[.int .i64 0, .int .i64 0, .int .i64 0]) (t := 25) ?hr ?_; (case hd => rfl); (case hg => rfl); (case hr => first | (go_simp; done) | (go_simp; rfl)); intro gb126 hg w7 hbox hb; have n0_ := Aside0.mk (below_step (by repeat (first | (with_reducible first | exact HB.out | apply below_alloc | apply pw_below_drewN | apply below_drew1) | exact HB.out)) hb); have n1_ := Aside0.mk (hbox); have n2_ := Aside0.mk ((by rw [hg]; exact (below_size (by repeat (first | (with_reducible first | exact HB.out | apply below_alloc | apply pw_below_drewN | apply below_drew1) | exact HB.out))) : w.heap.size ≤ gb126)); have n3_ := Aside0.mk ((by rw [hg]; exact (below_size (by repeat (first | (with_reducible first | exact HB.out | apply below_alloc | apply pw_below_drewN | apply below_drew1) | exact HB.out))) : w.heap.size ≤ gb126)); clear HB; have HB := n0_; have BK126 := n1_; have GW126 := n2_; have GE126 := n3_; clear n0_ n1_ n2_ n3_; clear hb hbox hg) | ((with_reducible refine gate_callee (f := 70) rfl ?_); refine goesL_ (some 12) rfl rfl Try.func70 (by kernel_rfl) rfl #[.int .i64 (wrap64 (a0 + 150))] rfl (by (try simp only [List.map_toArray, List.map_cons, List.map_nil]); first | done | rfl | (simp only [List.length_drop, List.length_take]; rfl)) ?_; (with_reducible refine (address_numbered.calls (wrap64 (a0 + 150)) t127 t128 t129 true _ A5.out).mono ?_); rintro e w8 ⟨rfl, hb⟩; refine ⟨_, rfl, ?_⟩; have n0_ := Aside0.mk (blk_below (g := gb126) (o := .cells #[.int .i64 0, .int .i64 0, .int .i64 0] 25 (0, 0)) (by (with_reducible repeat (first | refine blk_drewN ?_ _ | refine blk_drew ?_ | refine blk_alloc ?_ _)); exact BK126.out) hb); have n1_ := Aside0.mk (below_step (by repeat (first | (with_reducible first | exact HB.out | apply below_alloc | apply pw_below_drewN | apply below_drew1 | refine below_set ?_ GE126.out) | exact HB.out)) hb); clear BK126; clear HB; have BK126 := n0_; have HB := n1_; clear n0_ n1_; (try clear hb); (try clear hb2); (try clear hk); (try clear hi)) | ((with_reducible refine gate_dst (N := 4) rfl ?_); refine box_event ?hg (N := 4) ?hd (cs := #[.int .i64 0, .int .i64 0, .int .i64 0]) (t := 25) ?hr ?_; (case hd => rfl); (case hg => rfl); (case hr => first | (go_simp; done) | (go_simp; rfl)); intro gb131 hg w9 hbox hb; have n0_ := Aside0.mk (blk_below (g := gb126) (o := .cells #[.int .i64 0, .int .i64 0, .int .i64 0] 25 (0, 0)) (by (with_reducible repeat (first | refine blk_drewN ?_ _ | refine blk_drew ?_ | refine blk_alloc ?_ _)); exact BK126.out) hb); have n1_ := Aside0.mk (below_step (by repeat (first | (with_reducible first | exact HB.out | apply below_alloc | apply pw_below_drewN | apply below_drew1 | refine below_set ?_ GE126.out) | exact HB.out)) hb); have n2_ := Aside0.mk (hbox); have n3_ := Aside0.mk ((by rw [hg]; exact (below_size (by repeat (first | (with_reducible first | exact HB.out | apply below_alloc | apply pw_below_drewN | apply below_drew1 | refine below_set ?_ GE126.out) | exact HB.out))) : w.heap.size ≤ gb131)); have n4_ := Aside0.mk ((by rw [hg]; exact (below_size (by repeat (first | (with_reducible first | exact HB.out | apply below_alloc | apply pw_below_drewN | apply below_drew1 | refine below_set ?_ GE126.out) | exact HB.out))) : w.heap.size ≤ gb131)); have n5_ := Aside0.mk ((by rw [hg]; exact Nat.ne_of_lt (blk_lt (g := gb126) (o := .cells #[.int .i64 0, .int .i64 0, .int .i64 0] 25 (0, 0)) (by (with_reducible repeat (first | refine blk_drewN ?_ _ | refine blk_drew ?_ | refine blk_alloc ?_ _)); exact BK126.out)) : gb126 ≠ gb131)); have n6_ := Aside0.mk ((by rw [hg]; exact Nat.ne_of_gt (blk_lt (g := gb126) (o := .cells #[.int .i64 0, .int .i64 0, .int .i64 0] 25 (0, 0)) (by (with_reducible repeat (first | refine blk_drewN ?_ _ | refine blk_drew ?_ | refine blk_alloc ?_ _)); exact BK126.out)) : gb131 ≠ gb126)); clear BK126; clear HB; have BK126 := n0_; have HB := n1_; have BK131 := n2_; have GW131 := n3_; have GE131 := n4_; have NB126_131 := n5_; have NB131_126 := n6_; clear n0_ n1_ n2_ n3_ n4_ n5_ n6_; clear hb hbox hg; have hnb10 := NB131_126.out; have hnc10 := NB126_131.out; obtain ⟨hcz11_0, hcz11_1, hcz11_2⟩ := cel3 BK131.out; obtain ⟨hfz11_0, hfz11_1, hfz11_2⟩ := frz3 BK131.out; obtain ⟨hcz12_0, hcz12_1, hcz12_2⟩ := cel3 BK126.out; obtain ⟨hfz12_0, hfz12_1, hfz12_2⟩ := frz3 BK126.out))
     refine bodyPost_ret (results_ct rfl _ _ gb126 25 #[.int .i64 t127, .int .i64 t128, .int .i64 t129] (0, 0) _ rfl (by (with_reducible repeat (first | refine blk_drewN ?_ _ | refine blk_drew ?_ | refine blk_alloc ?_ _)); refine blk_put (cs := #[.int .i64 t127, .int .i64 t128, .int .i64 0]) ?_ 2 _ rfl; (with_reducible repeat (first | refine blk_drewN ?_ _ | refine blk_drew ?_ | refine blk_alloc ?_ _)); refine blk_put (cs := #[.int .i64 t127, .int .i64 0, .int .i64 0]) ?_ 1 _ rfl; (with_reducible repeat (first | refine blk_drewN ?_ _ | refine blk_drew ?_ | refine blk_alloc ?_ _)); refine blk_put (cs := #[.int .i64 0, .int .i64 0, .int .i64 0]) ?_ 0 _ rfl; (with_reducible repeat (first | refine blk_drewN ?_ _ | refine blk_drew ?_ | refine blk_alloc ?_ _)); refine blk_far ?_ NB126_131.out _; (with_reducible repeat (first | refine blk_drewN ?_ _ | refine blk_drew ?_ | refine blk_alloc ?_ _)); refine blk_far ?_ NB126_131.out _; (with_reducible repeat (first | refine blk_drewN ?_ _ | refine blk_drew ?_ | refine blk_alloc ?_ _)); refine blk_far ?_ NB126_131.out _; (with_reducible repeat (first | refine blk_drewN ?_ _ | refine blk_drew ?_ | refine blk_alloc ?_ _)); exact BK126.out) Try.underlying25 rfl (by kernel_rfl)) rfl ?_
     exact ⟨by first | rfl | (simp [errW_none, errW_some] <;> rfl) | (simp [*, errW_none, errW_some] <;> rfl), by repeat (first | (with_reducible first | exact HB.out | apply below_alloc | apply pw_below_drewN | apply below_drew1 | refine below_set ?_ GE126.out | refine below_set ?_ GE131.out) | exact HB.out)⟩
   · replace c6 := Bool.eq_false_iff.mpr c6
     subst c6
     have H1 : (some (t127, t128, t129, 2)) = some (r1, r2, r3, r4) := by rw [if_neg (show ¬ (false = true) by decide)] at H; exact H
     clear H
     have H := H1
     clear H1
     simp only [Option.some.injEq, Prod.mk.injEq] at H
     obtain ⟨rfl, rfl, rfl, rfl⟩ := H
     go_enter Try.func54, Try.ntmps54
     go_wp2_with (first | ((with_reducible refine gate_dst (N := 2) rfl ?_); refine box_event ?hg (N := 2) ?hd (cs := #[.int .i64 0, .int .i64 0, .int .i64 0]) (t := 25) ?hr ?_; (case hd => rfl); (case hg => rfl); (case hr => first | (go_simp; done) | (go_simp; rfl)); intro gb126 hg w13 hbox hb; have n0_ := Aside0.mk (below_step (by repeat (first | (with_reducible first | exact HB.out | apply below_alloc | apply pw_below_drewN | apply below_drew1) | exact HB.out)) hb); have n1_ := Aside0.mk (hbox); have n2_ := Aside0.mk ((by rw [hg]; exact (below_size (by repeat (first | (with_reducible first | exact HB.out | apply below_alloc | apply pw_below_drewN | apply below_drew1) | exact HB.out))) : w.heap.size ≤ gb126)); have n3_ := Aside0.mk ((by rw [hg]; exact (below_size (by repeat (first | (with_reducible first | exact HB.out | apply below_alloc | apply pw_below_drewN | apply below_drew1) | exact HB.out))) : w.heap.size ≤ gb126)); clear HB; have HB := n0_; have BK126 := n1_; have GW126 := n2_; have GE126 := n3_; clear n0_ n1_ n2_ n3_; clear hb hbox hg) | ((with_reducible refine gate_callee (f := 70) rfl ?_); refine goesL_ (some 12) rfl rfl Try.func70 (by kernel_rfl) rfl #[.int .i64 (wrap64 (a0 + 150))] rfl (by (try simp only [List.map_toArray, List.map_cons, List.map_nil]); first | done | rfl | (simp only [List.length_drop, List.length_take]; rfl)) ?_; (with_reducible refine (address_numbered.calls (wrap64 (a0 + 150)) t127 t128 t129 false _ A5.out).mono ?_); rintro e w14 ⟨rfl, hb⟩; refine ⟨_, rfl, ?_⟩; have n0_ := Aside0.mk (blk_below (g := gb126) (o := .cells #[.int .i64 0, .int .i64 0, .int .i64 0] 25 (0, 0)) (by (with_reducible repeat (first | refine blk_drewN ?_ _ | refine blk_drew ?_ | refine blk_alloc ?_ _)); exact BK126.out) hb); have n1_ := Aside0.mk (below_step (by repeat (first | (with_reducible first | exact HB.out | apply below_alloc | apply pw_below_drewN | apply below_drew1 | refine below_set ?_ GE126.out) | exact HB.out)) hb); clear BK126; clear HB; have BK126 := n0_; have HB := n1_; clear n0_ n1_; (try clear hb); (try clear hb2); (try clear hk); (try clear hi)) | ((with_reducible refine gate_dst (N := 4) rfl ?_); refine box_event ?hg (N := 4) ?hd (cs := #[.int .i64 0, .int .i64 0, .int .i64 0]) (t := 25) ?hr ?_; (case hd => rfl); (case hg => rfl); (case hr => first | (go_simp; done) | (go_simp; rfl)); intro gb131 hg w15 hbox hb; have n0_ := Aside0.mk (blk_below (g := gb126) (o := .cells #[.int .i64 0, .int .i64 0, .int .i64 0] 25 (0, 0)) (by (with_reducible repeat (first | refine blk_drewN ?_ _ | refine blk_drew ?_ | refine blk_alloc ?_ _)); exact BK126.out) hb); have n1_ := Aside0.mk (below_step (by repeat (first | (with_reducible first | exact HB.out | apply below_alloc | apply pw_below_drewN | apply below_drew1 | refine below_set ?_ GE126.out) | exact HB.out)) hb); have n2_ := Aside0.mk (hbox); have n3_ := Aside0.mk ((by rw [hg]; exact (below_size (by repeat (first | (with_reducible first | exact HB.out | apply below_alloc | apply pw_below_drewN | apply below_drew1 | refine below_set ?_ GE126.out) | exact HB.out))) : w.heap.size ≤ gb131)); have n4_ := Aside0.mk ((by rw [hg]; exact (below_size (by repeat (first | (with_reducible first | exact HB.out | apply below_alloc | apply pw_below_drewN | apply below_drew1 | refine below_set ?_ GE126.out) | exact HB.out))) : w.heap.size ≤ gb131)); have n5_ := Aside0.mk ((by rw [hg]; exact Nat.ne_of_lt (blk_lt (g := gb126) (o := .cells #[.int .i64 0, .int .i64 0, .int .i64 0] 25 (0, 0)) (by (with_reducible repeat (first | refine blk_drewN ?_ _ | refine blk_drew ?_ | refine blk_alloc ?_ _)); exact BK126.out)) : gb126 ≠ gb131)); have n6_ := Aside0.mk ((by rw [hg]; exact Nat.ne_of_gt (blk_lt (g := gb126) (o := .cells #[.int .i64 0, .int .i64 0, .int .i64 0] 25 (0, 0)) (by (with_reducible repeat (first | refine blk_drewN ?_ _ | refine blk_drew ?_ | refine blk_alloc ?_ _)); exact BK126.out)) : gb131 ≠ gb126)); clear BK126; clear HB; have BK126 := n0_; have HB := n1_; have BK131 := n2_; have GW131 := n3_; have GE131 := n4_; have NB126_131 := n5_; have NB131_126 := n6_; clear n0_ n1_ n2_ n3_ n4_ n5_ n6_; clear hb hbox hg; have hnb16 := NB131_126.out; have hnc16 := NB126_131.out; obtain ⟨hcz17_0, hcz17_1, hcz17_2⟩ := cel3 BK131.out; obtain ⟨hfz17_0, hfz17_1, hfz17_2⟩ := frz3 BK131.out; obtain ⟨hcz18_0, hcz18_1, hcz18_2⟩ := cel3 BK126.out; obtain ⟨hfz18_0, hfz18_1, hfz18_2⟩ := frz3 BK126.out))
     refine bodyPost_ret (results_ct rfl _ _ gb126 25 #[.int .i64 t127, .int .i64 t128, .int .i64 t129] (0, 0) _ rfl (by (with_reducible repeat (first | refine blk_drewN ?_ _ | refine blk_drew ?_ | refine blk_alloc ?_ _)); refine blk_put (cs := #[.int .i64 t127, .int .i64 t128, .int .i64 0]) ?_ 2 _ rfl; (with_reducible repeat (first | refine blk_drewN ?_ _ | refine blk_drew ?_ | refine blk_alloc ?_ _)); refine blk_put (cs := #[.int .i64 t127, .int .i64 0, .int .i64 0]) ?_ 1 _ rfl; (with_reducible repeat (first | refine blk_drewN ?_ _ | refine blk_drew ?_ | refine blk_alloc ?_ _)); refine blk_put (cs := #[.int .i64 0, .int .i64 0, .int .i64 0]) ?_ 0 _ rfl; (with_reducible repeat (first | refine blk_drewN ?_ _ | refine blk_drew ?_ | refine blk_alloc ?_ _)); refine blk_far ?_ NB126_131.out _; (with_reducible repeat (first | refine blk_drewN ?_ _ | refine blk_drew ?_ | refine blk_alloc ?_ _)); refine blk_far ?_ NB126_131.out _; (with_reducible repeat (first | refine blk_drewN ?_ _ | refine blk_drew ?_ | refine blk_alloc ?_ _)); refine blk_far ?_ NB126_131.out _; (with_reducible repeat (first | refine blk_drewN ?_ _ | refine blk_drew ?_ | refine blk_alloc ?_ _)); exact BK126.out) Try.underlying25 rfl (by kernel_rfl)) rfl ?_
     exact ⟨by first | rfl | (simp [errW_none, errW_some] <;> rfl) | (simp [*, errW_none, errW_some] <;> rfl), by repeat (first | (with_reducible first | exact HB.out | apply below_alloc | apply pw_below_drewN | apply below_drew1 | refine below_set ?_ GE126.out | refine below_set ?_ GE131.out) | exact HB.out)⟩
end Go.Proofs.Ytpmkibggmkibeaa.G
namespace Go.Proofs.Ytpmkibggmkibeaa.G
open Go.RowKit Go.Proofs.YtpmkibggmkibeaaW.PrintWords Go.Proofs.YtpmkibggmkibeaaW.PrintLast Go.Proofs.YtpmkibggmkibeaaW.PrintMore
attribute [local go_sem] max2_int min2_int max_two min_two max_three min_three max_four min_four   -- for this text's walks alone
set_option linter.unusedVariables false
set_option linter.unusedSimpArgs false
def subchannel_msf.f (a0 : Int) : Option (Int × Int × Int) := (address_ToMSF.f a0).bind fun bt133 => (some (bt133.1, bt133.2.1, bt133.2.2.1))
set_option maxHeartbeats 8000000 in
set_option maxRecDepth 100000 in
theorem subchannel_msf.calls (a0 : Int) (r1 : Int) (r2 : Int) (r3 : Int) (w : World) (h : subchannel_msf.f a0 = some (r1, r2, r3)) :
 Calls Try.prog 27 #[.int .i64 a0] w fun e w' => e = .returned (.agg #[.int .i64 r1, .int .i64 r2, .int .i64 r3]) ∧ Below w.heap.size w w' := by
 have hu25 := Try.underlying25
 have HB := Aside0.mk (Below.refl w.heap.size w)
 have H : ((address_ToMSF.f a0).bind fun bt133 => (some (bt133.1, bt133.2.1, bt133.2.2.1))) = some (r1, r2, r3) := h
 clear h
 replace H := Option.bind_eq_some_iff.mp H
 obtain ⟨⟨t133, t134, t135, t136⟩, A20, H⟩ := H
 replace H : (some (t133, t134, t135)) = some (r1, r2, r3) := H
 have A2 := Aside0.mk A20
 clear A20
 simp only [Option.some.injEq, Prod.mk.injEq] at H
 obtain ⟨rfl, rfl, rfl⟩ := H
 go_enter Try.func27, Try.ntmps27
 go_wp2_with (first | ((with_reducible refine gate_dst (N := 2) rfl ?_); refine box_event ?hg (N := 2) ?hd (cs := #[.int .i64 0, .int .i64 0, .int .i64 0]) (t := 25) ?hr ?_; (case hd => rfl); (case hg => rfl); (case hr => first | (go_simp; done) | (go_simp; rfl)); intro gb132 hg w3 hbox hb; have n0_ := Aside0.mk (below_step (by repeat (first | (with_reducible first | exact HB.out | apply below_alloc | apply pw_below_drewN | apply below_drew1) | exact HB.out)) hb); have n1_ := Aside0.mk (hbox); have n2_ := Aside0.mk ((by rw [hg]; exact (below_size (by repeat (first | (with_reducible first | exact HB.out | apply below_alloc | apply pw_below_drewN | apply below_drew1) | exact HB.out))) : w.heap.size ≤ gb132)); have n3_ := Aside0.mk ((by rw [hg]; exact (below_size (by repeat (first | (with_reducible first | exact HB.out | apply below_alloc | apply pw_below_drewN | apply below_drew1) | exact HB.out))) : w.heap.size ≤ gb132)); clear HB; have HB := n0_; have BK132 := n1_; have GW132 := n2_; have GE132 := n3_; clear n0_ n1_ n2_ n3_; clear hb hbox hg) | ((with_reducible refine gate_callee (f := 54) rfl ?_); refine goesL_ (some 7) rfl rfl Try.func54 (by kernel_rfl) rfl #[.int .i64 a0] rfl (by (try simp only [List.map_toArray, List.map_cons, List.map_nil]); first | done | rfl | (simp only [List.length_drop, List.length_take]; rfl)) ?_; (with_reducible refine (address_ToMSF.calls a0 t133 t134 t135 t136 _ A2.out).mono ?_); rintro e w4 ⟨rfl, hb⟩; refine ⟨_, rfl, ?_⟩; have n0_ := Aside0.mk (blk_below (g := gb132) (o := .cells #[.int .i64 0, .int .i64 0, .int .i64 0] 25 (0, 0)) (by (with_reducible repeat (first | refine blk_drewN ?_ _ | refine blk_drew ?_ | refine blk_alloc ?_ _)); exact BK132.out) hb); have n1_ := Aside0.mk (below_step (by repeat (first | (with_reducible first | exact HB.out | apply below_alloc | apply pw_below_drewN | apply below_drew1 | refine below_set ?_ GE132.out) | exact HB.out)) hb); clear BK132; clear HB; have BK132 := n0_; have HB := n1_; clear n0_ n1_; (try clear hb); (try clear hb2); (try clear hk); (try clear hi)) | ((with_reducible refine gate_dst (N := 3) rfl ?_); refine box_event ?hg (N := 3) ?hd (cs := #[.int .i64 0, .int .i64 0, .int .i64 0]) (t := 25) ?hr ?_; (case hd => rfl); (case hg => rfl); (case hr => first | (go_simp; done) | (go_simp; rfl)); intro gb137 hg w5 hbox hb; have n0_ := Aside0.mk (blk_below (g := gb132) (o := .cells #[.int .i64 0, .int .i64 0, .int .i64 0] 25 (0, 0)) (by (with_reducible repeat (first | refine blk_drewN ?_ _ | refine blk_drew ?_ | refine blk_alloc ?_ _)); exact BK132.out) hb); have n1_ := Aside0.mk (below_step (by repeat (first | (with_reducible first | exact HB.out | apply below_alloc | apply pw_below_drewN | apply below_drew1 | refine below_set ?_ GE132.out) | exact HB.out)) hb); have n2_ := Aside0.mk (hbox); have n3_ := Aside0.mk ((by rw [hg]; exact (below_size (by repeat (first | (with_reducible first | exact HB.out | apply below_alloc | apply pw_below_drewN | apply below_drew1 | refine below_set ?_ GE132.out) | exact HB.out))) : w.heap.size ≤ gb137)); have n4_ := Aside0.mk ((by rw [hg]; exact (below_size (by repeat (first | (with_reducible first | exact HB.out | apply below_alloc | apply pw_below_drewN | apply below_drew1 | refine below_set ?_ GE132.out) | exact HB.out))) : w.heap.size ≤ gb137)); have n5_ := Aside0.mk ((by rw [hg]; exact Nat.ne_of_lt (blk_lt (g := gb132) (o := .cells #[.int .i64 0, .int .i64 0, .int .i64 0] 25 (0, 0)) (by (with_reducible repeat (first | refine blk_drewN ?_ _ | refine blk_drew ?_ | refine blk_alloc ?_ _)); exact BK132.out)) : gb132 ≠ gb137)); have n6_ := Aside0.mk ((by rw [hg]; exact Nat.ne_of_gt (blk_lt (g := gb132) (o := .cells #[.int .i64 0, .int .i64 0, .int .i64 0] 25 (0, 0)) (by (with_reducible repeat (first | refine blk_drewN ?_ _ | refine blk_drew ?_ | refine blk_alloc ?_ _)); exact BK132.out)) : gb137 ≠ gb132)); clear BK132; clear HB; have BK132 := n0_; have HB := n1_; have BK137 := n2_; have GW137 := n3_; have GE137 := n4_; have NB132_137 := n5_; have NB137_132 := n6_; clear n0_ n1_ n2_ n3_ n4_ n5_ n6_; clear hb hbox hg; have hnb6 := NB137_132.out; have hnc6 := NB132_137.out; obtain ⟨hcz7_0, hcz7_1, hcz7_2⟩ := cel3 BK137.out; obtain ⟨hfz7_0, hfz7_1, hfz7_2⟩ := frz3 BK137.out; obtain ⟨hcz8_0, hcz8_1, hcz8_2⟩ := cel3 BK132.out; obtain ⟨hfz8_0, hfz8_1, hfz8_2⟩ := frz3 BK132.out))
 refine bodyPost_ret (results_cell_row rfl _ _ gb132 25 #[.int .i64 t133, .int .i64 t134, .int .i64 t135] (0, 0) _ rfl (by (with_reducible repeat (first | refine blk_drewN ?_ _ | refine blk_drew ?_ | refine blk_alloc ?_ _)); refine blk_put (cs := #[.int .i64 t133, .int .i64 t134, .int .i64 0]) ?_ 2 _ rfl; (with_reducible repeat (first | refine blk_drewN ?_ _ | refine blk_drew ?_ | refine blk_alloc ?_ _)); refine blk_put (cs := #[.int .i64 t133, .int .i64 0, .int .i64 0]) ?_ 1 _ rfl; (with_reducible repeat (first | refine blk_drewN ?_ _ | refine blk_drew ?_ | refine blk_alloc ?_ _)); refine blk_put (cs := #[.int .i64 0, .int .i64 0, .int .i64 0]) ?_ 0 _ rfl; (with_reducible repeat (first | refine blk_drewN ?_ _ | refine blk_drew ?_ | refine blk_alloc ?_ _)); refine blk_far ?_ NB132_137.out _; (with_reducible repeat (first | refine blk_drewN ?_ _ | refine blk_drew ?_ | refine blk_alloc ?_ _)); refine blk_far ?_ NB132_137.out _; (with_reducible repeat (first | refine blk_drewN ?_ _ | refine blk_drew ?_ | refine blk_alloc ?_ _)); refine blk_far ?_ NB132_137.out _; (with_reducible repeat (first | refine blk_drewN ?_ _ | refine blk_drew ?_ | refine blk_alloc ?_ _)); exact BK132.out) Try.underlying25 rfl (by kernel_rfl)) rfl ?_
 exact ⟨by first | rfl | (simp [errW_none, errW_some] <;> rfl) | (simp [*, errW_none, errW_some] <;> rfl), by repeat (first | (with_reducible first | exact HB.out | apply below_alloc | apply pw_below_drewN | apply below_drew1 | refine below_set ?_ GE132.out | refine below_set ?_ GE137.out) | exact HB.out)⟩
end Go.Proofs.Ytpmkibggmkibeaa.G
namespace Go.Proofs.Ytpmkibggmkibeaa.G
open Go.RowKit Go.Proofs.YtpmkibggmkibeaaW.PrintWords Go.Proofs.YtpmkibggmkibeaaW.PrintLast Go.Proofs.YtpmkibggmkibeaaW.PrintMore
theorem ite_iff {p q : Prop} [Decidable p] [Decidable q] {α : Type} {a b : α} (h : p ↔ q) : (if p then a else b) = if q then a else b := by
 by_cases hp : p
 · rw [if_pos hp, if_pos (h.1 hp)]
 · rw [if_neg hp, if_neg (fun hq => hp (h.2 hq))]
theorem between_yes {a b c : Int} (h1 : b ≤ a) (h2 : a ≤ c) : subchannel_between.f a b c = some true := by
 unfold subchannel_between.f
 rw [if_pos (by omega), decide_eq_true h2]
theorem between_no {a b c : Int} (h : ¬ (b ≤ a ∧ a ≤ c)) : subchannel_between.f a b c = some false := by
 unfold subchannel_between.f
 by_cases h1 : a ≥ b
 · rw [if_pos h1, decide_eq_false (by omega)]
 · rw [if_neg h1]
theorem between_dec (a b c : Int) : subchannel_between.f a b c = some (decide (b ≤ a ∧ a ≤ c)) := by
 by_cases h : b ≤ a ∧ a ≤ c
 · rw [between_yes h.1 h.2, decide_eq_true h]
 · rw [between_no h, decide_eq_false h]
theorem end_plain {x0 x1 x2 x3 x4 x5 x6 : Int} (h2 : 0 ≤ x2) (h22 : x2 ≤ 449849) (h3 : 0 ≤ x3) (h33 : x3 ≤ 449849) : subchannel_end.f x0 x1 x2 x3 x4 x5 x6 = some (x2 + x3) := by
 unfold subchannel_end.f
 rw [show wrap64 (x2 + x3) = x2 + x3 by unfold wrap64; omega]
theorem session_round (k : Nat) (l : List (S53)) (last : Int) (i : Nat) (hi : i < l.length) (hl : l.length ≤ 99) (hl0 : 0 ≤ last) (hl1 : last ≤ 449849) (hp : 0 < i → 1 ≤ (rd_T53 l ((i : Int) - 1)).f0 ∧ (rd_T53 l ((i : Int) - 1)).f0 ≤ 99) :
 subchannel_session.l0 (k + 2) l last l (l.length : Int) (i : Int) = if sesOk l i last = true then subchannel_session.l0 k l ((rd_T53 l (i : Int)).f2 + (rd_T53 l (i : Int)).f3) l (l.length : Int) ((i + 1 : Nat) : Int) else some false := by
 unfold sesOk
 rw [subchannel_session.l0.eq_def]
 dsimp only
 generalize rd_T53 l (i : Int) = x at *
 obtain ⟨x0, x1, x2, x3, x4, x5, x6⟩ := x
 dsimp only
 have w1 : wrap64 ((i : Int) + 1) = ((i + 1 : Nat) : Int) := by unfold wrap64; omega
 have jt : ∀ y0 y1 y2 y3 y4 y5 y6, subchannel_session.j2 (k + 1) l l (l.length : Int) (i : Int) true y0 y1 y2 y3 y4 y5 y6 = some false := fun y0 y1 y2 y3 y4 y5 y6 => by simp only [subchannel_session.j2]; rw [if_pos trivial]
 rw [if_pos (by omega), if_pos (by omega), if_pos (by omega), between_dec]
 simp only [Option.bind_some]
 by_cases a1 : 1 ≤ x0 ∧ x0 ≤ 99
 case neg =>
  rw [decide_eq_false a1, if_neg (by decide), jt, if_neg (by simp only [decide_eq_true_eq]; omega)]
 rw [decide_eq_true a1, if_pos rfl]
 have tail : ((subchannel_between.f x2 last 449849).bind fun t => if t = true then ((subchannel_between.f x3 1 449849).bind fun t => if t = true then ((subchannel_end.f x0 x1 x2 x3 x4 x5 x6).bind fun t => subchannel_session.j2 (k + 1) l l (l.length : Int) (i : Int) (decide (t > 449849)) x0 x1 x2 x3 x4 x5 x6) else subchannel_session.j2 (k + 1) l l (l.length : Int) (i : Int) true x0 x1 x2 x3 x4 x5 x6) else subchannel_session.j2 (k + 1) l l (l.length : Int) (i : Int) true x0 x1 x2 x3 x4 x5 x6) = if last ≤ x2 ∧ x2 ≤ 449849 ∧ 1 ≤ x3 ∧ x3 ≤ 449849 ∧ x2 + x3 ≤ 449849 then subchannel_session.l0 k l (x2 + x3) l (l.length : Int) ((i + 1 : Nat) : Int) else some false := by
  rw [between_dec, between_dec]
  simp only [Option.bind_some]
  by_cases a3 : last ≤ x2 ∧ x2 ≤ 449849
  case neg => rw [decide_eq_false a3, if_neg (by decide), jt, if_neg (by omega)]
  rw [decide_eq_true a3, if_pos rfl]
  by_cases a4 : 1 ≤ x3 ∧ x3 ≤ 449849
  case neg => rw [decide_eq_false a4, if_neg (by decide), jt, if_neg (by omega)]
  rw [decide_eq_true a4, if_pos rfl, end_plain (by omega) (by omega) (by omega) (by omega)]
  simp only [Option.bind_some]
  by_cases a5 : x2 + x3 > 449849
  · rw [decide_eq_true a5, jt, if_neg (by omega)]
  · rw [decide_eq_false a5, if_pos (by omega)]
    simp only [subchannel_session.j2]
    rw [if_neg (by decide), end_plain (by omega) (by omega) (by omega) (by omega)]
    simp only [Option.bind_some]
    rw [w1]
 by_cases i0 : (i : Int) > 0
 · have w2 : wrap64 ((i : Int) - 1) = (i : Int) - 1 := by unfold wrap64; omega
   rw [if_pos i0, w2, if_pos (by omega), if_pos (by omega)]
   have hp2 := hp (by omega)
   generalize rd_T53 l ((i : Int) - 1) = y at *
   obtain ⟨y0, y1, y2, y3, y4, y5, y6⟩ := y
   dsimp only at *
   have w3 : wrap64 (y0 + 1) = y0 + 1 := by unfold wrap64; omega
   rw [w3]
   by_cases a2 : x0 = y0 + 1
   case neg => rw [if_neg a2, jt, if_neg (by simp only [decide_eq_true_eq]; rintro ⟨-, -, h, -⟩; exact a2 (h (by omega)))]
   rw [if_pos a2, tail]
   refine ite_iff ?_
   simp only [decide_eq_true_eq]
   constructor
   · rintro ⟨h1, h2, h3, h4, h5⟩; exact ⟨a1.1, a1.2, fun _ => a2, h1, h2, h3, h4, h5⟩
   · rintro ⟨-, -, -, h1, h2, h3, h4, h5⟩; exact ⟨h1, h2, h3, h4, h5⟩
 · rw [if_neg i0, tail]
   refine ite_iff ?_
   simp only [decide_eq_true_eq]
   constructor
   · rintro ⟨h1, h2, h3, h4, h5⟩; exact ⟨a1.1, a1.2, fun h => absurd h (by omega), h1, h2, h3, h4, h5⟩
   · rintro ⟨-, -, -, h1, h2, h3, h4, h5⟩; exact ⟨h1, h2, h3, h4, h5⟩
theorem session_rounds (l : List (S53)) (hl : l.length ≤ 99) (d : Nat) : ∀ (k i : Nat) (last : Int), l.length - i = d → i ≤ l.length → 2 * d < k → 0 ≤ last → last ≤ 449849 → (0 < i → 1 ≤ (rd_T53 l ((i : Int) - 1)).f0 ∧ (rd_T53 l ((i : Int) - 1)).f0 ≤ 99) →
 subchannel_session.l0 k l last l (l.length : Int) (i : Int) = some (sesGo l d i last) := by
 induction d with
 | zero =>
  intro k i last hd hi hk h0 h1 hp
  obtain ⟨k, rfl⟩ : ∃ m, k = m + 1 := ⟨k - 1, by omega⟩
  rw [subchannel_session.l0.eq_def]
  dsimp only
  rw [if_neg (by omega)]
  rfl
 | succ d ih =>
  intro k i last hd hi hk h0 h1 hp
  obtain ⟨k, rfl⟩ : ∃ m, k = m + 2 := ⟨k - 2, by omega⟩
  rw [session_round k l last i (by omega) hl h0 h1 hp]
  cases ho : sesOk l i last with
  | false => rw [if_neg (by decide)]; simp only [sesGo, ho, Bool.false_and]
  | true =>
   have hs := ho
   simp only [sesOk, decide_eq_true_eq] at hs
   rw [if_pos rfl, ih k (i + 1) _ (by omega) (by omega) (by omega) (by omega) (by omega) (fun _ => by rw [show (((i + 1 : Nat) : Int) - 1) = (i : Int) by omega]; exact ⟨hs.1, hs.2.1⟩)]
   simp only [sesGo, ho, Bool.true_and]
theorem session_plain (l : List (S53)) : subchannel_session.f (2 * l.length + 5) l = some (sesB l) := by
 unfold subchannel_session.f sesB
 have jt : subchannel_session.j0 (2 * l.length + 5) l true = some false := by simp only [subchannel_session.j0]; rw [if_pos trivial]
 by_cases h1 : (l.length : Int) < 1
 · rw [if_pos h1, jt, decide_eq_false (by omega), Bool.false_and]
 · rw [if_neg h1]
   by_cases h2 : (l.length : Int) > 99
   · rw [decide_eq_true h2, jt, decide_eq_false (by omega), Bool.false_and]
   · rw [decide_eq_false h2, decide_eq_true (by omega), Bool.true_and]
     simp only [subchannel_session.j0]
     rw [if_neg (by decide)]
     exact session_rounds l (by omega) l.length _ 0 0 (by omega) (by omega) (by omega) (by omega) (by omega) (fun h => absurd h (by omega))
def msfM (n : Int) : Int := (n + 150) / 75 / 60
def msfS (n : Int) : Int := (n + 150) / 75 % 60
def msfF (n : Int) : Int := (n + 150) % 75
theorem numbered_plain {n : Int} (h0 : 0 ≤ n) (h1 : n ≤ 449999) : address_numbered.f n = some (n / 75 / 60, n / 75 % 60, n % 75, true) := by
 unfold address_numbered.f
 rw [if_neg (by omega), if_neg (by omega)]
 have e1 : Int.tdiv n 75 = n / 75 := Int.tdiv_eq_ediv_of_nonneg h0
 have e2 : wrap64 (n / 75) = n / 75 := by unfold wrap64; omega
 have e3 : Int.tdiv (n / 75) 60 = n / 75 / 60 := Int.tdiv_eq_ediv_of_nonneg (by omega)
 have e4 : wrap64 (n / 75 / 60) = n / 75 / 60 := by unfold wrap64; omega
 have e5 : Int.tmod (n / 75) 60 = n / 75 % 60 := Int.tmod_eq_emod_of_nonneg (by omega)
 have e6 : Int.tmod n 75 = n % 75 := Int.tmod_eq_emod_of_nonneg h0
 rw [e1, e2, e3, e4, e5, e6]
theorem toMSF_plain {n : Int} (h0 : -150 ≤ n) (h1 : n ≤ 449849) : address_ToMSF.f n = some (msfM n, msfS n, msfF n, 0) := by
 unfold address_ToMSF.f msfM msfS msfF
 rw [if_neg (by omega), show wrap64 (n + 150) = n + 150 by unfold wrap64; omega, numbered_plain (by omega) (by omega)]
 simp only [Option.bind_some]
 rw [if_pos trivial]
theorem msf_plain {n : Int} (h0 : -150 ≤ n) (h1 : n ≤ 449849) : subchannel_msf.f n = some (msfM n, msfS n, msfF n) := by
 unfold subchannel_msf.f
 rw [toMSF_plain h0 h1]
 rfl
theorem session_any (A : Option Addr) (c : Nat) (l : List (S53)) (w : World) (hr : Kd.C k53 w A l.length l) (hc : l.length ≤ c) :
 Calls Try.prog 25 #[.slice A l.length c] w fun e w' => e = .returned (.bool (sesB l)) ∧ Below w.heap.size w w' :=
 subchannel_session.calls _ A c l (sesB l) w hr hc (session_plain l)
end Go.Proofs.Ytpmkibggmkibeaa.G
namespace Go.Proofs.Ytpmkibggmkibeaa.G
open Go.RowKit Go.Proofs.YtpmkibggmkibeaaW.PrintWords Go.Proofs.YtpmkibggmkibeaaW.PrintLast Go.Proofs.YtpmkibggmkibeaaW.PrintMore
attribute [local go_sem] max2_int min2_int max_two min_two max_three min_three max_four min_four   -- for this text's walks alone
set_option linter.unusedVariables false
set_option linter.unusedSimpArgs false
def subchannel_relative.f (a0 : Int) : Option (Int × Int × Int) := (subchannel_msf.f (wrap64 (a0 - 150))).bind fun bt180 => (some (bt180.1, bt180.2.1, bt180.2.2))
set_option maxHeartbeats 8000000 in
set_option maxRecDepth 100000 in
theorem subchannel_relative.calls (a0 : Int) (r1 : Int) (r2 : Int) (r3 : Int) (w : World) (h : subchannel_relative.f a0 = some (r1, r2, r3)) :
 Calls Try.prog 31 #[.int .i64 a0] w fun e w' => e = .returned (.agg #[.int .i64 r1, .int .i64 r2, .int .i64 r3]) ∧ Below w.heap.size w w' := by
 have hu25 := Try.underlying25
 have HB := Aside0.mk (Below.refl w.heap.size w)
 have H : ((subchannel_msf.f (wrap64 (a0 - 150))).bind fun bt180 => (some (bt180.1, bt180.2.1, bt180.2.2))) = some (r1, r2, r3) := h
 clear h
 replace H := Option.bind_eq_some_iff.mp H
 obtain ⟨⟨t180, t181, t182⟩, A20, H⟩ := H
 replace H : (some (t180, t181, t182)) = some (r1, r2, r3) := H
 have A2 := Aside0.mk A20
 clear A20
 simp only [Option.some.injEq, Prod.mk.injEq] at H
 obtain ⟨rfl, rfl, rfl⟩ := H
 go_enter Try.func31, Try.ntmps31
 go_wp2_with (first | ((with_reducible refine gate_dst (N := 2) rfl ?_); refine box_event ?hg (N := 2) ?hd (cs := #[.int .i64 0, .int .i64 0, .int .i64 0]) (t := 25) ?hr ?_; (case hd => rfl); (case hg => rfl); (case hr => first | (go_simp; done) | (go_simp; rfl)); intro gb179 hg w3 hbox hb; have n0_ := Aside0.mk (below_step (by repeat (first | (with_reducible first | exact HB.out | apply below_alloc | apply pw_below_drewN | apply below_drew1) | exact HB.out)) hb); have n1_ := Aside0.mk (hbox); have n2_ := Aside0.mk ((by rw [hg]; exact (below_size (by repeat (first | (with_reducible first | exact HB.out | apply below_alloc | apply pw_below_drewN | apply below_drew1) | exact HB.out))) : w.heap.size ≤ gb179)); have n3_ := Aside0.mk ((by rw [hg]; exact (below_size (by repeat (first | (with_reducible first | exact HB.out | apply below_alloc | apply pw_below_drewN | apply below_drew1) | exact HB.out))) : w.heap.size ≤ gb179)); clear HB; have HB := n0_; have BK179 := n1_; have GW179 := n2_; have GE179 := n3_; clear n0_ n1_ n2_ n3_; clear hb hbox hg) | ((with_reducible refine gate_callee (f := 27) rfl ?_); refine goesL_ (some 5) rfl rfl Try.func27 (by kernel_rfl) rfl #[.int .i64 (wrap64 (a0 - 150))] rfl (by (try simp only [List.map_toArray, List.map_cons, List.map_nil]); first | done | rfl | (simp only [List.length_drop, List.length_take]; rfl)) ?_; (with_reducible refine (subchannel_msf.calls (wrap64 (a0 - 150)) t180 t181 t182 _ A2.out).mono ?_); rintro e w4 ⟨rfl, hb⟩; refine ⟨_, rfl, ?_⟩; have n0_ := Aside0.mk (blk_below (g := gb179) (o := .cells #[.int .i64 0, .int .i64 0, .int .i64 0] 25 (0, 0)) (by (with_reducible repeat (first | refine blk_drewN ?_ _ | refine blk_drew ?_ | refine blk_alloc ?_ _)); exact BK179.out) hb); have n1_ := Aside0.mk (below_step (by repeat (first | (with_reducible first | exact HB.out | apply below_alloc | apply pw_below_drewN | apply below_drew1 | refine below_set ?_ GE179.out) | exact HB.out)) hb); clear BK179; clear HB; have BK179 := n0_; have HB := n1_; clear n0_ n1_; (try clear hb); (try clear hb2); (try clear hk); (try clear hi); obtain ⟨hcz5_0, hcz5_1, hcz5_2⟩ := cel3 BK179.out; obtain ⟨hfz5_0, hfz5_1, hfz5_2⟩ := frz3 BK179.out))
 refine bodyPost_ret (results_cell_row rfl _ _ gb179 25 #[.int .i64 t180, .int .i64 t181, .int .i64 t182] (0, 0) _ rfl (by (with_reducible repeat (first | refine blk_drewN ?_ _ | refine blk_drew ?_ | refine blk_alloc ?_ _)); refine blk_put (cs := #[.int .i64 t180, .int .i64 t181, .int .i64 0]) ?_ 2 _ rfl; (with_reducible repeat (first | refine blk_drewN ?_ _ | refine blk_drew ?_ | refine blk_alloc ?_ _)); refine blk_put (cs := #[.int .i64 t180, .int .i64 0, .int .i64 0]) ?_ 1 _ rfl; (with_reducible repeat (first | refine blk_drewN ?_ _ | refine blk_drew ?_ | refine blk_alloc ?_ _)); refine blk_put (cs := #[.int .i64 0, .int .i64 0, .int .i64 0]) ?_ 0 _ rfl; (with_reducible repeat (first | refine blk_drewN ?_ _ | refine blk_drew ?_ | refine blk_alloc ?_ _)); exact BK179.out) Try.underlying25 rfl (by kernel_rfl)) rfl ?_
 exact ⟨by first | rfl | (simp [errW_none, errW_some] <;> rfl) | (simp [*, errW_none, errW_some] <;> rfl), by repeat (first | (with_reducible first | exact HB.out | apply below_alloc | apply pw_below_drewN | apply below_drew1 | refine below_set ?_ GE179.out) | exact HB.out)⟩
end Go.Proofs.Ytpmkibggmkibeaa.G
namespace Go.Proofs.Ytpmkibggmkibeaa.G
open Go.RowKit Go.Proofs.YtpmkibggmkibeaaW.PrintWords Go.Proofs.YtpmkibggmkibeaaW.PrintLast Go.Proofs.YtpmkibggmkibeaaW.PrintMore
set_option linter.unusedVariables false
def headB (lba : Int) (t : S53) : Bool := decide (lba < wrap64 (t.f2 + t.f3))
set_option maxHeartbeats 400000 in
set_option maxRecDepth 100000 in
theorem program1 (lba : Int) (x : S53) (B : Nat) (w : World) (hc : w.heap[B]? = some (.cells #[.int .i64 lba] 3 (0, 0))) :
 Calls Try.prog 29 #[.agg #[.int .i64 x.f0, .int .i64 x.f1, .int .i64 x.f2, .int .i64 x.f3, .int .i64 x.f4, .int .i64 x.f5, .int .i64 x.f6], .pointer (some ⟨B, 0, none⟩)] w fun e w' => e = .returned (.bool (headB lba x)) ∧ Below w.heap.size w w' := by
 have hu := Try.underlying53
 obtain ⟨r, hr⟩ : ∃ r, wrap64 (x.f2 + x.f3) = r := ⟨_, rfl⟩
 have HE := fun W => Aside0.mk (subchannel_end.calls x.f0 x.f1 x.f2 x.f3 x.f4 x.f5 x.f6 r W (congrArg some hr))
 have hh : headB lba x = decide (lba < r) := by unfold headB; rw [hr]
 rw [hh]
 obtain ⟨x0, x1, x2, x3, x4, x5, x6⟩ := x
 clear hh hr
 dsimp only at HE ⊢
 have hB := below_one w (.cells #[.int .i64 x0, .int .i64 x1, .int .i64 x2, .int .i64 x3, .int .i64 x4, .int .i64 x5, .int .i64 x6] 53)
 have HB := Aside0.mk hB
 have hc1 := blk_alloc hc (.cells #[.int .i64 x0, .int .i64 x1, .int .i64 x2, .int .i64 x3, .int .i64 x4, .int .i64 x5, .int .i64 x6] 53)
 have hn1 := blk_new w (.cells #[.int .i64 x0, .int .i64 x1, .int .i64 x2, .int .i64 x3, .int .i64 x4, .int .i64 x5, .int .i64 x6] 53)
 have HC1 := Aside0.mk hc1
 have HN1 := Aside0.mk hn1
 clear hB hc1 hn1 hc
 go_enter Try.func29, Try.ntmps29
 go_wp2_with (fail)
 generalize w.alloc _ = W at HB HC1 HN1 ⊢
 obtain ⟨g, hg⟩ : ∃ g, w.heap.size = g := ⟨_, rfl⟩
 have hn1 := HN1.out
 rw [hg] at hn1 ⊢
 have hc1 : W.cell? ⟨B, 0, none⟩ = some (.int .i64 lba) := (blk_cell HC1.out 0).trans rfl
 have k0 : W.cell? ⟨g, 0, none⟩ = some (.int .i64 x0) := (blk_cell hn1 0).trans rfl
 have k1 : W.cell? ⟨g, 1, none⟩ = some (.int .i64 x1) := (blk_cell hn1 1).trans rfl
 have k2 : W.cell? ⟨g, 2, none⟩ = some (.int .i64 x2) := (blk_cell hn1 2).trans rfl
 have k3 : W.cell? ⟨g, 3, none⟩ = some (.int .i64 x3) := (blk_cell hn1 3).trans rfl
 have k4 : W.cell? ⟨g, 4, none⟩ = some (.int .i64 x4) := (blk_cell hn1 4).trans rfl
 have k5 : W.cell? ⟨g, 5, none⟩ = some (.int .i64 x5) := (blk_cell hn1 5).trans rfl
 have k6 : W.cell? ⟨g, 6, none⟩ = some (.int .i64 x6) := (blk_cell hn1 6).trans rfl
 clear hn1 HN1 hg
 go_region_with (first
  | (go_at_call 30; refine (HE _).out.mono ?_; rintro e w2 ⟨rfl, hb2⟩; have hc2 : w2.cell? ⟨B, 0, none⟩ = some (.int .i64 lba) := (blk_cell (blk_below (blk_drew HC1.out) hb2) 0).trans rfl; have HB2 := Aside0.mk (below_step (below_drew1 HB.out) hb2); clear hb2))
 all_goals go_wp2_with (fail)
 all_goals go_ret
 all_goals exact ⟨rfl, HB2.out⟩
theorem callFunc_29 (args : Array Value) (w : World) : (callFunc 29 args).run Try.prog w = .ok (.enter 29 args) w := by
 have hf := Try.func29
 exact enters_ hf (by kernel_rfl) rfl args w
theorem fnAt_head (lba : Int) (B : Nat) (w : World) (hc : w.heap[B]? = some (.cells #[.int .i64 lba] 3 (0, 0))) : FnAt (headB lba) 29 #[.pointer (some ⟨B, 0, none⟩)] w :=
 ⟨callFunc_29, fun x W hb => program1 lba x B W (blk_below hc hb)⟩
theorem relative_plain {n : Int} (h0 : 0 ≤ n) (h1 : n ≤ 449999) : subchannel_relative.f n = some (msfM (n - 150), msfS (n - 150), msfF (n - 150)) := by
 unfold subchannel_relative.f
 rw [show wrap64 (n - 150) = n - 150 by unfold wrap64; omega, msf_plain (by omega) (by omega)]
 rfl
def progI (l : List (S53)) (lba : Int) : Int := idxP (headB lba) l l.length 0
def lastE (l : List (S53)) : Int := (rd_T53 l ((l.length : Int) - 1)).f2 + (rd_T53 l ((l.length : Int) - 1)).f3
def relOf (c t p n m s f : Int) : Int × Int × Int × Int × Int × Int × Int × Int × Int × Int := (c, t, p, msfM (n - 150), msfS (n - 150), msfF (n - 150), m, s, f, 0)
def subchannel_Program.f (l : List (S53)) (a1 a2 : Int) : Option (Int × Int × Int × Int × Int × Int × Int × Int × Int × Int) :=
 if sesB l = true ∧ 0 ≤ a1 ∧ a1 ≤ 15 then
  if 0 ≤ a2 ∧ a2 ≤ 449849 then
   if progI l a2 < 0 then some (relOf a1 170 1 (a2 - lastE l) (msfM a2) (msfS a2) (msfF a2))
   else if a2 < (rd_T53 l (progI l a2)).f2 then some (relOf a1 (rd_T53 l (progI l a2)).f0 0 ((rd_T53 l (progI l a2)).f2 - a2) (msfM a2) (msfS a2) (msfF a2))
   else some (relOf a1 (rd_T53 l (progI l a2)).f0 1 (a2 - (rd_T53 l (progI l a2)).f2) (msfM a2) (msfS a2) (msfF a2))
  else some (0, 0, 0, 0, 0, 0, 0, 0, 0, 2)
 else some (0, 0, 0, 0, 0, 0, 0, 0, 0, 1)
set_option maxHeartbeats 400000 in
set_option maxRecDepth 100000 in
theorem program_no1 (A : Option Addr) (cp : Nat) (l : List (S53)) (a1 a2 : Int) (w : World) (hr : Kd.C k53 w A l.length l) (hc : l.length ≤ cp) (h : ¬ (sesB l = true ∧ 0 ≤ a1 ∧ a1 ≤ 15)) :
 Calls Try.prog 11 #[.slice A l.length cp, .int .i64 a1, .int .i64 a2] w fun e w' => e = .returned (.tuple #[.agg #[.int .i64 0, .int .i64 0, .int .i64 0, .int .i64 0, .int .i64 0, .int .i64 0, .int .i64 0, .int .i64 0, .int .i64 0], .int .i64 1]) ∧ Below w.heap.size w w' := by
 have hu := Try.underlying27
 cases hs : sesB l with
 | false =>
  have HS := fun W h1 => Aside0.mk (session_any A cp l W h1 hc)
  rw [hs] at HS
  have HR := Aside0.mk hr
  clear hr hc h hs
  go_enter Try.func11, Try.ntmps11
  go_wp2_with (fail)
  generalize hw0 : (w.alloc _).alloc _ = w0
  obtain ⟨hb0, hb1, hB⟩ := two_new hw0
  have HR0 := Aside0.mk (Kd.C_below HR.out hB)
  have HB0 := Aside0.mk hB
  have HQ0 := Aside0.mk hb1
  clear hw0 hb0 hb1 hB
  refine (HS _ HR0.out).out.mono ?_
  rintro e w2 ⟨rfl, hb2⟩
  have HB2 := Aside0.mk (below_step HB0.out hb2)
  have HQ2 := blk_below HQ0.out hb2
  clear hb2
  go_wp2_with (first | (refine wpList_store_row rfl 27 (.tmp 6) (.tmp 19) rfl (w.heap.size + 1) #[.int .i64 0, .int .i64 0, .int .i64 0, .int .i64 0, .int .i64 0, .int .i64 0, .int .i64 0, .int .i64 0, .int .i64 0] rfl rfl _ _ HQ2 (by kernel_rfl) rfl (by kernel_rfl) ?_))
  refine bodyPost_ret (results_ct rfl _ _ (w.heap.size + 1) 27 #[.int .i64 0, .int .i64 0, .int .i64 0, .int .i64 0, .int .i64 0, .int .i64 0, .int .i64 0, .int .i64 0, .int .i64 0] (0, 0) _ rfl (setRow_heap _ _ _ _ _ _ HQ2) hu rfl (by kernel_rfl)) rfl ?_
  exact ⟨rfl, below_setRow HB2.out (by omega) _⟩
 | true =>
  have hn : ¬ (0 ≤ a1 ∧ a1 ≤ 15) := fun h2 => h ⟨hs, h2⟩
  have HS := fun W h1 => Aside0.mk (session_any A cp l W h1 hc)
  rw [hs] at HS
  have HT := fun W => Aside0.mk (subchannel_between.calls a1 0 15 false W (between_no hn))
  have HR := Aside0.mk hr
  clear hr hc h hs hn
  go_enter Try.func11, Try.ntmps11
  go_wp2_with (fail)
  generalize hw0 : (w.alloc _).alloc _ = w0
  obtain ⟨hb0, hb1, hB⟩ := two_new hw0
  have HR0 := Aside0.mk (Kd.C_below HR.out hB)
  have HB0 := Aside0.mk hB
  have HQ0 := Aside0.mk hb1
  clear hw0 hb0 hb1 hB
  refine (HS _ HR0.out).out.mono ?_
  rintro e w2 ⟨rfl, hb2⟩
  have HB2 := Aside0.mk (below_step HB0.out hb2)
  have HQ2 := Aside0.mk (blk_below HQ0.out hb2)
  clear hb2
  go_wp2_with (fail)
  refine (HT _).out.mono ?_
  rintro e w3 ⟨rfl, hd⟩
  have HB3 := Aside0.mk (below_step HB2.out hd.below)
  have HQ3 := blk_below HQ2.out hd.below
  clear hd
  go_wp2_with (first | (refine wpList_store_row rfl 27 (.tmp 6) (.tmp 19) rfl (w.heap.size + 1) #[.int .i64 0, .int .i64 0, .int .i64 0, .int .i64 0, .int .i64 0, .int .i64 0, .int .i64 0, .int .i64 0, .int .i64 0] rfl rfl _ _ HQ3 (by kernel_rfl) rfl (by kernel_rfl) ?_))
  refine bodyPost_ret (results_ct rfl _ _ (w.heap.size + 1) 27 #[.int .i64 0, .int .i64 0, .int .i64 0, .int .i64 0, .int .i64 0, .int .i64 0, .int .i64 0, .int .i64 0, .int .i64 0] (0, 0) _ rfl (setRow_heap _ _ _ _ _ _ HQ3) hu rfl (by kernel_rfl)) rfl ?_
  exact ⟨rfl, below_setRow HB3.out (by omega) _⟩
theorem idxP_range (p : S53 → Bool) (l : List (S53)) (d : Nat) : ∀ i, l.length - i = d → i ≤ l.length → idxP p l d i = -1 ∨ ∃ j : Nat, idxP p l d i = (j : Int) ∧ i ≤ j ∧ j < l.length ∧ p (rd_T53 l (j : Int)) = true ∧ ∀ k : Nat, i ≤ k → k < j → p (rd_T53 l (k : Int)) = false := by
 induction d with
 | zero => intro i _ _; exact Or.inl rfl
 | succ d ih =>
  intro i hd hi
  simp only [idxP]
  cases hp : p (rd_T53 l (i : Int)) with
  | true =>
   rw [if_pos rfl]
   exact Or.inr ⟨i, rfl, Nat.le_refl _, by omega, hp, fun k h1 h2 => by omega⟩
  | false =>
   rw [if_neg (by decide)]
   rcases ih (i + 1) (by omega) (by omega) with h | ⟨j, h1, h2, h3, h4, h5⟩
   · exact Or.inl h
   · refine Or.inr ⟨j, h1, by omega, h3, h4, fun k k1 k2 => ?_⟩
     by_cases e : k = i
     · rw [e]; exact hp
     · exact h5 k (by omega) k2
theorem pg_keep {w W w2 : World} {b q r : Nat} {lba q0 q1 q2 q3 q4 q5 q6 q7 q8 : Int} (hb : Below W.heap.size W w2) (h1 : W.heap[b]? = some (.cells #[.int .i64 lba] 3 (0, 0))) (h2 : W.heap[q]? = some (.cells #[.int .i64 q0, .int .i64 q1, .int .i64 q2, .int .i64 q3, .int .i64 q4, .int .i64 q5, .int .i64 q6, .int .i64 q7, .int .i64 q8] 27 (0, 0))) (h3 : W.heap[r]? = some (.cells #[.int .i64 0, .int .i64 0, .int .i64 0, .int .i64 0, .int .i64 0, .int .i64 0, .int .i64 0, .int .i64 0, .int .i64 0] 27 (0, 0))) (h4 : Below w.heap.size w W) :
 w2.cell? ⟨b, 0, none⟩ = some (.int .i64 lba) ∧ (w2.cell? ⟨q, 0, none⟩ = some (.int .i64 q0) ∧ w2.cell? ⟨q, 1, none⟩ = some (.int .i64 q1) ∧ w2.cell? ⟨q, 2, none⟩ = some (.int .i64 q2) ∧ w2.cell? ⟨q, 3, none⟩ = some (.int .i64 q3) ∧ w2.cell? ⟨q, 4, none⟩ = some (.int .i64 q4) ∧ w2.cell? ⟨q, 5, none⟩ = some (.int .i64 q5) ∧ w2.cell? ⟨q, 6, none⟩ = some (.int .i64 q6) ∧ w2.cell? ⟨q, 7, none⟩ = some (.int .i64 q7) ∧ w2.cell? ⟨q, 8, none⟩ = some (.int .i64 q8)) ∧ (w2.frozen? ⟨q, 1, none⟩ = false ∧ w2.frozen? ⟨q, 2, none⟩ = false ∧ w2.frozen? ⟨q, 3, none⟩ = false ∧ w2.frozen? ⟨q, 4, none⟩ = false ∧ w2.frozen? ⟨q, 5, none⟩ = false) ∧ w2.heap[b]? = some (.cells #[.int .i64 lba] 3 (0, 0)) ∧ w2.heap[q]? = some (.cells #[.int .i64 q0, .int .i64 q1, .int .i64 q2, .int .i64 q3, .int .i64 q4, .int .i64 q5, .int .i64 q6, .int .i64 q7, .int .i64 q8] 27 (0, 0)) ∧ w2.heap[r]? = some (.cells #[.int .i64 0, .int .i64 0, .int .i64 0, .int .i64 0, .int .i64 0, .int .i64 0, .int .i64 0, .int .i64 0, .int .i64 0] 27 (0, 0)) ∧ Below w.heap.size w w2 :=
 ⟨(blk_cell (blk_below h1 hb) 0).trans rfl, ⟨(blk_cell (blk_below h2 hb) 0).trans rfl, (blk_cell (blk_below h2 hb) 1).trans rfl, (blk_cell (blk_below h2 hb) 2).trans rfl, (blk_cell (blk_below h2 hb) 3).trans rfl, (blk_cell (blk_below h2 hb) 4).trans rfl, (blk_cell (blk_below h2 hb) 5).trans rfl, (blk_cell (blk_below h2 hb) 6).trans rfl, (blk_cell (blk_below h2 hb) 7).trans rfl, (blk_cell (blk_below h2 hb) 8).trans rfl⟩, ⟨blk_frozen (blk_below h2 hb) 1, blk_frozen (blk_below h2 hb) 2, blk_frozen (blk_below h2 hb) 3, blk_frozen (blk_below h2 hb) 4, blk_frozen (blk_below h2 hb) 5⟩, blk_below h1 hb, blk_below h2 hb, blk_below h3 hb, below_step h4 hb⟩
set_option maxHeartbeats 400000 in
set_option maxRecDepth 100000 in
theorem program_no2 (A : Option Addr) (cp : Nat) (l : List (S53)) (a1 a2 : Int) (w : World) (hr : Kd.C k53 w A l.length l) (hc : l.length ≤ cp) (hs : sesB l = true) (h0 : 0 ≤ a1) (h15 : a1 ≤ 15) (hn : ¬ (0 ≤ a2 ∧ a2 ≤ 449849)) :
 Calls Try.prog 11 #[.slice A l.length cp, .int .i64 a1, .int .i64 a2] w fun e w' => e = .returned (.tuple #[.agg #[.int .i64 0, .int .i64 0, .int .i64 0, .int .i64 0, .int .i64 0, .int .i64 0, .int .i64 0, .int .i64 0, .int .i64 0], .int .i64 2]) ∧ Below w.heap.size w w' := by
 have hu := Try.underlying27
 have hu3 := Try.underlying25
 have hmf : ∀ (fn : Fn) (first cap : Array Value) (w : World), (Instr.makeFunc fn first cap).run Try.prog w = .ok (.func fn first cap) w := fun _ _ _ _ => rfl
 have HR := Aside0.mk hr
 have HS := fun W h1 => Aside0.mk (session_any A cp l W h1 hc)
 rw [hs] at HS
 have HT := fun W => Aside0.mk (subchannel_between.calls a1 0 15 true W (between_yes h0 h15))
 have HU := fun W => Aside0.mk (subchannel_between.calls a2 0 449849 false W (between_no hn))
 clear hr hc hs h0 h15 hn
 go_enter Try.func11, Try.ntmps11
 go_wp2_with (fail)
 generalize hw0 : (w.alloc _).alloc _ = w0
 obtain ⟨hb0, hb1, hB⟩ := two_new hw0
 have HR0 := Aside0.mk (Kd.C_below HR.out hB)
 have HB0 := Aside0.mk hB
 have HL0 := Aside0.mk hb0
 have HQ0 := Aside0.mk hb1
 clear hw0 hb0 hb1 hB
 refine (HS _ HR0.out).out.mono ?_
 rintro e w2 ⟨rfl, hb2⟩
 have HB2 := Aside0.mk (below_step HB0.out hb2)
 have HQ2 := Aside0.mk (blk_below HQ0.out hb2)
 have HL2 := Aside0.mk (blk_below HL0.out hb2)
 clear hb2 HB0 HQ0 HL0 HR0 HS
 go_wp2_with (fail)
 refine (HT _).out.mono ?_
 rintro e w3 ⟨rfl, hd⟩
 have HB3 := Aside0.mk (below_step HB2.out hd.below)
 have HQ3 := Aside0.mk (blk_below HQ2.out hd.below)
 have HL3 := Aside0.mk (blk_below HL2.out hd.below)
 have k0 : w3.cell? ⟨w.heap.size, 0, none⟩ = some (.int .i64 a2) := (blk_cell HL3.out 0).trans rfl
 clear hd HB2 HQ2 HL2 HT
 go_wp2_with (fail)
 refine (HU _).out.mono ?_
 rintro e w4 ⟨rfl, hd⟩
 have HB4 := Aside0.mk (below_step HB3.out hd.below)
 have HQ4 := Aside0.mk (blk_below HQ3.out hd.below)
 have HL4 := Aside0.mk (blk_below HL3.out hd.below)
 have k1 : w4.cell? ⟨w.heap.size, 0, none⟩ = some (.int .i64 a2) := (blk_cell HL4.out 0).trans rfl
 clear hd HB3 HQ3 HL3 HU k0
 have HQ5 := HQ4.out
 go_wp2_with (first | (refine wpList_store_row rfl 27 (.tmp 6) (.tmp 24) rfl (w.heap.size + 1) #[.int .i64 0, .int .i64 0, .int .i64 0, .int .i64 0, .int .i64 0, .int .i64 0, .int .i64 0, .int .i64 0, .int .i64 0] rfl rfl _ _ HQ5 (by kernel_rfl) rfl (by kernel_rfl) ?_))
 refine bodyPost_ret (results_ct rfl _ _ (w.heap.size + 1) 27 #[.int .i64 0, .int .i64 0, .int .i64 0, .int .i64 0, .int .i64 0, .int .i64 0, .int .i64 0, .int .i64 0, .int .i64 0] (0, 0) _ rfl (setRow_heap _ _ _ _ _ _ HQ5) hu rfl (by kernel_rfl)) rfl ?_
 exact ⟨rfl, below_setRow HB4.out (by omega) _⟩
set_option maxHeartbeats 1000000 in
set_option maxRecDepth 100000 in
theorem program_out (A : Option Addr) (cp : Nat) (l : List (S53)) (a1 a2 m s f m2 s2 u2 : Int) (w : World) (hr : Kd.C k53 w A l.length l) (hc : l.length ≤ cp) (hs : sesB l = true) (h0 : 0 ≤ a1) (h15 : a1 ≤ 15) (h2 : 0 ≤ a2) (h4 : a2 ≤ 449849) (hi : progI l a2 < 0) (hge : lastE l ≤ a2)
 (hm : subchannel_msf.f a2 = some (m, s, f)) (hm2 : subchannel_relative.f (a2 - lastE l) = some (m2, s2, u2)) :
 Calls Try.prog 11 #[.slice A l.length cp, .int .i64 a1, .int .i64 a2] w fun e w' => e = .returned (.tuple #[.agg #[.int .i64 a1, .int .i64 170, .int .i64 1, .int .i64 m2, .int .i64 s2, .int .i64 u2, .int .i64 m, .int .i64 s, .int .i64 f], .int .i64 0]) ∧ Below w.heap.size w w' := by
 have hu := Try.underlying27
 have hu3 := Try.underlying25
 have hmf : ∀ (fn : Fn) (first cap : Array Value) (w : World), (Instr.makeFunc fn first cap).run Try.prog w = .ok (.func fn first cap) w := fun _ _ _ _ => rfl
 have HR := Aside0.mk hr
 have HS := fun W h1 => Aside0.mk (session_any A cp l W h1 hc)
 rw [hs] at HS
 have HT := fun W => Aside0.mk (subchannel_between.calls a1 0 15 true W (between_yes h0 h15))
 have HU := fun W => Aside0.mk (subchannel_between.calls a2 0 449849 true W (between_yes h2 h4))
 have HM := fun W => Aside0.mk (subchannel_msf.calls a2 m s f W hm)
 have HM2 := fun W => Aside0.mk (subchannel_relative.calls (a2 - lastE l) m2 s2 u2 W hm2)
 obtain ⟨idx, hidx⟩ : ∃ idx, progI l a2 = idx := ⟨_, rfl⟩
 rw [hidx] at hi
 have HIDX := Aside0.mk hidx
 have HSES := Aside0.mk (ses_of hs)
 have hl1 : 1 ≤ l.length := HSES.out.one
 have hl9 : l.length ≤ 99 := HSES.out.most
 have HGE := Aside0.mk hge
 clear hr hc hs h0 h15 hm hm2 hidx hge
 go_enter Try.func11, Try.ntmps11
 go_wp2_with (fail)
 generalize hw0 : (w.alloc _).alloc _ = w0
 obtain ⟨hb0, hb1, hB⟩ := two_new hw0
 have HR0 := Aside0.mk (Kd.C_below HR.out hB)
 have HB0 := Aside0.mk hB
 have HL0 := Aside0.mk hb0
 have HQ0 := Aside0.mk hb1
 clear hw0 hb0 hb1 hB
 refine (HS _ HR0.out).out.mono ?_
 rintro e w2 ⟨rfl, hb2⟩
 have HB2 := Aside0.mk (below_step HB0.out hb2)
 have HQ2 := Aside0.mk (blk_below HQ0.out hb2)
 have HL2 := Aside0.mk (blk_below HL0.out hb2)
 clear hb2 HB0 HQ0 HL0 HR0 HS
 go_wp2_with (fail)
 refine (HT _).out.mono ?_
 rintro e w3 ⟨rfl, hd⟩
 have HB3 := Aside0.mk (below_step HB2.out hd.below)
 have HQ3 := Aside0.mk (blk_below HQ2.out hd.below)
 have HL3 := Aside0.mk (blk_below HL2.out hd.below)
 have k0 : w3.cell? ⟨w.heap.size, 0, none⟩ = some (.int .i64 a2) := (blk_cell HL3.out 0).trans rfl
 clear hd HB2 HQ2 HL2 HT
 go_wp2_with (fail)
 refine (HU _).out.mono ?_
 rintro e w4 ⟨rfl, hd⟩
 have HB4 := Aside0.mk (below_step HB3.out hd.below)
 have HQ4 := Aside0.mk (blk_below HQ3.out hd.below)
 have HL4 := Aside0.mk (blk_below HL3.out hd.below)
 have k1 : w4.cell? ⟨w.heap.size, 0, none⟩ = some (.int .i64 a2) := (blk_cell HL4.out 0).trans rfl
 clear hd HB3 HQ3 HL3 HU k0
 go_wp2_with (fail)
 refine (HM _).out.mono ?_
 rintro e w5 ⟨rfl, hb5⟩
 have HB5 := Aside0.mk (below_step HB4.out hb5)
 have HQ5 := Aside0.mk (blk_below HQ4.out hb5)
 have HL5 := Aside0.mk (blk_below HL4.out hb5)
 clear hb5 HB4 HQ4 HL4 HM k1
 go_wp2_with (fail)
 generalize hw6 : w5.alloc _ = w6
 have hB6 : Below w5.heap.size w5 w6 := by rw [← hw6]; exact below_one _ _
 obtain ⟨q, hq⟩ : ∃ q, w5.heap.size = q := ⟨_, rfl⟩
 have hbq : w6.heap[q]? = some (.cells #[.int .i64 a1, .int .i64 170, .int .i64 1, .int .i64 0, .int .i64 0, .int .i64 0, .int .i64 m, .int .i64 s, .int .i64 f] 27 (0, 0)) := by rw [← hw6, ← hq]; exact blk_new _ _
 rw [hq]
 have HGQ := Aside0.mk (show w.heap.size ≤ q by rw [← hq]; exact HB5.out.size)
 have HNQ := Aside0.mk (show w.heap.size + 1 ≠ q by have := blk_lt HQ5.out; omega)
 have HB6 := Aside0.mk (below_step HB5.out hB6)
 have HQ6 := Aside0.mk hbq
 have HZ6 := Aside0.mk (blk_below HQ5.out hB6)
 have HL6 := Aside0.mk (blk_below HL5.out hB6)
 clear hw6 hB6 hq hbq HB5 HQ5 HL5
 refine (indexFunc_any (headB a2) 29 #[.pointer (some ⟨w.heap.size, 0, none⟩)] A cp l w6 (Kd.C_below HR.out HB6.out) (fnAt_head a2 w.heap.size w6 HL6.out)).mono ?_
 rintro e w7 ⟨rfl, hb7⟩
 rw [show idxP (headB a2) l l.length 0 = idx from HIDX.out]
 obtain ⟨k0, ⟨c0, c1, c2, c3, c4, c5, c6, c7, c8⟩, ⟨f1, f2, f3, f4, f5⟩, hl7, hq7, hz7, hb77⟩ := pg_keep hb7 HL6.out HQ6.out HZ6.out HB6.out
 have HB7 := Aside0.mk hb77
 have HQ7 := Aside0.mk hq7
 have HZ7 := Aside0.mk hz7
 have HL7 := Aside0.mk hl7
 clear hb7 hb77 hq7 hz7 hl7 HB6 HQ6 HZ6 HL6
 have hz1 : (1 : Int) ≤ (l.length : Int) := by omega
 have hz2 : 0 ≤ (l.length : Int) - 1 := by omega
 have hz3 : (l.length : Int) - 1 < (l.length : Int) := by omega
 have hz4 : ((l.length : Int) - 1).toNat = l.length - 1 := by omega
 obtain ⟨ad, rfl, hx0, hx1, hx2, hx3, hx4, hx5, hx6⟩ := at_T53 (Kd.C_below HR.out HB7.out) ((l.length : Int) - 1) hz2 hz3
 rw [hz4] at hx0 hx1 hx2 hx3 hx4 hx5 hx6
 have hst := HSES.out.start (l.length - 1) (by omega)
 have hle := HSES.out.len (l.length - 1) (by omega)
 rw [show ((l.length - 1 : Nat) : Int) = (l.length : Int) - 1 by omega] at hst hle
 obtain ⟨eL, heL⟩ : ∃ e, lastE l = e := ⟨_, rfl⟩
 have he2 : (rd_T53 l ((l.length : Int) - 1)).f2 + (rd_T53 l ((l.length : Int) - 1)).f3 = eL := heL
 rw [heL] at HM2
 generalize rd_T53 l ((l.length : Int) - 1) = x at hx0 hx1 hx2 hx3 hx4 hx5 hx6 hst hle he2
 obtain ⟨x0, x1, x2, x3, x4, x5, x6⟩ := x
 dsimp only at hx0 hx1 hx2 hx3 hx4 hx5 hx6 hst hle he2
 have HE := fun W => Aside0.mk (subchannel_end.calls x0 x1 x2 x3 x4 x5 x6 eL W (by rw [end_plain hst.1 hst.2 (by have := hle.1; omega) hle.2.1, he2]))
 have hge0 : eL ≤ a2 := by rw [← heL]; exact HGE.out
 have hel0 : 0 ≤ eL := by have := hle.1; have := hst.1; omega
 have hzi5 : 1 ≤ l.length := hl1
 have hidb : decide (idx < 0) = true := decide_eq_true hi
 clear hst hle he2 heL
 go_wp2_with (fail)
 have hw1 : IntKind.i64.wrap ((l.length : Int) - 1) = (l.length : Int) - 1 := IntWalk.i64_in _ (by omega)
 have hw2 : IntKind.i64.wrap (a2 - eL) = a2 - eL := IntWalk.i64_in _ (by omega)
 go_region_with (first
  | (go_at_call 30; refine (HE _).out.mono ?_; rintro e v8 ⟨rfl, hb8⟩; obtain ⟨kk8, ⟨c80, c81, c82, c83, c84, c85, c86, c87, c88⟩, ⟨f81, f82, f83, f84, f85⟩, hl8, hq8, hz8, hbb8⟩ := pg_keep hb8 (blk_drew HL7.out) (blk_drew HQ7.out) (blk_drew HZ7.out) (below_drew1 HB7.out); have JL8 := Aside0.mk hl8; have JQ8 := Aside0.mk hq8; have JZ8 := Aside0.mk hz8; have JB8 := Aside0.mk hbb8; clear hb8 hl8 hq8 hz8 hbb8)
  | (go_at_call 31; refine (HM2 _).out.mono ?_; rintro e v9 ⟨rfl, hb9⟩; obtain ⟨kk9, ⟨c90, c91, c92, c93, c94, c95, c96, c97, c98⟩, ⟨f91, f92, f93, f94, f95⟩, hl9, hq9, hz9, hbb9⟩ := pg_keep hb9 JL8.out JQ8.out JZ8.out JB8.out; have JL9 := Aside0.mk hl9; have JQ9 := Aside0.mk hq9; have JZ9 := Aside0.mk hz9; have JB9 := Aside0.mk hbb9; clear hb9 hl9 hq9 hz9 hbb9))
 all_goals
  have HQF := Aside0.mk (blk_put (cs := #[.int .i64 a1, .int .i64 170, .int .i64 1, .int .i64 m2, .int .i64 s2, .int .i64 0, .int .i64 m, .int .i64 s, .int .i64 f]) (blk_put (cs := #[.int .i64 a1, .int .i64 170, .int .i64 1, .int .i64 m2, .int .i64 0, .int .i64 0, .int .i64 m, .int .i64 s, .int .i64 f]) (blk_put (cs := #[.int .i64 a1, .int .i64 170, .int .i64 1, .int .i64 0, .int .i64 0, .int .i64 0, .int .i64 m, .int .i64 s, .int .i64 f]) JQ9.out 3 (.int .i64 m2) rfl) 4 (.int .i64 s2) rfl) 5 (.int .i64 u2) rfl)
  have HZF := Aside0.mk (blk_far (p := ⟨q, 5, none⟩) (blk_far (p := ⟨q, 4, none⟩) (blk_far (p := ⟨q, 3, none⟩) JZ9.out HNQ.out (.int .i64 m2)) HNQ.out (.int .i64 s2)) HNQ.out (.int .i64 u2))
  go_wp2_with (first | (refine wpList_load_row rfl 27 (.tmp 8) rfl q rfl _ #[.int .i64 a1, .int .i64 170, .int .i64 1, .int .i64 m2, .int .i64 s2, .int .i64 u2, .int .i64 m, .int .i64 s, .int .i64 f] (0, 0) _ HQF.out hu rfl (by kernel_rfl) ?_) | (refine wpList_store_row rfl 27 (.tmp 6) (.tmp 85) rfl (w.heap.size + 1) #[.int .i64 a1, .int .i64 170, .int .i64 1, .int .i64 m2, .int .i64 s2, .int .i64 u2, .int .i64 m, .int .i64 s, .int .i64 f] rfl rfl _ _ HZF.out (by kernel_rfl) rfl (by kernel_rfl) ?_))
  refine bodyPost_ret (results_ct rfl _ _ (w.heap.size + 1) 27 #[.int .i64 a1, .int .i64 170, .int .i64 1, .int .i64 m2, .int .i64 s2, .int .i64 u2, .int .i64 m, .int .i64 s, .int .i64 f] (0, 0) _ rfl (setRow_heap _ _ _ _ _ _ HZF.out) hu rfl (by kernel_rfl)) rfl ?_
  exact ⟨rfl, below_setRow (below_set (j := 5) (v := .int .i64 u2) (below_set (j := 4) (v := .int .i64 s2) (below_set (j := 3) (v := .int .i64 m2) JB9.out HGQ.out) HGQ.out) HGQ.out) (by omega) _⟩
set_option maxHeartbeats 2000000 in
set_option maxRecDepth 100000 in
theorem program_gap (A : Option Addr) (cp : Nat) (l : List (S53)) (a1 a2 m s f m2 s2 u2 : Int) (j : Nat) (w : World) (hr : Kd.C k53 w A l.length l) (hc : l.length ≤ cp) (hs : sesB l = true) (h0 : 0 ≤ a1) (h15 : a1 ≤ 15) (h2 : 0 ≤ a2) (h4 : a2 ≤ 449849) (hi : progI l a2 = (j : Int)) (hj : j < l.length) (hcmp : a2 < (rd_T53 l (j : Int)).f2)
 (hm : subchannel_msf.f a2 = some (m, s, f)) (hm2 : subchannel_relative.f ((rd_T53 l (j : Int)).f2 - a2) = some (m2, s2, u2)) :
 Calls Try.prog 11 #[.slice A l.length cp, .int .i64 a1, .int .i64 a2] w fun e w' => e = .returned (.tuple #[.agg #[.int .i64 a1, .int .i64 (rd_T53 l (j : Int)).f0, .int .i64 0, .int .i64 m2, .int .i64 s2, .int .i64 u2, .int .i64 m, .int .i64 s, .int .i64 f], .int .i64 0]) ∧ Below w.heap.size w w' := by
 have hu := Try.underlying27
 have hu3 := Try.underlying25
 have hmf : ∀ (fn : Fn) (first cap : Array Value) (w : World), (Instr.makeFunc fn first cap).run Try.prog w = .ok (.func fn first cap) w := fun _ _ _ _ => rfl
 have HR := Aside0.mk hr
 have HS := fun W h1 => Aside0.mk (session_any A cp l W h1 hc)
 rw [hs] at HS
 have HT := fun W => Aside0.mk (subchannel_between.calls a1 0 15 true W (between_yes h0 h15))
 have HU := fun W => Aside0.mk (subchannel_between.calls a2 0 449849 true W (between_yes h2 h4))
 have HM := fun W => Aside0.mk (subchannel_msf.calls a2 m s f W hm)
 have HM2 := fun W => Aside0.mk (subchannel_relative.calls ((rd_T53 l (j : Int)).f2 - a2) m2 s2 u2 W hm2)
 obtain ⟨idx, hidx⟩ : ∃ idx : Int, (j : Int) = idx := ⟨_, rfl⟩
 have HIDX := Aside0.mk (show progI l a2 = (j : Int) from hi)
 have HSES := Aside0.mk (ses_of hs)
 have hst := HSES.out.start j hj
 have hl9 : l.length ≤ 99 := HSES.out.most
 obtain ⟨x, hx⟩ : ∃ x, x = rd_T53 l (j : Int) := ⟨_, rfl⟩
 rw [← hx] at hst hcmp HM2 ⊢
 obtain ⟨x0, x1, x2, x3, x4, x5, x6⟩ := x
 dsimp only at hst hcmp HM2 ⊢
 have HX := Aside0.mk hx
 clear hr hc hs h0 h15 hm hm2 hidx hi hx
 go_enter Try.func11, Try.ntmps11
 go_wp2_with (fail)
 generalize hw0 : (w.alloc _).alloc _ = w0
 obtain ⟨hb0, hb1, hB⟩ := two_new hw0
 have HR0 := Aside0.mk (Kd.C_below HR.out hB)
 have HB0 := Aside0.mk hB
 have HL0 := Aside0.mk hb0
 have HQ0 := Aside0.mk hb1
 clear hw0 hb0 hb1 hB
 refine (HS _ HR0.out).out.mono ?_
 rintro e w2 ⟨rfl, hb2⟩
 have HB2 := Aside0.mk (below_step HB0.out hb2)
 have HQ2 := Aside0.mk (blk_below HQ0.out hb2)
 have HL2 := Aside0.mk (blk_below HL0.out hb2)
 clear hb2 HB0 HQ0 HL0 HR0 HS
 go_wp2_with (fail)
 refine (HT _).out.mono ?_
 rintro e w3 ⟨rfl, hd⟩
 have HB3 := Aside0.mk (below_step HB2.out hd.below)
 have HQ3 := Aside0.mk (blk_below HQ2.out hd.below)
 have HL3 := Aside0.mk (blk_below HL2.out hd.below)
 have k0 : w3.cell? ⟨w.heap.size, 0, none⟩ = some (.int .i64 a2) := (blk_cell HL3.out 0).trans rfl
 clear hd HB2 HQ2 HL2 HT
 go_wp2_with (fail)
 refine (HU _).out.mono ?_
 rintro e w4 ⟨rfl, hd⟩
 have HB4 := Aside0.mk (below_step HB3.out hd.below)
 have HQ4 := Aside0.mk (blk_below HQ3.out hd.below)
 have HL4 := Aside0.mk (blk_below HL3.out hd.below)
 have k1 : w4.cell? ⟨w.heap.size, 0, none⟩ = some (.int .i64 a2) := (blk_cell HL4.out 0).trans rfl
 clear hd HB3 HQ3 HL3 HU k0
 go_wp2_with (fail)
 refine (HM _).out.mono ?_
 rintro e w5 ⟨rfl, hb5⟩
 have HB5 := Aside0.mk (below_step HB4.out hb5)
 have HQ5 := Aside0.mk (blk_below HQ4.out hb5)
 have HL5 := Aside0.mk (blk_below HL4.out hb5)
 clear hb5 HB4 HQ4 HL4 HM k1
 go_wp2_with (fail)
 generalize hw6 : w5.alloc _ = w6
 have hB6 : Below w5.heap.size w5 w6 := by rw [← hw6]; exact below_one _ _
 obtain ⟨q, hq⟩ : ∃ q, w5.heap.size = q := ⟨_, rfl⟩
 have hbq : w6.heap[q]? = some (.cells #[.int .i64 a1, .int .i64 170, .int .i64 1, .int .i64 0, .int .i64 0, .int .i64 0, .int .i64 m, .int .i64 s, .int .i64 f] 27 (0, 0)) := by rw [← hw6, ← hq]; exact blk_new _ _
 rw [hq]
 have HGQ := Aside0.mk (show w.heap.size ≤ q by rw [← hq]; exact HB5.out.size)
 have HNQ := Aside0.mk (show w.heap.size + 1 ≠ q by have := blk_lt HQ5.out; omega)
 have HB6 := Aside0.mk (below_step HB5.out hB6)
 have HQ6 := Aside0.mk hbq
 have HZ6 := Aside0.mk (blk_below HQ5.out hB6)
 have HL6 := Aside0.mk (blk_below HL5.out hB6)
 clear hw6 hB6 hq hbq HB5 HQ5 HL5
 refine (indexFunc_any (headB a2) 29 #[.pointer (some ⟨w.heap.size, 0, none⟩)] A cp l w6 (Kd.C_below HR.out HB6.out) (fnAt_head a2 w.heap.size w6 HL6.out)).mono ?_
 rintro e w7 ⟨rfl, hb7⟩
 rw [show idxP (headB a2) l l.length 0 = (j : Int) from HIDX.out]
 obtain ⟨k0, ⟨c0, c1, c2, c3, c4, c5, c6, c7, c8⟩, ⟨f1, f2, f3, f4, f5⟩, hl7, hq7, hz7, hb77⟩ := pg_keep hb7 HL6.out HQ6.out HZ6.out HB6.out
 have HB7 := Aside0.mk hb77
 have HQ7 := Aside0.mk hq7
 have HZ7 := Aside0.mk hz7
 have HL7 := Aside0.mk hl7
 clear hb7 hb77 hq7 hz7 hl7 HB6 HQ6 HZ6 HL6
 have hz1 : (j : Int) < (l.length : Int) := by omega
 have hz2 : 0 ≤ (j : Int) := by omega
 obtain ⟨ad, rfl, hx0, -, hx2, -⟩ := at_T53 (Kd.C_below HR.out HB7.out) (j : Int) hz2 hz1
 rw [Int.toNat_natCast, ← HX.out] at hx0 hx2
 dsimp only at hx0 hx2
 have hs0 := hst.1
 have hs1 := hst.2
 have hidb : decide ((j : Int) < 0) = false := decide_eq_false (by omega)
 have hcb : decide (a2 < x2) = true := decide_eq_true hcmp
 clear hst
 go_wp2_with (fail)
 go_quiet (fail)
 go_wp2_with (fail)
 have hw2 : IntKind.i64.wrap (x2 - a2) = x2 - a2 := IntWalk.i64_in _ (by omega)
 go_region_with (first
  | (go_at_call 31; refine (HM2 _).out.mono ?_; rintro e v9 ⟨rfl, hb9⟩; obtain ⟨kk9, ⟨c90, c91, c92, c93, c94, c95, c96, c97, c98⟩, ⟨f91, f92, f93, f94, f95⟩, hl9, hq9, hz9, hbb9⟩ := pg_keep hb9 (blk_drewN HL7.out _) (blk_drewN HQ7.out _) (blk_drewN HZ7.out _) (pw_below_drewN HB7.out _); have hx0n := cell_below_ (show (w7.drewN (nq + 1)).cell? (ad.add (j * 7)) = some (.int .i64 x0) from hx0) hb9; have JL9 := Aside0.mk hl9; have JQ9 := Aside0.mk hq9; have JZ9 := Aside0.mk hz9; have JB9 := Aside0.mk hbb9; clear hb9 hl9 hq9 hz9 hbb9))
 all_goals
  have HQF := Aside0.mk (blk_put (cs := #[.int .i64 a1, .int .i64 x0, .int .i64 0, .int .i64 m2, .int .i64 s2, .int .i64 0, .int .i64 m, .int .i64 s, .int .i64 f]) (blk_put (cs := #[.int .i64 a1, .int .i64 x0, .int .i64 0, .int .i64 m2, .int .i64 0, .int .i64 0, .int .i64 m, .int .i64 s, .int .i64 f]) (blk_put (cs := #[.int .i64 a1, .int .i64 x0, .int .i64 0, .int .i64 0, .int .i64 0, .int .i64 0, .int .i64 m, .int .i64 s, .int .i64 f]) (blk_put (cs := #[.int .i64 a1, .int .i64 x0, .int .i64 1, .int .i64 0, .int .i64 0, .int .i64 0, .int .i64 m, .int .i64 s, .int .i64 f]) (blk_put (cs := #[.int .i64 a1, .int .i64 170, .int .i64 1, .int .i64 0, .int .i64 0, .int .i64 0, .int .i64 m, .int .i64 s, .int .i64 f]) JQ9.out 1 (.int .i64 x0) rfl) 2 (.int .i64 0) rfl) 3 (.int .i64 m2) rfl) 4 (.int .i64 s2) rfl) 5 (.int .i64 u2) rfl)
  have HZF := Aside0.mk (blk_far (p := ⟨q, 5, none⟩) (blk_far (p := ⟨q, 4, none⟩) (blk_far (p := ⟨q, 3, none⟩) (blk_far (p := ⟨q, 2, none⟩) (blk_far (p := ⟨q, 1, none⟩) JZ9.out HNQ.out (.int .i64 x0)) HNQ.out (.int .i64 0)) HNQ.out (.int .i64 m2)) HNQ.out (.int .i64 s2)) HNQ.out (.int .i64 u2))
  go_wp2_with (first | (refine wpList_load_row rfl 27 (.tmp 8) rfl q rfl _ #[.int .i64 a1, .int .i64 x0, .int .i64 0, .int .i64 m2, .int .i64 s2, .int .i64 u2, .int .i64 m, .int .i64 s, .int .i64 f] (0, 0) _ HQF.out hu rfl (by kernel_rfl) ?_) | (refine wpList_store_row rfl 27 (.tmp 6) (.tmp 85) rfl (w.heap.size + 1) #[.int .i64 a1, .int .i64 x0, .int .i64 0, .int .i64 m2, .int .i64 s2, .int .i64 u2, .int .i64 m, .int .i64 s, .int .i64 f] rfl rfl _ _ HZF.out (by kernel_rfl) rfl (by kernel_rfl) ?_))
  refine bodyPost_ret (results_ct rfl _ _ (w.heap.size + 1) 27 #[.int .i64 a1, .int .i64 x0, .int .i64 0, .int .i64 m2, .int .i64 s2, .int .i64 u2, .int .i64 m, .int .i64 s, .int .i64 f] (0, 0) _ rfl (setRow_heap _ _ _ _ _ _ HZF.out) hu rfl (by kernel_rfl)) rfl ?_
  exact ⟨rfl, below_setRow (below_set (j := 5) (v := .int .i64 u2) (below_set (j := 4) (v := .int .i64 s2) (below_set (j := 3) (v := .int .i64 m2) (below_set (j := 2) (v := .int .i64 0) (below_set (j := 1) (v := .int .i64 x0) JB9.out HGQ.out) HGQ.out) HGQ.out) HGQ.out) HGQ.out) (by omega) _⟩
set_option maxHeartbeats 2000000 in
set_option maxRecDepth 100000 in
theorem program_in (A : Option Addr) (cp : Nat) (l : List (S53)) (a1 a2 m s f m2 s2 u2 : Int) (j : Nat) (w : World) (hr : Kd.C k53 w A l.length l) (hc : l.length ≤ cp) (hs : sesB l = true) (h0 : 0 ≤ a1) (h15 : a1 ≤ 15) (h2 : 0 ≤ a2) (h4 : a2 ≤ 449849) (hi : progI l a2 = (j : Int)) (hj : j < l.length) (hcmp : (rd_T53 l (j : Int)).f2 ≤ a2)
 (hm : subchannel_msf.f a2 = some (m, s, f)) (hm2 : subchannel_relative.f (a2 - (rd_T53 l (j : Int)).f2) = some (m2, s2, u2)) :
 Calls Try.prog 11 #[.slice A l.length cp, .int .i64 a1, .int .i64 a2] w fun e w' => e = .returned (.tuple #[.agg #[.int .i64 a1, .int .i64 (rd_T53 l (j : Int)).f0, .int .i64 1, .int .i64 m2, .int .i64 s2, .int .i64 u2, .int .i64 m, .int .i64 s, .int .i64 f], .int .i64 0]) ∧ Below w.heap.size w w' := by
 have hu := Try.underlying27
 have hu3 := Try.underlying25
 have hmf : ∀ (fn : Fn) (first cap : Array Value) (w : World), (Instr.makeFunc fn first cap).run Try.prog w = .ok (.func fn first cap) w := fun _ _ _ _ => rfl
 have HR := Aside0.mk hr
 have HS := fun W h1 => Aside0.mk (session_any A cp l W h1 hc)
 rw [hs] at HS
 have HT := fun W => Aside0.mk (subchannel_between.calls a1 0 15 true W (between_yes h0 h15))
 have HU := fun W => Aside0.mk (subchannel_between.calls a2 0 449849 true W (between_yes h2 h4))
 have HM := fun W => Aside0.mk (subchannel_msf.calls a2 m s f W hm)
 have HM2 := fun W => Aside0.mk (subchannel_relative.calls (a2 - (rd_T53 l (j : Int)).f2) m2 s2 u2 W hm2)
 obtain ⟨idx, hidx⟩ : ∃ idx : Int, (j : Int) = idx := ⟨_, rfl⟩
 have HIDX := Aside0.mk (show progI l a2 = (j : Int) from hi)
 have HSES := Aside0.mk (ses_of hs)
 have hst := HSES.out.start j hj
 have hl9 : l.length ≤ 99 := HSES.out.most
 obtain ⟨x, hx⟩ : ∃ x, x = rd_T53 l (j : Int) := ⟨_, rfl⟩
 rw [← hx] at hst hcmp HM2 ⊢
 obtain ⟨x0, x1, x2, x3, x4, x5, x6⟩ := x
 dsimp only at hst hcmp HM2 ⊢
 have HX := Aside0.mk hx
 clear hr hc hs h0 h15 hm hm2 hidx hi hx
 go_enter Try.func11, Try.ntmps11
 go_wp2_with (fail)
 generalize hw0 : (w.alloc _).alloc _ = w0
 obtain ⟨hb0, hb1, hB⟩ := two_new hw0
 have HR0 := Aside0.mk (Kd.C_below HR.out hB)
 have HB0 := Aside0.mk hB
 have HL0 := Aside0.mk hb0
 have HQ0 := Aside0.mk hb1
 clear hw0 hb0 hb1 hB
 refine (HS _ HR0.out).out.mono ?_
 rintro e w2 ⟨rfl, hb2⟩
 have HB2 := Aside0.mk (below_step HB0.out hb2)
 have HQ2 := Aside0.mk (blk_below HQ0.out hb2)
 have HL2 := Aside0.mk (blk_below HL0.out hb2)
 clear hb2 HB0 HQ0 HL0 HR0 HS
 go_wp2_with (fail)
 refine (HT _).out.mono ?_
 rintro e w3 ⟨rfl, hd⟩
 have HB3 := Aside0.mk (below_step HB2.out hd.below)
 have HQ3 := Aside0.mk (blk_below HQ2.out hd.below)
 have HL3 := Aside0.mk (blk_below HL2.out hd.below)
 have k0 : w3.cell? ⟨w.heap.size, 0, none⟩ = some (.int .i64 a2) := (blk_cell HL3.out 0).trans rfl
 clear hd HB2 HQ2 HL2 HT
 go_wp2_with (fail)
 refine (HU _).out.mono ?_
 rintro e w4 ⟨rfl, hd⟩
 have HB4 := Aside0.mk (below_step HB3.out hd.below)
 have HQ4 := Aside0.mk (blk_below HQ3.out hd.below)
 have HL4 := Aside0.mk (blk_below HL3.out hd.below)
 have k1 : w4.cell? ⟨w.heap.size, 0, none⟩ = some (.int .i64 a2) := (blk_cell HL4.out 0).trans rfl
 clear hd HB3 HQ3 HL3 HU k0
 go_wp2_with (fail)
 refine (HM _).out.mono ?_
 rintro e w5 ⟨rfl, hb5⟩
 have HB5 := Aside0.mk (below_step HB4.out hb5)
 have HQ5 := Aside0.mk (blk_below HQ4.out hb5)
 have HL5 := Aside0.mk (blk_below HL4.out hb5)
 clear hb5 HB4 HQ4 HL4 HM k1
 go_wp2_with (fail)
 generalize hw6 : w5.alloc _ = w6
 have hB6 : Below w5.heap.size w5 w6 := by rw [← hw6]; exact below_one _ _
 obtain ⟨q, hq⟩ : ∃ q, w5.heap.size = q := ⟨_, rfl⟩
 have hbq : w6.heap[q]? = some (.cells #[.int .i64 a1, .int .i64 170, .int .i64 1, .int .i64 0, .int .i64 0, .int .i64 0, .int .i64 m, .int .i64 s, .int .i64 f] 27 (0, 0)) := by rw [← hw6, ← hq]; exact blk_new _ _
 rw [hq]
 have HGQ := Aside0.mk (show w.heap.size ≤ q by rw [← hq]; exact HB5.out.size)
 have HNQ := Aside0.mk (show w.heap.size + 1 ≠ q by have := blk_lt HQ5.out; omega)
 have HB6 := Aside0.mk (below_step HB5.out hB6)
 have HQ6 := Aside0.mk hbq
 have HZ6 := Aside0.mk (blk_below HQ5.out hB6)
 have HL6 := Aside0.mk (blk_below HL5.out hB6)
 clear hw6 hB6 hq hbq HB5 HQ5 HL5
 refine (indexFunc_any (headB a2) 29 #[.pointer (some ⟨w.heap.size, 0, none⟩)] A cp l w6 (Kd.C_below HR.out HB6.out) (fnAt_head a2 w.heap.size w6 HL6.out)).mono ?_
 rintro e w7 ⟨rfl, hb7⟩
 rw [show idxP (headB a2) l l.length 0 = (j : Int) from HIDX.out]
 obtain ⟨k0, ⟨c0, c1, c2, c3, c4, c5, c6, c7, c8⟩, ⟨f1, f2, f3, f4, f5⟩, hl7, hq7, hz7, hb77⟩ := pg_keep hb7 HL6.out HQ6.out HZ6.out HB6.out
 have HB7 := Aside0.mk hb77
 have HQ7 := Aside0.mk hq7
 have HZ7 := Aside0.mk hz7
 have HL7 := Aside0.mk hl7
 clear hb7 hb77 hq7 hz7 hl7 HB6 HQ6 HZ6 HL6
 have hz1 : (j : Int) < (l.length : Int) := by omega
 have hz2 : 0 ≤ (j : Int) := by omega
 obtain ⟨ad, rfl, hx0, -, hx2, -⟩ := at_T53 (Kd.C_below HR.out HB7.out) (j : Int) hz2 hz1
 rw [Int.toNat_natCast, ← HX.out] at hx0 hx2
 dsimp only at hx0 hx2
 have hs0 := hst.1
 have hs1 := hst.2
 have hidb : decide ((j : Int) < 0) = false := decide_eq_false (by omega)
 have hcb : decide (a2 < x2) = false := decide_eq_false (by omega)
 clear hst
 go_wp2_with (fail)
 go_quiet (fail)
 go_wp2_with (fail)
 have hw2 : IntKind.i64.wrap (a2 - x2) = a2 - x2 := IntWalk.i64_in _ (by omega)
 go_region_with (first
  | (go_at_call 31; refine (HM2 _).out.mono ?_; rintro e v9 ⟨rfl, hb9⟩; obtain ⟨kk9, ⟨c90, c91, c92, c93, c94, c95, c96, c97, c98⟩, ⟨f91, f92, f93, f94, f95⟩, hl9, hq9, hz9, hbb9⟩ := pg_keep hb9 (blk_drewN HL7.out _) (blk_drewN HQ7.out _) (blk_drewN HZ7.out _) (pw_below_drewN HB7.out _); have hx0n := cell_below_ (show (w7.drewN (nq + 1)).cell? (ad.add (j * 7)) = some (.int .i64 x0) from hx0) hb9; have JL9 := Aside0.mk hl9; have JQ9 := Aside0.mk hq9; have JZ9 := Aside0.mk hz9; have JB9 := Aside0.mk hbb9; clear hb9 hl9 hq9 hz9 hbb9))
 all_goals
  have HQF := Aside0.mk (blk_put (cs := #[.int .i64 a1, .int .i64 x0, .int .i64 1, .int .i64 m2, .int .i64 s2, .int .i64 0, .int .i64 m, .int .i64 s, .int .i64 f]) (blk_put (cs := #[.int .i64 a1, .int .i64 x0, .int .i64 1, .int .i64 m2, .int .i64 0, .int .i64 0, .int .i64 m, .int .i64 s, .int .i64 f]) (blk_put (cs := #[.int .i64 a1, .int .i64 x0, .int .i64 1, .int .i64 0, .int .i64 0, .int .i64 0, .int .i64 m, .int .i64 s, .int .i64 f]) (blk_put (cs := #[.int .i64 a1, .int .i64 170, .int .i64 1, .int .i64 0, .int .i64 0, .int .i64 0, .int .i64 m, .int .i64 s, .int .i64 f]) JQ9.out 1 (.int .i64 x0) rfl) 3 (.int .i64 m2) rfl) 4 (.int .i64 s2) rfl) 5 (.int .i64 u2) rfl)
  have HZF := Aside0.mk (blk_far (p := ⟨q, 5, none⟩) (blk_far (p := ⟨q, 4, none⟩) (blk_far (p := ⟨q, 3, none⟩) (blk_far (p := ⟨q, 1, none⟩) JZ9.out HNQ.out (.int .i64 x0)) HNQ.out (.int .i64 m2)) HNQ.out (.int .i64 s2)) HNQ.out (.int .i64 u2))
  go_wp2_with (first | (refine wpList_load_row rfl 27 (.tmp 8) rfl q rfl _ #[.int .i64 a1, .int .i64 x0, .int .i64 1, .int .i64 m2, .int .i64 s2, .int .i64 u2, .int .i64 m, .int .i64 s, .int .i64 f] (0, 0) _ HQF.out hu rfl (by kernel_rfl) ?_) | (refine wpList_store_row rfl 27 (.tmp 6) (.tmp 85) rfl (w.heap.size + 1) #[.int .i64 a1, .int .i64 x0, .int .i64 1, .int .i64 m2, .int .i64 s2, .int .i64 u2, .int .i64 m, .int .i64 s, .int .i64 f] rfl rfl _ _ HZF.out (by kernel_rfl) rfl (by kernel_rfl) ?_))
  refine bodyPost_ret (results_ct rfl _ _ (w.heap.size + 1) 27 #[.int .i64 a1, .int .i64 x0, .int .i64 1, .int .i64 m2, .int .i64 s2, .int .i64 u2, .int .i64 m, .int .i64 s, .int .i64 f] (0, 0) _ rfl (setRow_heap _ _ _ _ _ _ HZF.out) hu rfl (by kernel_rfl)) rfl ?_
  exact ⟨rfl, below_setRow (below_set (j := 5) (v := .int .i64 u2) (below_set (j := 4) (v := .int .i64 s2) (below_set (j := 3) (v := .int .i64 m2) (below_set (j := 1) (v := .int .i64 x0) JB9.out HGQ.out) HGQ.out) HGQ.out) HGQ.out) (by omega) _⟩
end Go.Proofs.Ytpmkibggmkibeaa.G
namespace Go.Proofs.Ytpmkibggmkibeaa.G
open Go.RowKit Go.Proofs.YtpmkibggmkibeaaW.PrintWords Go.Proofs.YtpmkibggmkibeaaW.PrintLast Go.Proofs.YtpmkibggmkibeaaW.PrintMore
set_option linter.unusedVariables false
theorem idxP_none (p : S53 → Bool) (l : List (S53)) (d : Nat) : ∀ i, l.length - i = d → idxP p l d i = -1 → ∀ k : Nat, i ≤ k → k < l.length → p (rd_T53 l (k : Int)) = false := by
 induction d with
 | zero => intro i hd _ k h1 h2; omega
 | succ d ih =>
  intro i hd h k h1 h2
  simp only [idxP] at h
  cases hp : p (rd_T53 l (i : Int)) with
  | true => rw [hp, if_pos rfl] at h; omega
  | false =>
   rw [hp, if_neg (by decide)] at h
   by_cases e : k = i
   · rw [e]; exact hp
   · exact ih (i + 1) (by omega) h k (by omega) h2
theorem headB_plain {l : List (S53)} (hs : Ses l) (lba : Int) (k : Nat) (hk : k < l.length) : headB lba (rd_T53 l (k : Int)) = decide (lba < (rd_T53 l (k : Int)).f2 + (rd_T53 l (k : Int)).f3) := by
 have h1 := hs.start k hk
 have h2 := hs.len k hk
 unfold headB
 rw [show wrap64 ((rd_T53 l (k : Int)).f2 + (rd_T53 l (k : Int)).f3) = (rd_T53 l (k : Int)).f2 + (rd_T53 l (k : Int)).f3 by unfold wrap64; omega]
theorem progI_cases {l : List (S53)} (hs : Ses l) (lba : Int) :
 (progI l lba = -1 ∧ lastE l ≤ lba) ∨ ∃ j : Nat, progI l lba = (j : Int) ∧ j < l.length ∧ lba < (rd_T53 l (j : Int)).f2 + (rd_T53 l (j : Int)).f3 ∧ ∀ k : Nat, k < j → (rd_T53 l (k : Int)).f2 + (rd_T53 l (k : Int)).f3 ≤ lba := by
 rcases idxP_range (headB lba) l l.length 0 (by omega) (by omega) with h | ⟨j, h1, h2, h3, h4, h5⟩
 · refine Or.inl ⟨h, ?_⟩
   have h1 := hs.one
   have := idxP_none (headB lba) l l.length 0 (by omega) h (l.length - 1) (by omega) (by omega)
   rw [headB_plain hs lba _ (by omega)] at this
   have h2 := of_decide_eq_false this
   rw [show ((l.length - 1 : Nat) : Int) = (l.length : Int) - 1 by omega] at h2
   unfold lastE
   omega
 · refine Or.inr ⟨j, h1, h3, ?_, fun k hk => ?_⟩
   · rw [headB_plain hs lba j h3] at h4; exact of_decide_eq_true h4
   · have := h5 k (by omega) hk
     rw [headB_plain hs lba k (by omega)] at this
     have := of_decide_eq_false this
     omega
theorem subchannel_Program.calls (A0 : Option Addr) (c0 : Nat) (l0 : List (S53)) (a1 : Int) (a2 : Int) (r1 : Int) (r2 : Int) (r3 : Int) (r4 : Int) (r5 : Int) (r6 : Int) (r7 : Int) (r8 : Int) (r9 : Int) (r10 : Int) (w : World) (hr0 : Kd.C k53 w A0 l0.length l0) (hc0 : l0.length ≤ c0) (h : subchannel_Program.f l0 a1 a2 = some (r1, r2, r3, r4, r5, r6, r7, r8, r9, r10)) :
 Calls Try.prog 11 #[.slice A0 l0.length c0, .int .i64 a1, .int .i64 a2] w fun e w' => e = .returned (.tuple #[.agg #[.int .i64 r1, .int .i64 r2, .int .i64 r3, .int .i64 r4, .int .i64 r5, .int .i64 r6, .int .i64 r7, .int .i64 r8, .int .i64 r9], .int .i64 r10]) ∧ Below w.heap.size w w' := by
 unfold subchannel_Program.f at h
 by_cases hs : sesB l0 = true ∧ 0 ≤ a1 ∧ a1 ≤ 15
 case neg =>
  rw [if_neg hs] at h
  cases h
  exact program_no1 A0 c0 l0 a1 a2 w hr0 hc0 hs
 rw [if_pos hs] at h
 by_cases h2 : 0 ≤ a2 ∧ a2 ≤ 449849
 case neg =>
  rw [if_neg h2] at h
  cases h
  exact program_no2 A0 c0 l0 a1 a2 w hr0 hc0 hs.1 hs.2.1 hs.2.2 h2
 rw [if_pos h2] at h
 have hses := ses_of hs.1
 rcases progI_cases hses a2 with ⟨hi, hge⟩ | ⟨j, hi, hj, hlt, -⟩
 · have hst := hses.start (l0.length - 1) (by have := hses.one; omega)
   have hle := hses.len (l0.length - 1) (by have := hses.one; omega)
   rw [show ((l0.length - 1 : Nat) : Int) = (l0.length : Int) - 1 by have := hses.one; omega] at hst hle
   rw [if_pos (by omega)] at h
   simp only [relOf, Option.some.injEq, Prod.mk.injEq] at h
   obtain ⟨rfl, rfl, rfl, rfl, rfl, rfl, rfl, rfl, rfl, rfl⟩ := h
   exact program_out A0 c0 l0 a1 a2 _ _ _ _ _ _ w hr0 hc0 hs.1 hs.2.1 hs.2.2 h2.1 h2.2 (by omega) hge (msf_plain (by omega) h2.2) (relative_plain (by omega) (by have : lastE l0 = (rd_T53 l0 ((l0.length : Int) - 1)).f2 + (rd_T53 l0 ((l0.length : Int) - 1)).f3 := rfl; omega))
 · rw [if_neg (by omega), hi] at h
   have hst := hses.start j hj
   have hle := hses.len j hj
   by_cases hcmp : a2 < (rd_T53 l0 (j : Int)).f2
   · rw [if_pos hcmp] at h
     simp only [relOf, Option.some.injEq, Prod.mk.injEq] at h
     obtain ⟨rfl, rfl, rfl, rfl, rfl, rfl, rfl, rfl, rfl, rfl⟩ := h
     exact program_gap A0 c0 l0 a1 a2 _ _ _ _ _ _ j w hr0 hc0 hs.1 hs.2.1 hs.2.2 h2.1 h2.2 hi hj hcmp (msf_plain (by omega) h2.2) (relative_plain (by omega) (by omega))
   · rw [if_neg hcmp] at h
     simp only [relOf, Option.some.injEq, Prod.mk.injEq] at h
     obtain ⟨rfl, rfl, rfl, rfl, rfl, rfl, rfl, rfl, rfl, rfl⟩ := h
     exact program_in A0 c0 l0 a1 a2 _ _ _ _ _ _ j w hr0 hc0 hs.1 hs.2.1 hs.2.2 h2.1 h2.2 hi hj (by omega) (msf_plain (by omega) h2.2) (relative_plain (by omega) (by omega))
end Go.Proofs.Ytpmkibggmkibeaa.G
namespace Go.Proofs.Ytpmkibggmkibeaa.G
open Go.RowKit Go.Proofs.YtpmkibggmkibeaaW.PrintWords Go.Proofs.YtpmkibggmkibeaaW.PrintLast Go.Proofs.YtpmkibggmkibeaaW.PrintMore
set_option linter.unusedVariables false
def frameQ (c p m s f : Int) : S27 := ⟨c, 0, p, ⟨0, 0, 0⟩, ⟨m, s, f⟩⟩
set_option maxHeartbeats 400000 in
set_option maxRecDepth 100000 in
theorem entries1 (p m s f c : Int) (Bo Bc : Nat) (v : Value) (l : List (S27)) (w0 w : World)
 (ho : w.heap[Bo]? = some (.cells #[v] 31 (0, 0))) (hc : w.heap[Bc]? = some (.cells #[.int .i64 c] 3 (0, 0)))
 (hr : Kd.R k27 27 w w0.heap.size (fun _ => True) v l) (hb : Below w0.heap.size w0 w) (hB : w0.heap.size ≤ Bo) (hl : l.length < 200) :
 Calls Try.prog 36 #[.int .i64 p, .agg #[.int .i64 m, .int .i64 s, .int .i64 f], .pointer (some ⟨Bo, 0, none⟩), .pointer (some ⟨Bc, 0, none⟩)] w fun e w' => e = .returned (.tuple #[]) ∧
  ∃ v', w'.heap[Bo]? = some (.cells #[v'] 31 (0, 0)) ∧ Kd.R k27 27 w' w0.heap.size (fun _ => True) v' (l ++ [frameQ c p m s f]) ∧ Below w0.heap.size w0 w' ∧
   ∀ (k : Nat) (cs : Array Value) (t : TypeId), 27 ≠ t → k ≠ Bo → w.heap[k]? = some (.cells cs t (0, 0)) → w'.heap[k]? = some (.cells cs t (0, 0)) := by
 have hu := Try.underlying25
 have hu2 := Try.underlying27
 have ho1 := blk_alloc ho (.cells #[.int .i64 m, .int .i64 s, .int .i64 f] 25)
 have hc1 := blk_alloc hc (.cells #[.int .i64 m, .int .i64 s, .int .i64 f] 25)
 have k0 : (w.alloc (.cells #[.int .i64 m, .int .i64 s, .int .i64 f] 25)).cell? ⟨Bo, 0, none⟩ = some v := (blk_cell ho1 0).trans rfl
 have k1 : (w.alloc (.cells #[.int .i64 m, .int .i64 s, .int .i64 f] 25)).cell? ⟨Bc, 0, none⟩ = some (.int .i64 c) := (blk_cell hc1 0).trans rfl
 have HR := Aside0.mk (Kd.R_alloc hr (.cells #[.int .i64 m, .int .i64 s, .int .i64 f] 25))
 have HO := Aside0.mk ho1
 have HB := Aside0.mk (Below.alloc hb hb.size (.cells #[.int .i64 m, .int .i64 s, .int .i64 f] 25))
 have HGE := Aside0.mk hB
 have HL := Aside0.mk hl
 have HOO := Aside0.mk (fun (k : Nat) (cs : Array Value) (t : TypeId) (hk : w.heap[k]? = some (.cells cs t (0, 0))) => blk_alloc hk (.cells #[.int .i64 m, .int .i64 s, .int .i64 f] 25))
 have hP : Kd.M k27 (w.alloc (.cells #[.int .i64 m, .int .i64 s, .int .i64 f] 25)) w0.heap.size (fun _ => False) (frameQ c p m s f) [.int .i64 c, .int .i64 0, .int .i64 p, .int .i64 0, .int .i64 0, .int .i64 0, .int .i64 m, .int .i64 s, .int .i64 f] := k27_mkM _ _ _ (frameQ c p m s f)
 have HP := Aside0.mk hP
 obtain ⟨q, hq⟩ : ∃ q, q = frameQ c p m s f := ⟨_, rfl⟩
 rw [← hq] at HP ⊢
 clear ho1 hc1 hr ho hc hb hB hl hP hq
 go_enter Try.func36, Try.ntmps36
 go_wp2_with (first | (at_builtin; refine Kd.R_append k27 (w0 := w0) w0.heap.size rfl (.tmp 6) (.tmp 11) 31 27 (.agg #[.int .i64 0, .int .i64 0, .int .i64 0, .int .i64 0, .int .i64 0, .int .i64 0, .int .i64 0, .int .i64 0, .int .i64 0]) 72 rfl Try.underlying31 info27 rfl (by decide) (by omega) v l q [.int .i64 c, .int .i64 0, .int .i64 p, .int .i64 0, .int .i64 0, .int .i64 0, .int .i64 m, .int .i64 s, .int .i64 f] (fun _ => True) (fun _ => False) rfl (show Value.slice (some ⟨w.heap.size + 1, 0, none⟩) 1 1 = _ from by simp) HP.out (fun _ hk => hk.elim) (fun _ _ => trivial) HR.out HB.out HB.out.size (by have := HL.out; omega) ?_; intro v1 w1 ho1 hb1 hg1 hat1; obtain ⟨A1, c1, rfl⟩ := Kd.R_slice ho1; rw [show (l ++ [q]).length = l.length + 1 by simp] at ho1; have HO1 := Aside0.mk (blk_grown HO.out hg1 (Kd.R_ne HR.out HO.out (by decide))); have k2 := blk_cell HO1.out 0; have k3 := blk_frozen HO1.out 0; have HG1 := Aside0.mk hg1; have HR1 := Aside0.mk ho1; have HB1 := Aside0.mk hb1; clear ho1 hb1 hg1 hat1 k0 k1))
 go_end0
 refine ⟨rfl, _, blk_put HO1.out 0 _ rfl, Kd.R_set HR1.out HO1.out (by decide) 0 _, HB1.out.setCell HGE.out _, fun k cs t hne hk h => ?_⟩
 have h2 := HOO.out k cs t h
 exact blk_far (blk_grown h2 HG1.out (Kd.R_ne HR.out h2 hne)) hk _
def entL (l : List (S53)) (c : Int) (n : Nat) : List (S27) :=
 [frameQ c 160 (rd_T53 l 0).f0 0 0, frameQ c 161 (rd_T53 l ((l.length : Int) - 1)).f0 0 0,
  frameQ c 162 (msfM ((rd_T53 l ((l.length : Int) - 1)).f2 + (rd_T53 l ((l.length : Int) - 1)).f3)) (msfS ((rd_T53 l ((l.length : Int) - 1)).f2 + (rd_T53 l ((l.length : Int) - 1)).f3)) (msfF ((rd_T53 l ((l.length : Int) - 1)).f2 + (rd_T53 l ((l.length : Int) - 1)).f3))] ++
 (List.range n).map fun (i : Nat) => frameQ c (rd_T53 l (i : Int)).f0 (msfM (rd_T53 l (i : Int)).f2) (msfS (rd_T53 l (i : Int)).f2) (msfF (rd_T53 l (i : Int)).f2)
theorem entL_succ (l : List (S53)) (c : Int) (n : Nat) : entL l c (n + 1) = entL l c n ++ [frameQ c (rd_T53 l (n : Int)).f0 (msfM (rd_T53 l (n : Int)).f2) (msfS (rd_T53 l (n : Int)).f2) (msfF (rd_T53 l (n : Int)).f2)] := by
 simp [entL, List.range_succ]
theorem entL_length (l : List (S53)) (c : Int) (n : Nat) : (entL l c n).length = n + 3 := by simp [entL]
def subchannel_Entries.f (l : List (S53)) (a1 : Int) : Option (List (S27) × Int) := if sesB l = true ∧ 0 ≤ a1 ∧ a1 ≤ 15 then some (entL l a1 l.length, 0) else some ([], 1)
set_option maxHeartbeats 400000 in
set_option maxRecDepth 100000 in
theorem entries_no (A : Option Addr) (cp : Nat) (l : List (S53)) (a1 : Int) (w : World) (hr : Kd.C k53 w A l.length l) (hc : l.length ≤ cp) (h : ¬ (sesB l = true ∧ 0 ≤ a1 ∧ a1 ≤ 15)) :
 Calls Try.prog 13 #[.slice A l.length cp, .int .i64 a1] w fun e w' => e = .returned (.tuple #[.slice none 0 0, .int .i64 1]) ∧ Below w.heap.size w w' := by
 have HR := Aside0.mk (Kd.C_alloc hr (.cells #[.int .i64 a1] 3))
 have HC := Aside0.mk hc
 have HB0 := Aside0.mk (below_one w (.cells #[.int .i64 a1] 3))
 have hbk := blk_new w (.cells #[.int .i64 a1] 3)
 have HBK := Aside0.mk hbk
 clear hbk
 cases hs : sesB l with
 | false =>
  have HS := fun W h1 => Aside0.mk (session_any A cp l W h1 hc)
  rw [hs] at HS
  clear hr hc h hs
  go_enter Try.func13, Try.ntmps13
  go_wp2_with (fail)
  refine (HS _ HR.out).out.mono ?_
  rintro e w2 ⟨rfl, hb2⟩
  have HB2 := Aside0.mk (below_step HB0.out hb2)
  clear hb2
  go_wp2_with (fail)
  go_ret2
  exact ⟨rfl, HB2.out⟩
 | true =>
  have hn : ¬ (0 ≤ a1 ∧ a1 ≤ 15) := fun h2 => h ⟨hs, h2⟩
  have HS := fun W h1 => Aside0.mk (session_any A cp l W h1 hc)
  rw [hs] at HS
  have HT := fun W => Aside0.mk (subchannel_between.calls a1 0 15 false W (between_no hn))
  clear hr hc h hs hn
  go_enter Try.func13, Try.ntmps13
  go_wp2_with (fail)
  refine (HS _ HR.out).out.mono ?_
  rintro e w2 ⟨rfl, hb2⟩
  have HB2 := Aside0.mk (below_step HB0.out hb2)
  have hk := blk_below HBK.out hb2
  have k0 : w2.cell? ⟨w.heap.size, 0, none⟩ = some (.int .i64 a1) := (blk_cell hk 0).trans rfl
  clear hb2 hk
  go_wp2_with (fail)
  refine (HT _).out.mono ?_
  rintro e w3 ⟨rfl, hd⟩
  have HB3 := Aside0.mk (below_step HB2.out hd.below)
  clear hd k0
  go_wp2_with (fail)
  go_ret2
  exact ⟨rfl, HB3.out⟩
set_option maxHeartbeats 1000000 in
set_option maxRecDepth 100000 in
theorem entries_yes (A : Option Addr) (cp : Nat) (l : List (S53)) (a1 : Int) (w : World) (hr : Kd.C k53 w A l.length l) (hc : l.length ≤ cp) (hs : sesB l = true) (h0 : 0 ≤ a1) (h15 : a1 ≤ 15) :
 Calls Try.prog 13 #[.slice A l.length cp, .int .i64 a1] w fun e w' => ∃ v, e = .returned (.tuple #[v, .int .i64 0]) ∧ Kd.R k27 27 w' w.heap.size (fun _ => True) v (entL l a1 l.length) ∧ Below w.heap.size w w' := by
 have hmf : ∀ (fn : Fn) (first cap : Array Value) (w : World), (Instr.makeFunc fn first cap).run Try.prog w = .ok (.func fn first cap) w := fun _ _ _ _ => rfl
 have hses := ses_of hs
 have hl1 : 1 ≤ l.length := hses.one
 have hl9 : l.length ≤ 99 := hses.most
 have HSES := Aside0.mk hses
 have HR0 := Aside0.mk hr
 have HR := Aside0.mk (Kd.C_alloc hr (.cells #[.int .i64 a1] 3))
 have HB0 := Aside0.mk (below_one w (.cells #[.int .i64 a1] 3))
 have HBK := Aside0.mk (blk_new w (.cells #[.int .i64 a1] 3))
 have HS := fun W h1 => Aside0.mk (session_any A cp l W h1 hc)
 rw [hs] at HS
 have HT := fun W => Aside0.mk (subchannel_between.calls a1 0 15 true W (between_yes h0 h15))
 clear hr hc hs hses
 go_enter Try.func13, Try.ntmps13
 go_wp2_with (fail)
 refine (HS _ HR.out).out.mono ?_
 rintro e w2 ⟨rfl, hb2⟩
 have HR2 := Aside0.mk (Kd.C_below HR.out hb2)
 have HB2 := Aside0.mk (below_step HB0.out hb2)
 have hk := blk_below HBK.out hb2
 have HK2 := Aside0.mk hk
 have k0 : w2.cell? ⟨w.heap.size, 0, none⟩ = some (.int .i64 a1) := (blk_cell hk 0).trans rfl
 clear hb2 hk HR HB0 HBK HS
 go_wp2_with (fail)
 refine (HT _).out.mono ?_
 rintro e w3 ⟨rfl, hd⟩
 have HR3 := Aside0.mk (Kd.C_below HR2.out hd.below)
 have HB3 := Aside0.mk (below_step HB2.out hd.below)
 have HK3 := Aside0.mk (blk_below HK2.out hd.below)
 clear hd k0 HR2 HB2 HK2 HT
 have hz1 : (1 : Int) ≤ (l.length : Int) := by omega
 have hz2 : 0 ≤ (l.length : Int) - 1 := by omega
 have hz3 : (l.length : Int) - 1 < (l.length : Int) := by omega
 have hz4 : ((l.length : Int) - 1).toNat = l.length - 1 := by omega
 have hz5 : (0 : Int) < (l.length : Int) := by omega
 obtain ⟨ad, rfl, hx0, hx1, hx2, hx3, hx4, hx5, hx6⟩ := at_T53 HR3.out ((l.length : Int) - 1) hz2 hz3
 obtain ⟨ad2, hA, hy0, -⟩ := at_T53 HR3.out 0 (by omega) hz5
 cases hA
 rw [hz4] at hx0 hx1 hx2 hx3 hx4 hx5 hx6
 obtain ⟨x, hx⟩ : ∃ x, x = rd_T53 l ((l.length : Int) - 1) := ⟨_, rfl⟩
 obtain ⟨y, hy⟩ : ∃ y, y = (rd_T53 l 0).f0 := ⟨_, rfl⟩
 rw [← hx] at hx0 hx1 hx2 hx3 hx4 hx5 hx6
 rw [← hy] at hy0
 obtain ⟨x0, x1, x2, x3, x4, x5, x6⟩ := x
 dsimp only at hx0 hx1 hx2 hx3 hx4 hx5 hx6
 have e0 : ad.add (Int.toNat 0 * 7) = ad := by
  show ad.add 0 = ad
  unfold Addr.add
  split <;> simp_all
 rw [e0] at hy0
 clear e0
 have hy0' : ∀ o1 o2, ((w3.alloc o1).alloc o2).cell? ad = some (.int .i64 y) := fun o1 o2 => by
  have h1 : (w3.alloc o1).cell? ad = some (.int .i64 y) := cell_below_ hy0 (below_one _ _)
  exact cell_below_ h1 (below_one _ _)
 have HX := Aside0.mk hx
 have HY := Aside0.mk hy
 clear hx hy hy0
 go_wp2_with (fail)
 generalize hw4 : (w3.alloc _).alloc _ = w4
 obtain ⟨hb1, hb2, hB4⟩ := two_new hw4
 obtain ⟨gl, hgl⟩ : ∃ g, w3.heap.size = g := ⟨_, rfl⟩
 obtain ⟨go, hgo⟩ : ∃ g, gl + 1 = g := ⟨_, rfl⟩
 rw [hgl] at hb1 hb2 ⊢
 rw [hgo] at hb2 ⊢
 have hge : w.heap.size ≤ go := by have := HB3.out.size; omega
 have hne1 : w.heap.size ≠ go := by
  have := blk_lt HK3.out; omega
 have hne2 : gl ≠ go := by omega
 have HGE := Aside0.mk hge
 have HNE1 := Aside0.mk hne1
 have HNE2 := Aside0.mk hne2
 have HB4 := Aside0.mk (below_step HB3.out hB4)
 have HK4 := Aside0.mk (blk_below HK3.out hB4)
 have HL4 := Aside0.mk hb1
 have HO4 := Aside0.mk hb2
 have HR4 := Aside0.mk (Kd.C_below HR3.out hB4)
 clear hb1 hb2 hB4 hw4 hgl hgo hge hne1 hne2 HB3 HK3 HR3 hy0' hx0 hx1 hx2 hx3 hx4 hx5 hx6
 refine (entries1 160 y 0 0 a1 go w.heap.size (.slice none 0 0) [] w w4 HO4.out HK4.out (Kd.R_nil _ _ _ _ _) HB4.out HGE.out (by simp)).mono ?_
 rintro e w5 ⟨rfl, v5, ho5, hr5, hb5, hk5⟩
 have HK5 := Aside0.mk (hk5 _ _ _ (by decide) HNE1.out HK4.out)
 have hl5 := hk5 _ _ _ (by decide) HNE2.out HL4.out
 have HO5 := Aside0.mk ho5
 have HRR5 := Aside0.mk hr5
 have HB5 := Aside0.mk hb5
 have HL5 := Aside0.mk hl5
 have k0 : w5.cell? ⟨gl, 0, none⟩ = some (.int .i64 x0) := (blk_cell hl5 0).trans rfl
 clear ho5 hr5 hb5 hk5 hl5 HK4 HL4 HO4 HB4
 go_wp2_with (fail)
 refine (entries1 161 x0 0 0 a1 go w.heap.size v5 _ w w5 HO5.out HK5.out HRR5.out HB5.out HGE.out (by simp)).mono ?_
 rintro e w6 ⟨rfl, v6, ho6, hr6, hb6, hk6⟩
 have HK6 := Aside0.mk (hk6 _ _ _ (by decide) HNE1.out HK5.out)
 have hl6 := hk6 _ _ _ (by decide) HNE2.out HL5.out
 have HO6 := Aside0.mk ho6
 have HRR6 := Aside0.mk hr6
 have HB6 := Aside0.mk hb6
 have HL6 := Aside0.mk hl6
 have k0 : w6.cell? ⟨gl, 0, none⟩ = some (.int .i64 x0) := (blk_cell hl6 0).trans rfl
 have k1 : w6.cell? ⟨gl, 1, none⟩ = some (.int .i64 x1) := (blk_cell hl6 1).trans rfl
 have k2 : w6.cell? ⟨gl, 2, none⟩ = some (.int .i64 x2) := (blk_cell hl6 2).trans rfl
 have k3 : w6.cell? ⟨gl, 3, none⟩ = some (.int .i64 x3) := (blk_cell hl6 3).trans rfl
 have k4 : w6.cell? ⟨gl, 4, none⟩ = some (.int .i64 x4) := (blk_cell hl6 4).trans rfl
 have k5 : w6.cell? ⟨gl, 5, none⟩ = some (.int .i64 x5) := (blk_cell hl6 5).trans rfl
 have k6 : w6.cell? ⟨gl, 6, none⟩ = some (.int .i64 x6) := (blk_cell hl6 6).trans rfl
 clear ho6 hr6 hb6 hk6 hl6 HK5 HL5 HO5 HB5 HRR5
 have hst := HSES.out.start (l.length - 1) (by omega)
 have hle := HSES.out.len (l.length - 1) (by omega)
 rw [show ((l.length - 1 : Nat) : Int) = (l.length : Int) - 1 by omega, ← HX.out] at hst hle
 dsimp only at hst hle
 have HE := fun W => Aside0.mk (subchannel_end.calls x0 x1 x2 x3 x4 x5 x6 (x2 + x3) W (end_plain hst.1 hst.2 (by have := hle.1; omega) hle.2.1))
 have HM := fun W => Aside0.mk (subchannel_msf.calls (x2 + x3) _ _ _ W (msf_plain (by have := hle.1; have := hst.1; omega) hle.2.2))
 clear hst hle
 go_wp2_with (fail)
 clear k0 k1 k2 k3 k4 k5 k6
 refine (HE _).out.mono ?_
 rintro e w7 ⟨rfl, hd7⟩
 have HK7 := Aside0.mk (blk_below HK6.out hd7)
 have HO7 := Aside0.mk (blk_below HO6.out hd7)
 have HRR7 := Aside0.mk (Kd.R_below HRR6.out hd7)
 have HB7 := Aside0.mk (below_step HB6.out hd7)
 clear hd7 HK6 HO6 HRR6 HB6 HE
 go_wp2_with (fail)
 refine (HM _).out.mono ?_
 rintro e w8 ⟨rfl, hd8⟩
 have HK8 := Aside0.mk (blk_below HK7.out hd8)
 have HO8 := Aside0.mk (blk_below HO7.out hd8)
 have HRR8 := Aside0.mk (Kd.R_below HRR7.out hd8)
 have HB8 := Aside0.mk (below_step HB7.out hd8)
 clear hd8 HK7 HO7 HRR7 HB7 HM
 go_wp2_with (fail)
 refine (entries1 162 _ _ _ a1 go w.heap.size v6 _ w w8 HO8.out HK8.out HRR8.out HB8.out HGE.out (by simp)).mono ?_
 rintro e w9 ⟨rfl, v9, ho9, hr9, hb9, hk9⟩
 have HK9 := Aside0.mk (hk9 _ _ _ (by decide) HNE1.out HK8.out)
 have HO9 := Aside0.mk ho9
 have HRR9 := Aside0.mk (show Kd.R k27 27 w9 w.heap.size (fun _ => True) v9 (entL l a1 0) from by
  have e1 : entL l a1 0 = _ := rfl
  rw [e1]
  unfold entL
  rw [← HX.out, ← HY.out]
  exact hr9)
 have HB9 := Aside0.mk hb9
 clear ho9 hr9 hb9 hk9 HO8 HK8 HRR8 HB8 HX HY
 go_wp2_with (fail)
 go_loopg [45] l.length (fun gk v45 wr => ∃ (i : Nat) (v : Value), i ≤ l.length ∧ l.length - i ≤ gk ∧ v45 = .int .i64 i ∧ Aside0 (wr.heap[go]? = some (.cells #[v] 31 (0, 0))) ∧ Aside0 (wr.heap[w.heap.size]? = some (.cells #[.int .i64 a1] 3 (0, 0))) ∧ Aside0 (Kd.R k27 27 wr w.heap.size (fun _ => True) v (entL l a1 i)) ∧ Aside0 (Below w.heap.size w wr))
 case atStart => exact ⟨0, v9, by omega, by omega, rfl, HO9, HK9, HRR9, HB9⟩
 case round =>
  obtain ⟨i, v, hi, hg, rfl, HO, HK, HRR, HB⟩ := hrel
  by_cases hlt : i < l.length
  · have hltz : (i : Int) < (l.length : Int) := by omega
    have hi0 : 0 ≤ (i : Int) := by omega
    obtain ⟨ad2, hA, hx0, hx1, hx2, hx3, hx4, hx5, hx6⟩ := at_T53 (Kd.C_below HR0.out HB.out) (i : Int) hi0 hltz
    cases hA
    rw [Int.toNat_natCast] at hx0 hx1 hx2 hx3 hx4 hx5 hx6
    have hE := entL_succ l a1 i
    have hst := HSES.out.start i hlt
    obtain ⟨x, hx⟩ : ∃ x, x = rd_T53 l (i : Int) := ⟨_, rfl⟩
    rw [← hx] at hx0 hx1 hx2 hx3 hx4 hx5 hx6 hE hst
    obtain ⟨z0, z1, z2, z3, z4, z5, z6⟩ := x
    dsimp only at hx0 hx1 hx2 hx3 hx4 hx5 hx6 hE hst
    have HM := fun W => Aside0.mk (subchannel_msf.calls z2 _ _ _ W (msf_plain (by omega) (by omega)))
    have HEE := Aside0.mk hE
    clear hx hE hst
    go_wp2_with (fail)
    generalize hW : wr.alloc _ = W1
    obtain ⟨g, hg1⟩ : ∃ g, wr.heap.size = g := ⟨_, rfl⟩
    have hb : W1.heap[g]? = some (.cells #[.int .i64 z0, .int .i64 z1, .int .i64 z2, .int .i64 z3, .int .i64 z4, .int .i64 z5, .int .i64 z6] 53 (0, 0)) := by rw [← hW, ← hg1]; exact blk_new wr _
    have hbl : Below wr.heap.size wr W1 := by rw [← hW]; exact below_one _ _
    have HO1 := Aside0.mk (blk_below HO.out hbl)
    have HK1 := Aside0.mk (blk_below HK.out hbl)
    have HRR1 := Aside0.mk (Kd.R_below HRR.out hbl)
    have HB1 := Aside0.mk (below_step HB.out hbl)
    rw [hg1]
    have k0 : W1.cell? ⟨g, 0, none⟩ = some (.int .i64 z0) := (blk_cell hb 0).trans rfl
    have k2 : W1.cell? ⟨g, 2, none⟩ = some (.int .i64 z2) := (blk_cell hb 2).trans rfl
    clear hW hg1 hbl hb HO HK HRR HB hx0 hx1 hx2 hx3 hx4 hx5 hx6
    have HLEN := Aside0.mk (show (entL l a1 i).length < 200 by rw [entL_length]; omega)
    go_region_with (first
     | (go_at_call 27; refine (HM _).out.mono ?_; rintro e wm ⟨rfl, hdm⟩; have k0m := cell_below_ (show W1.drew.cell? ⟨g, 0, none⟩ = some (.int .i64 z0) from k0) hdm; have HOm := Aside0.mk (blk_below (blk_drew HO1.out) hdm); have HKm := Aside0.mk (blk_below (blk_drew HK1.out) hdm); have HRRm := Aside0.mk (Kd.R_below (Kd.R_drew HRR1.out) hdm); have HBm := Aside0.mk (below_step (below_drew1 HB1.out) hdm); clear hdm)
     | (go_at_call 36; refine (entries1 z0 _ _ _ a1 go w.heap.size v _ w _ HOm.out HKm.out HRRm.out HBm.out HGE.out HLEN.out).mono ?_; rintro e wn ⟨rfl, vn, hon, hrn, hbn, hkn⟩; have HOn := Aside0.mk hon; have HKn := Aside0.mk (hkn _ _ _ (by decide) HNE1.out HKm.out); have HRRn := Aside0.mk hrn; have HBn := Aside0.mk hbn; clear hon hrn hbn hkn))
    all_goals
     go_wp2_with (fail)
     go_roundg (l.length - (i + 1))
     case measure => omega
     case rel => exact ⟨i + 1, vn, by omega, by omega, by go_num, HOn, HKn, ⟨by rw [HEE.out]; exact HRRn.out⟩, HBn⟩
  · have hltz : ¬ (i : Int) < (l.length : Int) := by omega
    obtain rfl : i = l.length := by omega
    have k0 : wr.cell? ⟨go, 0, none⟩ = some v := (blk_cell HO.out 0).trans rfl
    clear hlt
    go_wp2_with (fail)
    go_ret2
    exact ⟨_, rfl, HRR.out, HB.out⟩
theorem subchannel_Entries.calls (A0 : Option Addr) (c0 : Nat) (l0 : List (S53)) (a1 : Int) (r1 : List (S27)) (r2 : Int) (w : World) (hr0 : Kd.C k53 w A0 l0.length l0) (hc0 : l0.length ≤ c0) (h : subchannel_Entries.f l0 a1 = some (r1, r2)) :
 Calls Try.prog 13 #[.slice A0 l0.length c0, .int .i64 a1] w fun e w' => ∃ v0_ : Value, e = .returned (.tuple #[v0_, .int .i64 r2]) ∧ Kd.R k27 27 w' w.heap.size (fun _ => True) v0_ r1 ∧ Below w.heap.size w w' := by
 unfold subchannel_Entries.f at h
 split at h
 · rename_i hs
   cases h
   exact entries_yes A0 c0 l0 a1 w hr0 hc0 hs.1 hs.2.1 hs.2.2
 · rename_i hs
   cases h
   exact (entries_no A0 c0 l0 a1 w hr0 hc0 hs).mono fun e w' ⟨he, hb⟩ => ⟨_, he, Kd.R_nil _ _ _ _ _, hb⟩
end Go.Proofs.Ytpmkibggmkibeaa.G
namespace Go.Proofs.Ytpmkibggmkibeaa.G
open Go.RowKit Go.Proofs.YtpmkibggmkibeaaW.PrintWords Go.Proofs.YtpmkibggmkibeaaW.PrintLast Go.Proofs.YtpmkibggmkibeaaW.PrintMore
set_option linter.unusedVariables false
def masterdiscref10_Session.f (l : List (S53)) : Option Bool := some (sesB l)
theorem sesOk_of {l : List (S53)} {i : Nat} {last x0 x1 x2 x3 x4 x5 x6 y0 : Int} (hx : (⟨x0, x1, x2, x3, x4, x5, x6⟩ : S53) = rd_T53 l (i : Int)) (hy : 0 < i → y0 = (rd_T53 l ((i : Int) - 1)).f0) :
 sesOk l i last = decide (1 ≤ x0 ∧ x0 ≤ 99 ∧ (0 < i → x0 = y0 + 1) ∧ last ≤ x2 ∧ x2 ≤ 449849 ∧ 1 ≤ x3 ∧ x3 ≤ 449849 ∧ x2 + x3 ≤ 449849) := by
 unfold sesOk
 rw [← hx, decide_eq_decide]
 constructor
 · rintro ⟨h1, h2, h3, h4⟩
   exact ⟨h1, h2, fun h => by rw [hy h]; exact h3 h, h4⟩
 · rintro ⟨h1, h2, h3, h4⟩
   exact ⟨h1, h2, fun h => by rw [← hy h]; exact h3 h, h4⟩
theorem ses_no {l : List (S53)} {i : Nat} {last : Int} {r : Bool} (hi : i < l.length) (h : sesGo l (l.length - i) i last = r) (ho : sesOk l i last = false) : r = false := by
 rw [show l.length - i = (l.length - (i + 1)) + 1 by omega] at h
 simp only [sesGo, ho, Bool.false_and] at h
 exact h.symm
theorem ses_yes {l : List (S53)} {i : Nat} {last x0 x1 x2 x3 x4 x5 x6 : Int} {r : Bool} (hi : i < l.length) (h : sesGo l (l.length - i) i last = r) (ho : sesOk l i last = true) (hx : (⟨x0, x1, x2, x3, x4, x5, x6⟩ : S53) = rd_T53 l (i : Int)) : sesGo l (l.length - (i + 1)) (i + 1) (x2 + x3) = r := by
 rw [show l.length - i = (l.length - (i + 1)) + 1 by omega] at h
 simp only [sesGo, ho, Bool.true_and, ← hx] at h
 exact h
theorem ses_out {l : List (S53)} (h : l.length < 1 ∨ 99 < l.length) : sesB l = false := by
 unfold sesB
 rw [decide_eq_false (by omega), Bool.false_and]
set_option maxHeartbeats 2000000 in
set_option maxRecDepth 100000 in
theorem refsession_in (A : Option Addr) (c : Nat) (l : List (S53)) (r : Bool) (w : World) (hr : Kd.C k53 w A l.length l) (h1 : 1 ≤ l.length) (h99 : l.length ≤ 99) (h : sesGo l l.length 0 0 = r) :
 Calls Try.prog 32 #[.slice A l.length c] w fun e w' => e = .returned (.bool r) ∧ Below w.heap.size w w' := by
 have HR := Aside0.mk hr
 have hz1 : ¬ (l.length : Int) = 0 := by omega
 have hz2 : ¬ (99 : Int) < (l.length : Int) := by omega
 have hz3 : ((l.length : Int) == 0) = false := beq_eq_false_iff_ne.mpr (by omega)
 have hz4 : (l.length == 0) = false := beq_eq_false_iff_ne.mpr (by omega)
 have H := Aside0.mk h
 clear hr h
 go_enter Try.func32, Try.ntmps32
 go_wp2_with (fail)
 go_loopg [3, 4] l.length (fun gk v3 v4 wr => ∃ (i : Nat) (last : Int), i ≤ l.length ∧ l.length - i ≤ gk ∧ v4 = .int .i64 i ∧ v3 = .int .i64 last ∧ Aside0 (0 ≤ last ∧ last ≤ 449849) ∧ Aside0 (sesGo l (l.length - i) i last = r) ∧ Aside0 (0 < i → 1 ≤ (rd_T53 l ((i : Int) - 1)).f0 ∧ (rd_T53 l ((i : Int) - 1)).f0 ≤ 99) ∧ Aside0 (Below w.heap.size w wr))
 case atStart => exact ⟨0, 0, by omega, by omega, rfl, rfl, ⟨by decide⟩, H, ⟨fun h => absurd h (by omega)⟩, ⟨Below.refl _ _⟩⟩
 case round =>
  obtain ⟨i, last, hi, hg, rfl, rfl, HL, HV, HP, HB⟩ := hrel
  by_cases hlt : i < l.length
  · have hltz : (i : Int) < (l.length : Int) := by omega
    have hi0 : 0 ≤ (i : Int) := by omega
    obtain ⟨ad, rfl, hx0, hx1, hx2, hx3, hx4, hx5, hx6⟩ := at_T53 (Kd.C_below HR.out HB.out) (i : Int) hi0 hltz
    rw [Int.toNat_natCast] at hx0 hx1 hx2 hx3 hx4 hx5 hx6
    obtain ⟨x, hx⟩ : ∃ x, x = rd_T53 l (i : Int) := ⟨_, rfl⟩
    rw [← hx] at hx0 hx1 hx2 hx3 hx4 hx5 hx6
    obtain ⟨x0, x1, x2, x3, x4, x5, x6⟩ := x
    dsimp only at hx0 hx1 hx2 hx3 hx4 hx5 hx6
    have HX := Aside0.mk hx
    have HL0 := HL.out.1
    have HL1 := HL.out.2
    clear hx hz3 hz4
    go_wp2_with (fail)
    generalize hW : wr.alloc _ = W1
    have hlw : ∀ a v, wr.cell? a = some v → W1.cell? a = some v := fun a v h => hW ▸ cell_below_ h ((Below.refl _ _).alloc (Nat.le_refl _) _)
    obtain ⟨g, hg1⟩ : ∃ g, wr.heap.size = g := ⟨_, rfl⟩
    have hb : W1.heap[g]? = some (.cells #[.int .i64 x0, .int .i64 x1, .int .i64 x2, .int .i64 x3, .int .i64 x4, .int .i64 x5, .int .i64 x6] 53 (0, 0)) := by rw [← hW, ← hg1]; exact blk_new wr _
    have hB1 : Below w.heap.size w W1 := by rw [← hW]; exact below_alloc HB.out _
    rw [hg1]
    have HB1 := Aside0.mk hB1
    clear hW hg1 hx0 hx1 hx2 hx3 hx4 hx5 hx6 hB1
    by_cases i0 : 0 < i
    · obtain ⟨y0, hy0⟩ : ∃ y, y = (rd_T53 l ((i : Int) - 1)).f0 := ⟨_, rfl⟩
      have hyc : W1.cell? (ad.add ((i - 1) * 7)) = some (.int .i64 y0) := by
       obtain ⟨ad2, hA, hc0, -⟩ := at_T53 (Kd.C_below HR.out HB.out) ((i : Int) - 1) (by omega) (by omega)
       cases hA
       rw [show ((i : Int) - 1).toNat = i - 1 by omega, ← hy0] at hc0
       exact hlw _ _ hc0
      have HY := Aside0.mk (fun (_ : 0 < i) => hy0)
      clear hy0 hlw HB
      by_cases t1 : x0 < 1
      · have HV2 := Aside0.mk (ses_no hlt HV.out ((sesOk_of HX.out HY.out).trans (decide_eq_false (by rintro ⟨b1, b2, b3, b4, b5, b6, b7, b8⟩; omega))))
        obtain rfl := HV2.out
        have d1 : decide (x0 < 1) = true := decide_eq_true t1
        clear HX HV HP HY
        have k0 : W1.cell? ⟨g, 0, none⟩ = some (.int .i64 x0) := (blk_cell hb 0).trans rfl
        have k1 : W1.cell? ⟨g, 1, none⟩ = some (.int .i64 x1) := (blk_cell hb 1).trans rfl
        have k2 : W1.cell? ⟨g, 2, none⟩ = some (.int .i64 x2) := (blk_cell hb 2).trans rfl
        have k3 : W1.cell? ⟨g, 3, none⟩ = some (.int .i64 x3) := (blk_cell hb 3).trans rfl
        have k4 : W1.cell? ⟨g, 4, none⟩ = some (.int .i64 x4) := (blk_cell hb 4).trans rfl
        have k5 : W1.cell? ⟨g, 5, none⟩ = some (.int .i64 x5) := (blk_cell hb 5).trans rfl
        have k6 : W1.cell? ⟨g, 6, none⟩ = some (.int .i64 x6) := (blk_cell hb 6).trans rfl
        clear hb
        go_quiet (fail)
        go_wp2_with (fail)
        go_ret
        exact ⟨rfl, pw_below_drewN HB1.out _⟩
      by_cases t2 : 99 < x0
      · have HV2 := Aside0.mk (ses_no hlt HV.out ((sesOk_of HX.out HY.out).trans (decide_eq_false (by rintro ⟨b1, b2, b3, b4, b5, b6, b7, b8⟩; omega))))
        obtain rfl := HV2.out
        have d1 : decide (x0 < 1) = false := decide_eq_false t1
        have d2 : decide (99 < x0) = true := decide_eq_true t2
        clear HX HV HP HY
        have k0 : W1.cell? ⟨g, 0, none⟩ = some (.int .i64 x0) := (blk_cell hb 0).trans rfl
        have k1 : W1.cell? ⟨g, 1, none⟩ = some (.int .i64 x1) := (blk_cell hb 1).trans rfl
        have k2 : W1.cell? ⟨g, 2, none⟩ = some (.int .i64 x2) := (blk_cell hb 2).trans rfl
        have k3 : W1.cell? ⟨g, 3, none⟩ = some (.int .i64 x3) := (blk_cell hb 3).trans rfl
        have k4 : W1.cell? ⟨g, 4, none⟩ = some (.int .i64 x4) := (blk_cell hb 4).trans rfl
        have k5 : W1.cell? ⟨g, 5, none⟩ = some (.int .i64 x5) := (blk_cell hb 5).trans rfl
        have k6 : W1.cell? ⟨g, 6, none⟩ = some (.int .i64 x6) := (blk_cell hb 6).trans rfl
        clear hb
        go_quiet (fail)
        go_wp2_with (fail)
        go_ret
        exact ⟨rfl, pw_below_drewN HB1.out _⟩
      by_cases t3 : x0 ≠ y0 + 1
      · have HV2 := Aside0.mk (ses_no hlt HV.out ((sesOk_of HX.out HY.out).trans (decide_eq_false (by rintro ⟨b1, b2, b3, b4, b5, b6, b7, b8⟩; exact absurd (b3 i0) t3))))
        obtain rfl := HV2.out
        have d1 : decide (x0 < 1) = false := decide_eq_false t1
        have d2 : decide (99 < x0) = false := decide_eq_false t2
        have d3 : (x0 != y0 + 1) = true := by simp [t3]
        have hy12 := HP.out i0
        rw [← HY.out i0] at hy12
        have hy1 := hy12.1
        have hy2 := hy12.2
        have hzi : (0 : Int) < (i : Int) := by omega
        have hzi1 : 0 ≤ (i : Int) - 1 := by omega
        have hzi2 : (i : Int) - 1 < (l.length : Int) := by omega
        have hzt : ((i : Int) - 1).toNat = i - 1 := by omega
        have hzi3 : (1 : Int) ≤ (i : Int) := by omega
        have hzi4 : (i : Int) ≤ (l.length : Int) := by omega
        have hzi5 : 1 ≤ i := i0
        have hzi6 : ¬ ((i : Int) < 1) := by omega
        have hw1 : IntKind.i64.wrap ((i : Int) - 1) = (i : Int) - 1 := IntWalk.i64_in _ (by omega)
        have hw2 : IntKind.i64.wrap (y0 + 1) = y0 + 1 := IntWalk.i64_in _ (by omega)
        clear hy12
        clear HX HV HP HY
        clear t3
        have k0 : W1.cell? ⟨g, 0, none⟩ = some (.int .i64 x0) := (blk_cell hb 0).trans rfl
        have k1 : W1.cell? ⟨g, 1, none⟩ = some (.int .i64 x1) := (blk_cell hb 1).trans rfl
        have k2 : W1.cell? ⟨g, 2, none⟩ = some (.int .i64 x2) := (blk_cell hb 2).trans rfl
        have k3 : W1.cell? ⟨g, 3, none⟩ = some (.int .i64 x3) := (blk_cell hb 3).trans rfl
        have k4 : W1.cell? ⟨g, 4, none⟩ = some (.int .i64 x4) := (blk_cell hb 4).trans rfl
        have k5 : W1.cell? ⟨g, 5, none⟩ = some (.int .i64 x5) := (blk_cell hb 5).trans rfl
        have k6 : W1.cell? ⟨g, 6, none⟩ = some (.int .i64 x6) := (blk_cell hb 6).trans rfl
        clear hb
        go_quiet (fail)
        go_wp2_with (fail)
        go_ret
        exact ⟨rfl, pw_below_drewN HB1.out _⟩
      replace t3 : x0 = y0 + 1 := Decidable.not_not.mp t3
      by_cases t4 : x2 < last
      · have HV2 := Aside0.mk (ses_no hlt HV.out ((sesOk_of HX.out HY.out).trans (decide_eq_false (by rintro ⟨b1, b2, b3, b4, b5, b6, b7, b8⟩; omega))))
        obtain rfl := HV2.out
        have d1 : decide (x0 < 1) = false := decide_eq_false t1
        have d2 : decide (99 < x0) = false := decide_eq_false t2
        have d3 : (x0 != y0 + 1) = false := by simp [t3]
        have d4 : decide (x2 < last) = true := decide_eq_true t4
        have hy12 := HP.out i0
        rw [← HY.out i0] at hy12
        have hy1 := hy12.1
        have hy2 := hy12.2
        have hzi : (0 : Int) < (i : Int) := by omega
        have hzi1 : 0 ≤ (i : Int) - 1 := by omega
        have hzi2 : (i : Int) - 1 < (l.length : Int) := by omega
        have hzt : ((i : Int) - 1).toNat = i - 1 := by omega
        have hzi3 : (1 : Int) ≤ (i : Int) := by omega
        have hzi4 : (i : Int) ≤ (l.length : Int) := by omega
        have hzi5 : 1 ≤ i := i0
        have hzi6 : ¬ ((i : Int) < 1) := by omega
        have hw1 : IntKind.i64.wrap ((i : Int) - 1) = (i : Int) - 1 := IntWalk.i64_in _ (by omega)
        have hw2 : IntKind.i64.wrap (y0 + 1) = y0 + 1 := IntWalk.i64_in _ (by omega)
        clear hy12
        clear HX HV HP HY
        clear t3
        have k0 : W1.cell? ⟨g, 0, none⟩ = some (.int .i64 x0) := (blk_cell hb 0).trans rfl
        have k1 : W1.cell? ⟨g, 1, none⟩ = some (.int .i64 x1) := (blk_cell hb 1).trans rfl
        have k2 : W1.cell? ⟨g, 2, none⟩ = some (.int .i64 x2) := (blk_cell hb 2).trans rfl
        have k3 : W1.cell? ⟨g, 3, none⟩ = some (.int .i64 x3) := (blk_cell hb 3).trans rfl
        have k4 : W1.cell? ⟨g, 4, none⟩ = some (.int .i64 x4) := (blk_cell hb 4).trans rfl
        have k5 : W1.cell? ⟨g, 5, none⟩ = some (.int .i64 x5) := (blk_cell hb 5).trans rfl
        have k6 : W1.cell? ⟨g, 6, none⟩ = some (.int .i64 x6) := (blk_cell hb 6).trans rfl
        clear hb
        go_quiet (fail)
        go_wp2_with (fail)
        go_ret
        exact ⟨rfl, pw_below_drewN HB1.out _⟩
      by_cases t5 : 449849 < x2
      · have HV2 := Aside0.mk (ses_no hlt HV.out ((sesOk_of HX.out HY.out).trans (decide_eq_false (by rintro ⟨b1, b2, b3, b4, b5, b6, b7, b8⟩; omega))))
        obtain rfl := HV2.out
        have d1 : decide (x0 < 1) = false := decide_eq_false t1
        have d2 : decide (99 < x0) = false := decide_eq_false t2
        have d3 : (x0 != y0 + 1) = false := by simp [t3]
        have d4 : decide (x2 < last) = false := decide_eq_false t4
        have d5 : decide (449849 < x2) = true := decide_eq_true t5
        have hy12 := HP.out i0
        rw [← HY.out i0] at hy12
        have hy1 := hy12.1
        have hy2 := hy12.2
        have hzi : (0 : Int) < (i : Int) := by omega
        have hzi1 : 0 ≤ (i : Int) - 1 := by omega
        have hzi2 : (i : Int) - 1 < (l.length : Int) := by omega
        have hzt : ((i : Int) - 1).toNat = i - 1 := by omega
        have hzi3 : (1 : Int) ≤ (i : Int) := by omega
        have hzi4 : (i : Int) ≤ (l.length : Int) := by omega
        have hzi5 : 1 ≤ i := i0
        have hzi6 : ¬ ((i : Int) < 1) := by omega
        have hw1 : IntKind.i64.wrap ((i : Int) - 1) = (i : Int) - 1 := IntWalk.i64_in _ (by omega)
        have hw2 : IntKind.i64.wrap (y0 + 1) = y0 + 1 := IntWalk.i64_in _ (by omega)
        clear hy12
        clear HX HV HP HY
        clear t3
        have k0 : W1.cell? ⟨g, 0, none⟩ = some (.int .i64 x0) := (blk_cell hb 0).trans rfl
        have k1 : W1.cell? ⟨g, 1, none⟩ = some (.int .i64 x1) := (blk_cell hb 1).trans rfl
        have k2 : W1.cell? ⟨g, 2, none⟩ = some (.int .i64 x2) := (blk_cell hb 2).trans rfl
        have k3 : W1.cell? ⟨g, 3, none⟩ = some (.int .i64 x3) := (blk_cell hb 3).trans rfl
        have k4 : W1.cell? ⟨g, 4, none⟩ = some (.int .i64 x4) := (blk_cell hb 4).trans rfl
        have k5 : W1.cell? ⟨g, 5, none⟩ = some (.int .i64 x5) := (blk_cell hb 5).trans rfl
        have k6 : W1.cell? ⟨g, 6, none⟩ = some (.int .i64 x6) := (blk_cell hb 6).trans rfl
        clear hb
        go_quiet (fail)
        go_wp2_with (fail)
        go_ret
        exact ⟨rfl, pw_below_drewN HB1.out _⟩
      by_cases t6 : x3 < 1
      · have HV2 := Aside0.mk (ses_no hlt HV.out ((sesOk_of HX.out HY.out).trans (decide_eq_false (by rintro ⟨b1, b2, b3, b4, b5, b6, b7, b8⟩; omega))))
        obtain rfl := HV2.out
        have d1 : decide (x0 < 1) = false := decide_eq_false t1
        have d2 : decide (99 < x0) = false := decide_eq_false t2
        have d3 : (x0 != y0 + 1) = false := by simp [t3]
        have d4 : decide (x2 < last) = false := decide_eq_false t4
        have d5 : decide (449849 < x2) = false := decide_eq_false t5
        have d6 : decide (x3 < 1) = true := decide_eq_true t6
        have hy12 := HP.out i0
        rw [← HY.out i0] at hy12
        have hy1 := hy12.1
        have hy2 := hy12.2
        have hzi : (0 : Int) < (i : Int) := by omega
        have hzi1 : 0 ≤ (i : Int) - 1 := by omega
        have hzi2 : (i : Int) - 1 < (l.length : Int) := by omega
        have hzt : ((i : Int) - 1).toNat = i - 1 := by omega
        have hzi3 : (1 : Int) ≤ (i : Int) := by omega
        have hzi4 : (i : Int) ≤ (l.length : Int) := by omega
        have hzi5 : 1 ≤ i := i0
        have hzi6 : ¬ ((i : Int) < 1) := by omega
        have hw1 : IntKind.i64.wrap ((i : Int) - 1) = (i : Int) - 1 := IntWalk.i64_in _ (by omega)
        have hw2 : IntKind.i64.wrap (y0 + 1) = y0 + 1 := IntWalk.i64_in _ (by omega)
        clear hy12
        clear HX HV HP HY
        clear t3
        have k0 : W1.cell? ⟨g, 0, none⟩ = some (.int .i64 x0) := (blk_cell hb 0).trans rfl
        have k1 : W1.cell? ⟨g, 1, none⟩ = some (.int .i64 x1) := (blk_cell hb 1).trans rfl
        have k2 : W1.cell? ⟨g, 2, none⟩ = some (.int .i64 x2) := (blk_cell hb 2).trans rfl
        have k3 : W1.cell? ⟨g, 3, none⟩ = some (.int .i64 x3) := (blk_cell hb 3).trans rfl
        have k4 : W1.cell? ⟨g, 4, none⟩ = some (.int .i64 x4) := (blk_cell hb 4).trans rfl
        have k5 : W1.cell? ⟨g, 5, none⟩ = some (.int .i64 x5) := (blk_cell hb 5).trans rfl
        have k6 : W1.cell? ⟨g, 6, none⟩ = some (.int .i64 x6) := (blk_cell hb 6).trans rfl
        clear hb
        go_quiet (fail)
        go_wp2_with (fail)
        go_ret
        exact ⟨rfl, pw_below_drewN HB1.out _⟩
      by_cases t7 : 449849 - x2 < x3
      · have HV2 := Aside0.mk (ses_no hlt HV.out ((sesOk_of HX.out HY.out).trans (decide_eq_false (by rintro ⟨b1, b2, b3, b4, b5, b6, b7, b8⟩; omega))))
        obtain rfl := HV2.out
        have d1 : decide (x0 < 1) = false := decide_eq_false t1
        have d2 : decide (99 < x0) = false := decide_eq_false t2
        have d3 : (x0 != y0 + 1) = false := by simp [t3]
        have d4 : decide (x2 < last) = false := decide_eq_false t4
        have d5 : decide (449849 < x2) = false := decide_eq_false t5
        have d6 : decide (x3 < 1) = false := decide_eq_false t6
        have d7 : decide (449849 - x2 < x3) = true := decide_eq_true t7
        have hy12 := HP.out i0
        rw [← HY.out i0] at hy12
        have hy1 := hy12.1
        have hy2 := hy12.2
        have hzi : (0 : Int) < (i : Int) := by omega
        have hzi1 : 0 ≤ (i : Int) - 1 := by omega
        have hzi2 : (i : Int) - 1 < (l.length : Int) := by omega
        have hzt : ((i : Int) - 1).toNat = i - 1 := by omega
        have hzi3 : (1 : Int) ≤ (i : Int) := by omega
        have hzi4 : (i : Int) ≤ (l.length : Int) := by omega
        have hzi5 : 1 ≤ i := i0
        have hzi6 : ¬ ((i : Int) < 1) := by omega
        have hw1 : IntKind.i64.wrap ((i : Int) - 1) = (i : Int) - 1 := IntWalk.i64_in _ (by omega)
        have hw2 : IntKind.i64.wrap (y0 + 1) = y0 + 1 := IntWalk.i64_in _ (by omega)
        clear hy12
        have hw3 : IntKind.i64.wrap (449849 - x2) = 449849 - x2 := IntWalk.i64_in _ (by omega)
        clear HX HV HP HY
        clear t3
        have k0 : W1.cell? ⟨g, 0, none⟩ = some (.int .i64 x0) := (blk_cell hb 0).trans rfl
        have k1 : W1.cell? ⟨g, 1, none⟩ = some (.int .i64 x1) := (blk_cell hb 1).trans rfl
        have k2 : W1.cell? ⟨g, 2, none⟩ = some (.int .i64 x2) := (blk_cell hb 2).trans rfl
        have k3 : W1.cell? ⟨g, 3, none⟩ = some (.int .i64 x3) := (blk_cell hb 3).trans rfl
        have k4 : W1.cell? ⟨g, 4, none⟩ = some (.int .i64 x4) := (blk_cell hb 4).trans rfl
        have k5 : W1.cell? ⟨g, 5, none⟩ = some (.int .i64 x5) := (blk_cell hb 5).trans rfl
        have k6 : W1.cell? ⟨g, 6, none⟩ = some (.int .i64 x6) := (blk_cell hb 6).trans rfl
        clear hb
        go_quiet (fail)
        go_wp2_with (fail)
        go_ret
        exact ⟨rfl, pw_below_drewN HB1.out _⟩
      have HV2 := Aside0.mk (ses_yes hlt HV.out ((sesOk_of HX.out HY.out).trans (decide_eq_true ⟨by omega, by omega, fun _ => by omega, by omega, by omega, by omega, by omega, by omega⟩)) HX.out)
      have d1 : decide (x0 < 1) = false := decide_eq_false t1
      have d2 : decide (99 < x0) = false := decide_eq_false t2
      have d3 : (x0 != y0 + 1) = false := by simp [t3]
      have d4 : decide (x2 < last) = false := decide_eq_false t4
      have d5 : decide (449849 < x2) = false := decide_eq_false t5
      have d6 : decide (x3 < 1) = false := decide_eq_false t6
      have d7 : decide (449849 - x2 < x3) = false := decide_eq_false t7
      have hy12 := HP.out i0
      rw [← HY.out i0] at hy12
      have hy1 := hy12.1
      have hy2 := hy12.2
      have hzi : (0 : Int) < (i : Int) := by omega
      have hzi1 : 0 ≤ (i : Int) - 1 := by omega
      have hzi2 : (i : Int) - 1 < (l.length : Int) := by omega
      have hzt : ((i : Int) - 1).toNat = i - 1 := by omega
      have hzi3 : (1 : Int) ≤ (i : Int) := by omega
      have hzi4 : (i : Int) ≤ (l.length : Int) := by omega
      have hzi5 : 1 ≤ i := i0
      have hzi6 : ¬ ((i : Int) < 1) := by omega
      have hw1 : IntKind.i64.wrap ((i : Int) - 1) = (i : Int) - 1 := IntWalk.i64_in _ (by omega)
      have hw2 : IntKind.i64.wrap (y0 + 1) = y0 + 1 := IntWalk.i64_in _ (by omega)
      clear hy12
      have hw3 : IntKind.i64.wrap (449849 - x2) = 449849 - x2 := IntWalk.i64_in _ (by omega)
      have hs1 : 0 ≤ x2 + x3 := by omega
      have hs2 : x2 + x3 ≤ 449849 := by omega
      have HP2 := Aside0.mk (show 1 ≤ x0 ∧ x0 ≤ 99 by omega)
      have HSS := Aside0.mk (And.intro hs1 hs2)
      have hw4 : IntKind.i64.wrap (x2 + x3) = x2 + x3 := IntWalk.i64_in _ (by omega)
      clear HV HP HY
      clear t3
      have k0 : W1.cell? ⟨g, 0, none⟩ = some (.int .i64 x0) := (blk_cell hb 0).trans rfl
      have k1 : W1.cell? ⟨g, 1, none⟩ = some (.int .i64 x1) := (blk_cell hb 1).trans rfl
      have k2 : W1.cell? ⟨g, 2, none⟩ = some (.int .i64 x2) := (blk_cell hb 2).trans rfl
      have k3 : W1.cell? ⟨g, 3, none⟩ = some (.int .i64 x3) := (blk_cell hb 3).trans rfl
      have k4 : W1.cell? ⟨g, 4, none⟩ = some (.int .i64 x4) := (blk_cell hb 4).trans rfl
      have k5 : W1.cell? ⟨g, 5, none⟩ = some (.int .i64 x5) := (blk_cell hb 5).trans rfl
      have k6 : W1.cell? ⟨g, 6, none⟩ = some (.int .i64 x6) := (blk_cell hb 6).trans rfl
      clear hb
      go_quiet (fail)
      go_wp2_with (fail)
      try go_quiet (fail)
      try go_wp2_with (fail)
      go_roundg (l.length - (i + 1))
      case measure => omega
      case rel => exact ⟨i + 1, x2 + x3, by omega, by omega, by go_num, rfl, HSS, HV2, ⟨fun _ => by rw [show (((i + 1 : Nat) : Int) - 1) = (i : Int) by omega, ← HX.out]; exact HP2.out⟩, ⟨by first | exact pw_below_drewN HB1.out _ | exact below_drew1 (pw_below_drewN HB1.out _) | exact pw_below_drewN (pw_below_drewN HB1.out _) _⟩⟩
    · obtain rfl : i = 0 := by omega
      obtain ⟨y0, hy0⟩ : ∃ y : Int, y = 0 := ⟨_, rfl⟩
      have HY : Aside0 (0 < 0 → y0 = (rd_T53 l (((0 : Nat) : Int) - 1)).f0) := ⟨fun h => absurd h (by omega)⟩
      clear hy0 hlw HB i0
      rw [show ((0 : Nat) : Int) = (0 : Int) from rfl] at hltz hi0 ⊢
      by_cases t1 : x0 < 1
      · have HV2 := Aside0.mk (ses_no hlt HV.out ((sesOk_of HX.out HY.out).trans (decide_eq_false (by rintro ⟨b1, b2, b3, b4, b5, b6, b7, b8⟩; omega))))
        obtain rfl := HV2.out
        have d1 : decide (x0 < 1) = true := decide_eq_true t1
        clear HX HV HP HY
        have k0 : W1.cell? ⟨g, 0, none⟩ = some (.int .i64 x0) := (blk_cell hb 0).trans rfl
        have k1 : W1.cell? ⟨g, 1, none⟩ = some (.int .i64 x1) := (blk_cell hb 1).trans rfl
        have k2 : W1.cell? ⟨g, 2, none⟩ = some (.int .i64 x2) := (blk_cell hb 2).trans rfl
        have k3 : W1.cell? ⟨g, 3, none⟩ = some (.int .i64 x3) := (blk_cell hb 3).trans rfl
        have k4 : W1.cell? ⟨g, 4, none⟩ = some (.int .i64 x4) := (blk_cell hb 4).trans rfl
        have k5 : W1.cell? ⟨g, 5, none⟩ = some (.int .i64 x5) := (blk_cell hb 5).trans rfl
        have k6 : W1.cell? ⟨g, 6, none⟩ = some (.int .i64 x6) := (blk_cell hb 6).trans rfl
        clear hb
        go_quiet (fail)
        go_wp2_with (fail)
        go_ret
        exact ⟨rfl, pw_below_drewN HB1.out _⟩
      by_cases t2 : 99 < x0
      · have HV2 := Aside0.mk (ses_no hlt HV.out ((sesOk_of HX.out HY.out).trans (decide_eq_false (by rintro ⟨b1, b2, b3, b4, b5, b6, b7, b8⟩; omega))))
        obtain rfl := HV2.out
        have d1 : decide (x0 < 1) = false := decide_eq_false t1
        have d2 : decide (99 < x0) = true := decide_eq_true t2
        clear HX HV HP HY
        have k0 : W1.cell? ⟨g, 0, none⟩ = some (.int .i64 x0) := (blk_cell hb 0).trans rfl
        have k1 : W1.cell? ⟨g, 1, none⟩ = some (.int .i64 x1) := (blk_cell hb 1).trans rfl
        have k2 : W1.cell? ⟨g, 2, none⟩ = some (.int .i64 x2) := (blk_cell hb 2).trans rfl
        have k3 : W1.cell? ⟨g, 3, none⟩ = some (.int .i64 x3) := (blk_cell hb 3).trans rfl
        have k4 : W1.cell? ⟨g, 4, none⟩ = some (.int .i64 x4) := (blk_cell hb 4).trans rfl
        have k5 : W1.cell? ⟨g, 5, none⟩ = some (.int .i64 x5) := (blk_cell hb 5).trans rfl
        have k6 : W1.cell? ⟨g, 6, none⟩ = some (.int .i64 x6) := (blk_cell hb 6).trans rfl
        clear hb
        go_quiet (fail)
        go_wp2_with (fail)
        go_ret
        exact ⟨rfl, pw_below_drewN HB1.out _⟩
      by_cases t4 : x2 < last
      · have HV2 := Aside0.mk (ses_no hlt HV.out ((sesOk_of HX.out HY.out).trans (decide_eq_false (by rintro ⟨b1, b2, b3, b4, b5, b6, b7, b8⟩; omega))))
        obtain rfl := HV2.out
        have d1 : decide (x0 < 1) = false := decide_eq_false t1
        have d2 : decide (99 < x0) = false := decide_eq_false t2
        have d4 : decide (x2 < last) = true := decide_eq_true t4
        clear HX HV HP HY
        have k0 : W1.cell? ⟨g, 0, none⟩ = some (.int .i64 x0) := (blk_cell hb 0).trans rfl
        have k1 : W1.cell? ⟨g, 1, none⟩ = some (.int .i64 x1) := (blk_cell hb 1).trans rfl
        have k2 : W1.cell? ⟨g, 2, none⟩ = some (.int .i64 x2) := (blk_cell hb 2).trans rfl
        have k3 : W1.cell? ⟨g, 3, none⟩ = some (.int .i64 x3) := (blk_cell hb 3).trans rfl
        have k4 : W1.cell? ⟨g, 4, none⟩ = some (.int .i64 x4) := (blk_cell hb 4).trans rfl
        have k5 : W1.cell? ⟨g, 5, none⟩ = some (.int .i64 x5) := (blk_cell hb 5).trans rfl
        have k6 : W1.cell? ⟨g, 6, none⟩ = some (.int .i64 x6) := (blk_cell hb 6).trans rfl
        clear hb
        go_quiet (fail)
        go_wp2_with (fail)
        go_ret
        exact ⟨rfl, pw_below_drewN HB1.out _⟩
      by_cases t5 : 449849 < x2
      · have HV2 := Aside0.mk (ses_no hlt HV.out ((sesOk_of HX.out HY.out).trans (decide_eq_false (by rintro ⟨b1, b2, b3, b4, b5, b6, b7, b8⟩; omega))))
        obtain rfl := HV2.out
        have d1 : decide (x0 < 1) = false := decide_eq_false t1
        have d2 : decide (99 < x0) = false := decide_eq_false t2
        have d4 : decide (x2 < last) = false := decide_eq_false t4
        have d5 : decide (449849 < x2) = true := decide_eq_true t5
        clear HX HV HP HY
        have k0 : W1.cell? ⟨g, 0, none⟩ = some (.int .i64 x0) := (blk_cell hb 0).trans rfl
        have k1 : W1.cell? ⟨g, 1, none⟩ = some (.int .i64 x1) := (blk_cell hb 1).trans rfl
        have k2 : W1.cell? ⟨g, 2, none⟩ = some (.int .i64 x2) := (blk_cell hb 2).trans rfl
        have k3 : W1.cell? ⟨g, 3, none⟩ = some (.int .i64 x3) := (blk_cell hb 3).trans rfl
        have k4 : W1.cell? ⟨g, 4, none⟩ = some (.int .i64 x4) := (blk_cell hb 4).trans rfl
        have k5 : W1.cell? ⟨g, 5, none⟩ = some (.int .i64 x5) := (blk_cell hb 5).trans rfl
        have k6 : W1.cell? ⟨g, 6, none⟩ = some (.int .i64 x6) := (blk_cell hb 6).trans rfl
        clear hb
        go_quiet (fail)
        go_wp2_with (fail)
        go_ret
        exact ⟨rfl, pw_below_drewN HB1.out _⟩
      by_cases t6 : x3 < 1
      · have HV2 := Aside0.mk (ses_no hlt HV.out ((sesOk_of HX.out HY.out).trans (decide_eq_false (by rintro ⟨b1, b2, b3, b4, b5, b6, b7, b8⟩; omega))))
        obtain rfl := HV2.out
        have d1 : decide (x0 < 1) = false := decide_eq_false t1
        have d2 : decide (99 < x0) = false := decide_eq_false t2
        have d4 : decide (x2 < last) = false := decide_eq_false t4
        have d5 : decide (449849 < x2) = false := decide_eq_false t5
        have d6 : decide (x3 < 1) = true := decide_eq_true t6
        clear HX HV HP HY
        have k0 : W1.cell? ⟨g, 0, none⟩ = some (.int .i64 x0) := (blk_cell hb 0).trans rfl
        have k1 : W1.cell? ⟨g, 1, none⟩ = some (.int .i64 x1) := (blk_cell hb 1).trans rfl
        have k2 : W1.cell? ⟨g, 2, none⟩ = some (.int .i64 x2) := (blk_cell hb 2).trans rfl
        have k3 : W1.cell? ⟨g, 3, none⟩ = some (.int .i64 x3) := (blk_cell hb 3).trans rfl
        have k4 : W1.cell? ⟨g, 4, none⟩ = some (.int .i64 x4) := (blk_cell hb 4).trans rfl
        have k5 : W1.cell? ⟨g, 5, none⟩ = some (.int .i64 x5) := (blk_cell hb 5).trans rfl
        have k6 : W1.cell? ⟨g, 6, none⟩ = some (.int .i64 x6) := (blk_cell hb 6).trans rfl
        clear hb
        go_quiet (fail)
        go_wp2_with (fail)
        go_ret
        exact ⟨rfl, pw_below_drewN HB1.out _⟩
      by_cases t7 : 449849 - x2 < x3
      · have HV2 := Aside0.mk (ses_no hlt HV.out ((sesOk_of HX.out HY.out).trans (decide_eq_false (by rintro ⟨b1, b2, b3, b4, b5, b6, b7, b8⟩; omega))))
        obtain rfl := HV2.out
        have d1 : decide (x0 < 1) = false := decide_eq_false t1
        have d2 : decide (99 < x0) = false := decide_eq_false t2
        have d4 : decide (x2 < last) = false := decide_eq_false t4
        have d5 : decide (449849 < x2) = false := decide_eq_false t5
        have d6 : decide (x3 < 1) = false := decide_eq_false t6
        have d7 : decide (449849 - x2 < x3) = true := decide_eq_true t7
        have hw3 : IntKind.i64.wrap (449849 - x2) = 449849 - x2 := IntWalk.i64_in _ (by omega)
        clear HX HV HP HY
        have k0 : W1.cell? ⟨g, 0, none⟩ = some (.int .i64 x0) := (blk_cell hb 0).trans rfl
        have k1 : W1.cell? ⟨g, 1, none⟩ = some (.int .i64 x1) := (blk_cell hb 1).trans rfl
        have k2 : W1.cell? ⟨g, 2, none⟩ = some (.int .i64 x2) := (blk_cell hb 2).trans rfl
        have k3 : W1.cell? ⟨g, 3, none⟩ = some (.int .i64 x3) := (blk_cell hb 3).trans rfl
        have k4 : W1.cell? ⟨g, 4, none⟩ = some (.int .i64 x4) := (blk_cell hb 4).trans rfl
        have k5 : W1.cell? ⟨g, 5, none⟩ = some (.int .i64 x5) := (blk_cell hb 5).trans rfl
        have k6 : W1.cell? ⟨g, 6, none⟩ = some (.int .i64 x6) := (blk_cell hb 6).trans rfl
        clear hb
        go_quiet (fail)
        go_wp2_with (fail)
        go_ret
        exact ⟨rfl, pw_below_drewN HB1.out _⟩
      have HV2 := Aside0.mk (ses_yes hlt HV.out ((sesOk_of HX.out HY.out).trans (decide_eq_true ⟨by omega, by omega, fun h => absurd h (by omega), by omega, by omega, by omega, by omega, by omega⟩)) HX.out)
      have d1 : decide (x0 < 1) = false := decide_eq_false t1
      have d2 : decide (99 < x0) = false := decide_eq_false t2
      have d4 : decide (x2 < last) = false := decide_eq_false t4
      have d5 : decide (449849 < x2) = false := decide_eq_false t5
      have d6 : decide (x3 < 1) = false := decide_eq_false t6
      have d7 : decide (449849 - x2 < x3) = false := decide_eq_false t7
      have hw3 : IntKind.i64.wrap (449849 - x2) = 449849 - x2 := IntWalk.i64_in _ (by omega)
      have hs1 : 0 ≤ x2 + x3 := by omega
      have hs2 : x2 + x3 ≤ 449849 := by omega
      have HP2 := Aside0.mk (show 1 ≤ x0 ∧ x0 ≤ 99 by omega)
      have HSS := Aside0.mk (And.intro hs1 hs2)
      have hw4 : IntKind.i64.wrap (x2 + x3) = x2 + x3 := IntWalk.i64_in _ (by omega)
      clear HV HP HY
      have k0 : W1.cell? ⟨g, 0, none⟩ = some (.int .i64 x0) := (blk_cell hb 0).trans rfl
      have k1 : W1.cell? ⟨g, 1, none⟩ = some (.int .i64 x1) := (blk_cell hb 1).trans rfl
      have k2 : W1.cell? ⟨g, 2, none⟩ = some (.int .i64 x2) := (blk_cell hb 2).trans rfl
      have k3 : W1.cell? ⟨g, 3, none⟩ = some (.int .i64 x3) := (blk_cell hb 3).trans rfl
      have k4 : W1.cell? ⟨g, 4, none⟩ = some (.int .i64 x4) := (blk_cell hb 4).trans rfl
      have k5 : W1.cell? ⟨g, 5, none⟩ = some (.int .i64 x5) := (blk_cell hb 5).trans rfl
      have k6 : W1.cell? ⟨g, 6, none⟩ = some (.int .i64 x6) := (blk_cell hb 6).trans rfl
      clear hb
      go_quiet (fail)
      go_wp2_with (fail)
      try go_quiet (fail)
      try go_wp2_with (fail)
      go_roundg (l.length - (0 + 1))
      case measure => omega
      case rel => exact ⟨0 + 1, x2 + x3, by omega, by omega, by go_num, rfl, HSS, HV2, ⟨fun _ => by rw [show (((0 + 1 : Nat) : Int) - 1) = ((0 : Nat) : Int) by omega, ← HX.out]; exact HP2.out⟩, ⟨by first | exact pw_below_drewN HB1.out _ | exact below_drew1 (pw_below_drewN HB1.out _) | exact pw_below_drewN (pw_below_drewN HB1.out _) _⟩⟩
  · have hltz : ¬ (i : Int) < (l.length : Int) := by omega
    have hv := HV.out
    rw [show l.length - i = 0 by omega] at hv
    have HV2 := Aside0.mk (show r = true from hv.symm)
    clear hv HV
    go_wp2_with (fail)
    go_ret
    exact ⟨by rw [HV2.out]; rfl, HB.out⟩
set_option maxHeartbeats 400000 in
set_option maxRecDepth 100000 in
theorem refsession_out (A : Option Addr) (c : Nat) (l : List (S53)) (w : World) (hr : Kd.C k53 w A l.length l) (h : l.length < 1 ∨ 99 < l.length) :
 Calls Try.prog 32 #[.slice A l.length c] w fun e w' => e = .returned (.bool false) ∧ Below w.heap.size w w' := by
 have HM := Kd.C_max hr
 rcases h with h | h
 · have hz3 : ((l.length : Int) == 0) = true := beq_iff_eq.mpr (by omega)
   have hz4 : (l.length == 0) = true := beq_iff_eq.mpr (by omega)
   have hz5 : l.length = 0 := by omega
   clear hr
   go_enter Try.func32, Try.ntmps32
   go_wp2_with (fail)
   go_ret
   exact ⟨by simp, Below.refl _ _⟩
 · have hz3 : ((l.length : Int) == 0) = false := beq_eq_false_iff_ne.mpr (by omega)
   have hz4 : (l.length == 0) = false := beq_eq_false_iff_ne.mpr (by omega)
   have hz1 : ¬ (l.length : Int) = 0 := by omega
   have hz6 : ¬ l.length = 0 := by omega
   have hz2 : (99 : Int) < (l.length : Int) := by omega
   have hz7 : decide ((99 : Int) < (l.length : Int)) = true := decide_eq_true hz2
   clear hr
   go_enter Try.func32, Try.ntmps32
   go_wp2_with (fail)
   go_ret
   exact ⟨by simp, Below.refl _ _⟩
theorem masterdiscref10_Session.calls (A0 : Option Addr) (c0 : Nat) (l0 : List (S53)) (r : Bool) (w : World) (hr0 : Kd.C k53 w A0 l0.length l0) (hc0 : l0.length ≤ c0) (h : masterdiscref10_Session.f l0 = some r) :
 Calls Try.prog 32 #[.slice A0 l0.length c0] w fun e w' => e = .returned (.bool r) ∧ Below w.heap.size w w' := by
 obtain rfl := Option.some.inj h
 by_cases hl : l0.length < 1 ∨ 99 < l0.length
 · rw [ses_out hl]
   exact refsession_out A0 c0 l0 w hr0 hl
 · have e : sesB l0 = sesGo l0 l0.length 0 0 := by unfold sesB; rw [decide_eq_true (by omega), Bool.true_and]
   rw [e]
   exact refsession_in A0 c0 l0 _ w hr0 (by omega) (by omega) rfl
end Go.Proofs.Ytpmkibggmkibeaa.G
namespace Go.Proofs.Ytpmkibggmkibeaa.G
open Go.RowKit Go.Proofs.YtpmkibggmkibeaaW.PrintWords Go.Proofs.YtpmkibggmkibeaaW.PrintLast Go.Proofs.YtpmkibggmkibeaaW.PrintMore
attribute [local go_sem] max2_int min2_int max_two min_two max_three min_three max_four min_four   -- for this text's walks alone
set_option linter.unusedVariables false
set_option linter.unusedSimpArgs false
def masterdiscref06_ToMSF.f (a0 : Int) : Option (Int × Int × Int × Int) := if a0 < (-150) then (some (0, 0, 0, 2)) else (if a0 > 449849 then (some (0, 0, 0, 2)) else (some (wrap64 (Int.tdiv (wrap64 (a0 + 150)) 4500), Int.tmod (wrap64 (Int.tdiv (wrap64 (a0 + 150)) 75)) 60, Int.tmod (wrap64 (a0 + 150)) 75, 0)))
set_option maxHeartbeats 8000000 in
set_option maxRecDepth 100000 in
theorem masterdiscref06_ToMSF.calls (a0 : Int) (r1 : Int) (r2 : Int) (r3 : Int) (r4 : Int) (w : World) (h : masterdiscref06_ToMSF.f a0 = some (r1, r2, r3, r4)) :
 Calls Try.prog 33 #[.int .i64 a0] w fun e w' => e = .returned (.tuple #[.agg #[.int .i64 r1, .int .i64 r2, .int .i64 r3], .int .i64 r4]) ∧ Below w.heap.size w w' := by
 have hu25 := Try.underlying25
 have HB := Aside0.mk (Below.refl w.heap.size w)
 have H : (if a0 < (-150) then (some (0, 0, 0, 2)) else (if a0 > 449849 then (some (0, 0, 0, 2)) else (some (wrap64 (Int.tdiv (wrap64 (a0 + 150)) 4500), Int.tmod (wrap64 (Int.tdiv (wrap64 (a0 + 150)) 75)) 60, Int.tmod (wrap64 (a0 + 150)) 75, 0)))) = some (r1, r2, r3, r4) := h
 clear h
 by_cases c2 : a0 < (-150)
 · rw [if_pos c2] at H
   have c2b0 : decide (a0 < (-150)) = true := decide_eq_true c2
   clear c2
   simp only [Option.some.injEq, Prod.mk.injEq] at H
   obtain ⟨rfl, rfl, rfl, rfl⟩ := H
   go_enter Try.func33, Try.ntmps33
   go_wp2_with (first | ((with_reducible refine gate_dst (N := 2) rfl ?_); refine box_event ?hg (N := 2) ?hd (cs := #[.int .i64 0, .int .i64 0, .int .i64 0]) (t := 25) ?hr ?_; (case hd => rfl); (case hg => rfl); (case hr => first | (go_simp; done) | (go_simp; rfl)); intro gb183 hg w3 hbox hb; have n0_ := Aside0.mk (below_step (by repeat (first | (with_reducible first | exact HB.out | apply below_alloc | apply pw_below_drewN | apply below_drew1) | exact HB.out)) hb); have n1_ := Aside0.mk (hbox); have n2_ := Aside0.mk ((by rw [hg]; exact (below_size (by repeat (first | (with_reducible first | exact HB.out | apply below_alloc | apply pw_below_drewN | apply below_drew1) | exact HB.out))) : w.heap.size ≤ gb183)); have n3_ := Aside0.mk ((by rw [hg]; exact (below_size (by repeat (first | (with_reducible first | exact HB.out | apply below_alloc | apply pw_below_drewN | apply below_drew1) | exact HB.out))) : w.heap.size ≤ gb183)); clear HB; have HB := n0_; have BK183 := n1_; have GW183 := n2_; have GE183 := n3_; clear n0_ n1_ n2_ n3_; clear hb hbox hg; obtain ⟨hcz4_0, hcz4_1, hcz4_2⟩ := cel3 BK183.out; obtain ⟨hfz4_0, hfz4_1, hfz4_2⟩ := frz3 BK183.out))
   refine bodyPost_ret (results_ct rfl _ _ gb183 25 #[.int .i64 0, .int .i64 0, .int .i64 0] (0, 0) _ rfl (by (with_reducible repeat (first | refine blk_drewN ?_ _ | refine blk_drew ?_ | refine blk_alloc ?_ _)); refine blk_put (cs := #[.int .i64 0, .int .i64 0, .int .i64 0]) ?_ 2 _ rfl; (with_reducible repeat (first | refine blk_drewN ?_ _ | refine blk_drew ?_ | refine blk_alloc ?_ _)); refine blk_put (cs := #[.int .i64 0, .int .i64 0, .int .i64 0]) ?_ 1 _ rfl; (with_reducible repeat (first | refine blk_drewN ?_ _ | refine blk_drew ?_ | refine blk_alloc ?_ _)); refine blk_put (cs := #[.int .i64 0, .int .i64 0, .int .i64 0]) ?_ 0 _ rfl; (with_reducible repeat (first | refine blk_drewN ?_ _ | refine blk_drew ?_ | refine blk_alloc ?_ _)); exact BK183.out) Try.underlying25 rfl (by kernel_rfl)) rfl ?_
   exact ⟨by first | rfl | (simp [errW_none, errW_some] <;> rfl) | (simp [*, errW_none, errW_some] <;> rfl), by repeat (first | (with_reducible first | exact HB.out | apply below_alloc | apply pw_below_drewN | apply below_drew1 | refine below_set ?_ GE183.out) | exact HB.out)⟩
 · rw [if_neg c2] at H
   have c2b0 : decide (a0 < (-150)) = false := decide_eq_false c2
   clear c2
   by_cases c5 : a0 > 449849
   · rw [if_pos c5] at H
     have c5b0 : decide (449849 < a0) = true := decide_eq_true c5
     clear c5
     simp only [Option.some.injEq, Prod.mk.injEq] at H
     obtain ⟨rfl, rfl, rfl, rfl⟩ := H
     go_enter Try.func33, Try.ntmps33
     go_wp2_with (first | ((with_reducible refine gate_dst (N := 2) rfl ?_); refine box_event ?hg (N := 2) ?hd (cs := #[.int .i64 0, .int .i64 0, .int .i64 0]) (t := 25) ?hr ?_; (case hd => rfl); (case hg => rfl); (case hr => first | (go_simp; done) | (go_simp; rfl)); intro gb183 hg w6 hbox hb; have n0_ := Aside0.mk (below_step (by repeat (first | (with_reducible first | exact HB.out | apply below_alloc | apply pw_below_drewN | apply below_drew1) | exact HB.out)) hb); have n1_ := Aside0.mk (hbox); have n2_ := Aside0.mk ((by rw [hg]; exact (below_size (by repeat (first | (with_reducible first | exact HB.out | apply below_alloc | apply pw_below_drewN | apply below_drew1) | exact HB.out))) : w.heap.size ≤ gb183)); have n3_ := Aside0.mk ((by rw [hg]; exact (below_size (by repeat (first | (with_reducible first | exact HB.out | apply below_alloc | apply pw_below_drewN | apply below_drew1) | exact HB.out))) : w.heap.size ≤ gb183)); clear HB; have HB := n0_; have BK183 := n1_; have GW183 := n2_; have GE183 := n3_; clear n0_ n1_ n2_ n3_; clear hb hbox hg; obtain ⟨hcz7_0, hcz7_1, hcz7_2⟩ := cel3 BK183.out; obtain ⟨hfz7_0, hfz7_1, hfz7_2⟩ := frz3 BK183.out))
     refine bodyPost_ret (results_ct rfl _ _ gb183 25 #[.int .i64 0, .int .i64 0, .int .i64 0] (0, 0) _ rfl (by (with_reducible repeat (first | refine blk_drewN ?_ _ | refine blk_drew ?_ | refine blk_alloc ?_ _)); refine blk_put (cs := #[.int .i64 0, .int .i64 0, .int .i64 0]) ?_ 2 _ rfl; (with_reducible repeat (first | refine blk_drewN ?_ _ | refine blk_drew ?_ | refine blk_alloc ?_ _)); refine blk_put (cs := #[.int .i64 0, .int .i64 0, .int .i64 0]) ?_ 1 _ rfl; (with_reducible repeat (first | refine blk_drewN ?_ _ | refine blk_drew ?_ | refine blk_alloc ?_ _)); refine blk_put (cs := #[.int .i64 0, .int .i64 0, .int .i64 0]) ?_ 0 _ rfl; (with_reducible repeat (first | refine blk_drewN ?_ _ | refine blk_drew ?_ | refine blk_alloc ?_ _)); exact BK183.out) Try.underlying25 rfl (by kernel_rfl)) rfl ?_
     exact ⟨by first | rfl | (simp [errW_none, errW_some] <;> rfl) | (simp [*, errW_none, errW_some] <;> rfl), by repeat (first | (with_reducible first | exact HB.out | apply below_alloc | apply pw_below_drewN | apply below_drew1 | refine below_set ?_ GE183.out) | exact HB.out)⟩
   · rw [if_neg c5] at H
     have c5b0 : decide (449849 < a0) = false := decide_eq_false c5
     clear c5
     simp only [Option.some.injEq, Prod.mk.injEq] at H
     obtain ⟨rfl, rfl, rfl, rfl⟩ := H
     go_enter Try.func33, Try.ntmps33
     go_wp2_with (first | ((with_reducible refine gate_dst (N := 2) rfl ?_); refine box_event ?hg (N := 2) ?hd (cs := #[.int .i64 0, .int .i64 0, .int .i64 0]) (t := 25) ?hr ?_; (case hd => rfl); (case hg => rfl); (case hr => first | (go_simp; done) | (go_simp; rfl)); intro gb183 hg w8 hbox hb; have n0_ := Aside0.mk (below_step (by repeat (first | (with_reducible first | exact HB.out | apply below_alloc | apply pw_below_drewN | apply below_drew1) | exact HB.out)) hb); have n1_ := Aside0.mk (hbox); have n2_ := Aside0.mk ((by rw [hg]; exact (below_size (by repeat (first | (with_reducible first | exact HB.out | apply below_alloc | apply pw_below_drewN | apply below_drew1) | exact HB.out))) : w.heap.size ≤ gb183)); have n3_ := Aside0.mk ((by rw [hg]; exact (below_size (by repeat (first | (with_reducible first | exact HB.out | apply below_alloc | apply pw_below_drewN | apply below_drew1) | exact HB.out))) : w.heap.size ≤ gb183)); clear HB; have HB := n0_; have BK183 := n1_; have GW183 := n2_; have GE183 := n3_; clear n0_ n1_ n2_ n3_; clear hb hbox hg; obtain ⟨hcz9_0, hcz9_1, hcz9_2⟩ := cel3 BK183.out; obtain ⟨hfz9_0, hfz9_1, hfz9_2⟩ := frz3 BK183.out))
     refine bodyPost_ret (results_ct rfl _ _ gb183 25 #[.int .i64 (wrap64 (Int.tdiv (wrap64 (a0 + 150)) 4500)), .int .i64 (Int.tmod (wrap64 (Int.tdiv (wrap64 (a0 + 150)) 75)) 60), .int .i64 (Int.tmod (wrap64 (a0 + 150)) 75)] (0, 0) _ rfl (by (with_reducible repeat (first | refine blk_drewN ?_ _ | refine blk_drew ?_ | refine blk_alloc ?_ _)); refine blk_put (cs := #[.int .i64 (wrap64 (Int.tdiv (wrap64 (a0 + 150)) 4500)), .int .i64 (Int.tmod (wrap64 (Int.tdiv (wrap64 (a0 + 150)) 75)) 60), .int .i64 0]) ?_ 2 _ rfl; (with_reducible repeat (first | refine blk_drewN ?_ _ | refine blk_drew ?_ | refine blk_alloc ?_ _)); refine blk_put (cs := #[.int .i64 (wrap64 (Int.tdiv (wrap64 (a0 + 150)) 4500)), .int .i64 0, .int .i64 0]) ?_ 1 _ rfl; (with_reducible repeat (first | refine blk_drewN ?_ _ | refine blk_drew ?_ | refine blk_alloc ?_ _)); refine blk_put (cs := #[.int .i64 0, .int .i64 0, .int .i64 0]) ?_ 0 _ rfl; (with_reducible repeat (first | refine blk_drewN ?_ _ | refine blk_drew ?_ | refine blk_alloc ?_ _)); exact BK183.out) Try.underlying25 rfl (by kernel_rfl)) rfl ?_
     exact ⟨by first | rfl | (simp [errW_none, errW_some] <;> rfl) | (simp [*, errW_none, errW_some] <;> rfl), by repeat (first | (with_reducible first | exact HB.out | apply below_alloc | apply pw_below_drewN | apply below_drew1 | refine below_set ?_ GE183.out) | exact HB.out)⟩
end Go.Proofs.Ytpmkibggmkibeaa.G
namespace Go.Proofs.Ytpmkibggmkibeaa.G
open Go.RowKit Go.Proofs.YtpmkibggmkibeaaW.PrintWords Go.Proofs.YtpmkibggmkibeaaW.PrintLast Go.Proofs.YtpmkibggmkibeaaW.PrintMore
attribute [local go_sem] max2_int min2_int max_two min_two max_three min_three max_four min_four   -- for this text's walks alone
set_option linter.unusedVariables false
set_option linter.unusedSimpArgs false
def masterdiscref10_address.f (a0 : Int) : Option (Int × Int × Int) := some (wrap64 (Int.tdiv a0 4500), Int.tmod (wrap64 (Int.tdiv a0 75)) 60, Int.tmod a0 75)
set_option maxHeartbeats 8000000 in
set_option maxRecDepth 100000 in
theorem masterdiscref10_address.calls (a0 : Int) (r1 : Int) (r2 : Int) (r3 : Int) (w : World) (h : masterdiscref10_address.f a0 = some (r1, r2, r3)) :
 Calls Try.prog 34 #[.int .i64 a0] w fun e w' => e = .returned (.agg #[.int .i64 r1, .int .i64 r2, .int .i64 r3]) ∧ Below w.heap.size w w' := by
 have hu25 := Try.underlying25
 have HB := Aside0.mk (Below.refl w.heap.size w)
 have H : (some (wrap64 (Int.tdiv a0 4500), Int.tmod (wrap64 (Int.tdiv a0 75)) 60, Int.tmod a0 75)) = some (r1, r2, r3) := h
 clear h
 simp only [Option.some.injEq, Prod.mk.injEq] at H
 obtain ⟨rfl, rfl, rfl⟩ := H
 go_enter Try.func34, Try.ntmps34
 go_wp2_with (first | ((with_reducible refine gate_dst (N := 2) rfl ?_); refine box_event ?hg (N := 2) ?hd (cs := #[.int .i64 0, .int .i64 0, .int .i64 0]) (t := 25) ?hr ?_; (case hd => rfl); (case hg => rfl); (case hr => first | (go_simp; done) | (go_simp; rfl)); intro gb184 hg w2 hbox hb; have n0_ := Aside0.mk (below_step (by repeat (first | (with_reducible first | exact HB.out | apply below_alloc | apply pw_below_drewN | apply below_drew1) | exact HB.out)) hb); have n1_ := Aside0.mk (hbox); have n2_ := Aside0.mk ((by rw [hg]; exact (below_size (by repeat (first | (with_reducible first | exact HB.out | apply below_alloc | apply pw_below_drewN | apply below_drew1) | exact HB.out))) : w.heap.size ≤ gb184)); have n3_ := Aside0.mk ((by rw [hg]; exact (below_size (by repeat (first | (with_reducible first | exact HB.out | apply below_alloc | apply pw_below_drewN | apply below_drew1) | exact HB.out))) : w.heap.size ≤ gb184)); clear HB; have HB := n0_; have BK184 := n1_; have GW184 := n2_; have GE184 := n3_; clear n0_ n1_ n2_ n3_; clear hb hbox hg; obtain ⟨hcz3_0, hcz3_1, hcz3_2⟩ := cel3 BK184.out; obtain ⟨hfz3_0, hfz3_1, hfz3_2⟩ := frz3 BK184.out))
 refine bodyPost_ret (results_cell_row rfl _ _ gb184 25 #[.int .i64 (wrap64 (Int.tdiv a0 4500)), .int .i64 (Int.tmod (wrap64 (Int.tdiv a0 75)) 60), .int .i64 (Int.tmod a0 75)] (0, 0) _ rfl (by (with_reducible repeat (first | refine blk_drewN ?_ _ | refine blk_drew ?_ | refine blk_alloc ?_ _)); refine blk_put (cs := #[.int .i64 (wrap64 (Int.tdiv a0 4500)), .int .i64 (Int.tmod (wrap64 (Int.tdiv a0 75)) 60), .int .i64 0]) ?_ 2 _ rfl; (with_reducible repeat (first | refine blk_drewN ?_ _ | refine blk_drew ?_ | refine blk_alloc ?_ _)); refine blk_put (cs := #[.int .i64 (wrap64 (Int.tdiv a0 4500)), .int .i64 0, .int .i64 0]) ?_ 1 _ rfl; (with_reducible repeat (first | refine blk_drewN ?_ _ | refine blk_drew ?_ | refine blk_alloc ?_ _)); refine blk_put (cs := #[.int .i64 0, .int .i64 0, .int .i64 0]) ?_ 0 _ rfl; (with_reducible repeat (first | refine blk_drewN ?_ _ | refine blk_drew ?_ | refine blk_alloc ?_ _)); exact BK184.out) Try.underlying25 rfl (by kernel_rfl)) rfl ?_
 exact ⟨by first | rfl | (simp [errW_none, errW_some] <;> rfl) | (simp [*, errW_none, errW_some] <;> rfl), by repeat (first | (with_reducible first | exact HB.out | apply below_alloc | apply pw_below_drewN | apply below_drew1 | refine below_set ?_ GE184.out) | exact HB.out)⟩
end Go.Proofs.Ytpmkibggmkibeaa.G
namespace Go.Proofs.Ytpmkibggmkibeaa.G
open Go.RowKit Go.Proofs.YtpmkibggmkibeaaW.PrintWords Go.Proofs.YtpmkibggmkibeaaW.PrintLast Go.Proofs.YtpmkibggmkibeaaW.PrintMore
attribute [local go_sem] max2_int min2_int max_two min_two max_three min_three max_four min_four   -- for this text's walks alone
set_option linter.unusedVariables false
set_option linter.unusedSimpArgs false
def masterdiscref10_end.f (l0 : List (S53)) : Option (Int) := if 0 ≤ (wrap64 ((l0.length : Int) - 1)) then (if (wrap64 ((l0.length : Int) - 1)) < (l0.length : Int) then (some (wrap64 (((rd_T53 l0 (wrap64 ((l0.length : Int) - 1))).f2) + ((rd_T53 l0 (wrap64 ((l0.length : Int) - 1))).f3)))) else (none)) else (none)
set_option maxHeartbeats 8000000 in
set_option maxRecDepth 100000 in
theorem masterdiscref10_end.calls (A0 : Option Addr) (c0 : Nat) (l0 : List (S53)) (r : Int) (w : World) (hr0 : Kd.C k53 w A0 l0.length l0) (hc0 : l0.length ≤ c0) (h : masterdiscref10_end.f l0 = some r) :
 Calls Try.prog 35 #[.slice A0 l0.length c0] w fun e w' => e = .returned (.int .i64 r) ∧ Drawn0 w w' := by
 have HR0 := Aside0.mk hr0
 have HC0 := Aside0.mk hc0
 clear hr0 hc0
 have H : (if 0 ≤ (wrap64 ((l0.length : Int) - 1)) then (if (wrap64 ((l0.length : Int) - 1)) < (l0.length : Int) then (some (wrap64 (((rd_T53 l0 (wrap64 ((l0.length : Int) - 1))).f2) + ((rd_T53 l0 (wrap64 ((l0.length : Int) - 1))).f3)))) else (none)) else (none)) = some r := h
 clear h
 obtain ⟨ji2, hji2⟩ : ∃ j_ : Int, (wrap64 ((l0.length : Int) - 1)) = j_ := ⟨_, rfl⟩
 replace H : (if 0 ≤ (ji2) then (if (ji2) < (l0.length : Int) then (some (wrap64 (((rd_T53 l0 (ji2)).f2) + ((rd_T53 l0 (ji2)).f3)))) else (none)) else (none)) = some r := by first | (rw [hji2] at H; exact H) | (simp only [hji2] at H ⊢; exact H)
 have hji2w : (IntKind.i64.wrap ((l0.length : Int) - 1)) = ji2 := (i64_w _).trans hji2
 by_cases c3 : 0 ≤ (ji2)
 · rw [if_pos c3] at H
   have c3b0 : decide (0 ≤ (ji2)) = true := decide_eq_true c3
   clear c3
   by_cases c4 : (ji2) < (l0.length : Int)
   · rw [if_pos c4] at H
     have c4b0 : decide ((ji2) < (l0.length : Int)) = true := decide_eq_true c4
     clear c4
     obtain rfl := Option.some.inj H
     have p185 : 0 ≤ ((ji2) : Int) := of_decide_eq_true (by first | (with_reducible assumption) | assumption)
     have q185 : (ji2) < (l0.length : Int) := of_decide_eq_true (by first | (with_reducible assumption) | assumption)
     obtain ⟨ad185, e185, hx185_0, hx185_1, hx185_2, hx185_3, hx185_4, hx185_5, hx185_6⟩ := at_T53 HR0.out (ji2) p185 q185
     cases e185
     replace p185 := eq_true p185
     replace q185 := eq_true q185
     have p186 : 0 ≤ ((ji2) : Int) := of_decide_eq_true (by first | (with_reducible assumption) | assumption)
     have q186 : (ji2) < (l0.length : Int) := of_decide_eq_true (by first | (with_reducible assumption) | assumption)
     obtain ⟨ad186, e186, hx186_0, hx186_1, hx186_2, hx186_3, hx186_4, hx186_5, hx186_6⟩ := at_T53 HR0.out (ji2) p186 q186
     obtain rfl : ad185 = ad186 := (by injection e186)
     replace p186 := eq_true p186
     replace q186 := eq_true q186
     go_enter Try.func35, Try.ntmps35
     go_wp2
     repeat (go_quiet (fail); try go_wp2)
     go_ret
     exact ⟨by first | rfl | (simp; done) | (simp only [← hji2] <;> (first | rfl | simp)) | (simp [*]; done), by repeat (first | exact Drawn0.refl _ | apply Drawn0.step)⟩
   · rw [if_neg c4] at H
     exact absurd H (by simp)
 · rw [if_neg c3] at H
   exact absurd H (by simp)
end Go.Proofs.Ytpmkibggmkibeaa.G
