/- Texts of one claim, merged by a program of this session; what is proved stands in the last of them. -/
import Derived.Shelf.Strings.BuilderK
import Derived.Test.YtpmkibggmkibeaaKg1
import Derived.Test.YtpmkibggmkibeaaKg2
namespace Go.Proofs.Ytpmkibggmkibeaa.G
open Go.RowKit Go.Proofs.YtpmkibggmkibeaaW.PrintWords Go.Proofs.YtpmkibggmkibeaaW.PrintLast Go.Proofs.YtpmkibggmkibeaaW.PrintMore
attribute [local go_sem] max2_int min2_int max_two min_two max_three min_three max_four min_four   -- for this text's walks alone
set_option linter.unusedVariables false
set_option linter.unusedSimpArgs false
def address_numbered.f (a0 : Int) : Option (Int × Int × Int × Bool) := if a0 < 0 then (some (0, 0, 0, false)) else (if a0 > 449999 then (some (0, 0, 0, false)) else (some (wrap64 (Int.tdiv (wrap64 (Int.tdiv a0 75)) 60), Int.tmod (wrap64 (Int.tdiv a0 75)) 60, Int.tmod a0 75, true)))
set_option maxHeartbeats 8000000 in
set_option maxRecDepth 100000 in
theorem address_numbered.calls (a0 : Int) (r1 : Int) (r2 : Int) (r3 : Int) (r4 : Bool) (w : World) (h : address_numbered.f a0 = some (r1, r2, r3, r4)) :
 Calls Try.prog 70 #[.int .i64 a0] w fun e w' => e = .returned (.tuple #[.agg #[.int .i64 r1, .int .i64 r2, .int .i64 r3], .bool r4]) ∧ Below w.heap.size w w' := by
 have hu25 := Try.underlying25
 have HB := Aside0.mk (Below.refl w.heap.size w)
 have H : (if a0 < 0 then (some (0, 0, 0, false)) else (if a0 > 449999 then (some (0, 0, 0, false)) else (some (wrap64 (Int.tdiv (wrap64 (Int.tdiv a0 75)) 60), Int.tmod (wrap64 (Int.tdiv a0 75)) 60, Int.tmod a0 75, true)))) = some (r1, r2, r3, r4) := h
 clear h
 by_cases c2 : a0 < 0
 · rw [if_pos c2] at H
   have c2b0 : decide (a0 < 0) = true := decide_eq_true c2
   clear c2
   simp only [Option.some.injEq, Prod.mk.injEq] at H
   obtain ⟨rfl, rfl, rfl, rfl⟩ := H
   go_enter Try.func70, Try.ntmps70
   go_wp2_with (first | ((with_reducible refine gate_dst (N := 2) rfl ?_); refine box_event ?hg (N := 2) ?hd (cs := #[.int .i64 0, .int .i64 0, .int .i64 0]) (t := 25) ?hr ?_; (case hd => rfl); (case hg => rfl); (case hr => first | (go_simp; done) | (go_simp; rfl)); intro gb125 hg w3 hbox hb; have n0_ := Aside0.mk (below_step (by repeat (first | (with_reducible first | exact HB.out | apply below_alloc | apply pw_below_drewN | apply below_drew1) | exact HB.out)) hb); have n1_ := Aside0.mk (hbox); have n2_ := Aside0.mk ((by rw [hg]; exact (below_size (by repeat (first | (with_reducible first | exact HB.out | apply below_alloc | apply pw_below_drewN | apply below_drew1) | exact HB.out))) : w.heap.size ≤ gb125)); have n3_ := Aside0.mk ((by rw [hg]; exact (below_size (by repeat (first | (with_reducible first | exact HB.out | apply below_alloc | apply pw_below_drewN | apply below_drew1) | exact HB.out))) : w.heap.size ≤ gb125)); clear HB; have HB := n0_; have BK125 := n1_; have GW125 := n2_; have GE125 := n3_; clear n0_ n1_ n2_ n3_; clear hb hbox hg; obtain ⟨hcz4_0, hcz4_1, hcz4_2⟩ := cel3 BK125.out; obtain ⟨hfz4_0, hfz4_1, hfz4_2⟩ := frz3 BK125.out))
   refine bodyPost_ret (results_ct rfl _ _ gb125 25 #[.int .i64 0, .int .i64 0, .int .i64 0] (0, 0) _ rfl (by (with_reducible repeat (first | refine blk_drewN ?_ _ | refine blk_drew ?_ | refine blk_alloc ?_ _)); refine blk_put (cs := #[.int .i64 0, .int .i64 0, .int .i64 0]) ?_ 2 _ rfl; (with_reducible repeat (first | refine blk_drewN ?_ _ | refine blk_drew ?_ | refine blk_alloc ?_ _)); refine blk_put (cs := #[.int .i64 0, .int .i64 0, .int .i64 0]) ?_ 1 _ rfl; (with_reducible repeat (first | refine blk_drewN ?_ _ | refine blk_drew ?_ | refine blk_alloc ?_ _)); refine blk_put (cs := #[.int .i64 0, .int .i64 0, .int .i64 0]) ?_ 0 _ rfl; (with_reducible repeat (first | refine blk_drewN ?_ _ | refine blk_drew ?_ | refine blk_alloc ?_ _)); exact BK125.out) Try.underlying25 rfl (by kernel_rfl)) rfl ?_
   exact ⟨by first | rfl | (simp [errW_none, errW_some] <;> rfl) | (simp [*, errW_none, errW_some] <;> rfl), by repeat (first | (with_reducible first | exact HB.out | apply below_alloc | apply pw_below_drewN | apply below_drew1 | refine below_set ?_ GE125.out) | exact HB.out)⟩
 · rw [if_neg c2] at H
   have c2b0 : decide (a0 < 0) = false := decide_eq_false c2
   clear c2
   by_cases c5 : a0 > 449999
   · rw [if_pos c5] at H
     have c5b0 : decide (449999 < a0) = true := decide_eq_true c5
     clear c5
     simp only [Option.some.injEq, Prod.mk.injEq] at H
     obtain ⟨rfl, rfl, rfl, rfl⟩ := H
     go_enter Try.func70, Try.ntmps70
     go_wp2_with (first | ((with_reducible refine gate_dst (N := 2) rfl ?_); refine box_event ?hg (N := 2) ?hd (cs := #[.int .i64 0, .int .i64 0, .int .i64 0]) (t := 25) ?hr ?_; (case hd => rfl); (case hg => rfl); (case hr => first | (go_simp; done) | (go_simp; rfl)); intro gb125 hg w6 hbox hb; have n0_ := Aside0.mk (below_step (by repeat (first | (with_reducible first | exact HB.out | apply below_alloc | apply pw_below_drewN | apply below_drew1) | exact HB.out)) hb); have n1_ := Aside0.mk (hbox); have n2_ := Aside0.mk ((by rw [hg]; exact (below_size (by repeat (first | (with_reducible first | exact HB.out | apply below_alloc | apply pw_below_drewN | apply below_drew1) | exact HB.out))) : w.heap.size ≤ gb125)); have n3_ := Aside0.mk ((by rw [hg]; exact (below_size (by repeat (first | (with_reducible first | exact HB.out | apply below_alloc | apply pw_below_drewN | apply below_drew1) | exact HB.out))) : w.heap.size ≤ gb125)); clear HB; have HB := n0_; have BK125 := n1_; have GW125 := n2_; have GE125 := n3_; clear n0_ n1_ n2_ n3_; clear hb hbox hg; obtain ⟨hcz7_0, hcz7_1, hcz7_2⟩ := cel3 BK125.out; obtain ⟨hfz7_0, hfz7_1, hfz7_2⟩ := frz3 BK125.out))
     refine bodyPost_ret (results_ct rfl _ _ gb125 25 #[.int .i64 0, .int .i64 0, .int .i64 0] (0, 0) _ rfl (by (with_reducible repeat (first | refine blk_drewN ?_ _ | refine blk_drew ?_ | refine blk_alloc ?_ _)); refine blk_put (cs := #[.int .i64 0, .int .i64 0, .int .i64 0]) ?_ 2 _ rfl; (with_reducible repeat (first | refine blk_drewN ?_ _ | refine blk_drew ?_ | refine blk_alloc ?_ _)); refine blk_put (cs := #[.int .i64 0, .int .i64 0, .int .i64 0]) ?_ 1 _ rfl; (with_reducible repeat (first | refine blk_drewN ?_ _ | refine blk_drew ?_ | refine blk_alloc ?_ _)); refine blk_put (cs := #[.int .i64 0, .int .i64 0, .int .i64 0]) ?_ 0 _ rfl; (with_reducible repeat (first | refine blk_drewN ?_ _ | refine blk_drew ?_ | refine blk_alloc ?_ _)); exact BK125.out) Try.underlying25 rfl (by kernel_rfl)) rfl ?_
     exact ⟨by first | rfl | (simp [errW_none, errW_some] <;> rfl) | (simp [*, errW_none, errW_some] <;> rfl), by repeat (first | (with_reducible first | exact HB.out | apply below_alloc | apply pw_below_drewN | apply below_drew1 | refine below_set ?_ GE125.out) | exact HB.out)⟩
   · rw [if_neg c5] at H
     have c5b0 : decide (449999 < a0) = false := decide_eq_false c5
     clear c5
     simp only [Option.some.injEq, Prod.mk.injEq] at H
     obtain ⟨rfl, rfl, rfl, rfl⟩ := H
     go_enter Try.func70, Try.ntmps70
     go_wp2_with (first | ((with_reducible refine gate_dst (N := 2) rfl ?_); refine box_event ?hg (N := 2) ?hd (cs := #[.int .i64 0, .int .i64 0, .int .i64 0]) (t := 25) ?hr ?_; (case hd => rfl); (case hg => rfl); (case hr => first | (go_simp; done) | (go_simp; rfl)); intro gb125 hg w8 hbox hb; have n0_ := Aside0.mk (below_step (by repeat (first | (with_reducible first | exact HB.out | apply below_alloc | apply pw_below_drewN | apply below_drew1) | exact HB.out)) hb); have n1_ := Aside0.mk (hbox); have n2_ := Aside0.mk ((by rw [hg]; exact (below_size (by repeat (first | (with_reducible first | exact HB.out | apply below_alloc | apply pw_below_drewN | apply below_drew1) | exact HB.out))) : w.heap.size ≤ gb125)); have n3_ := Aside0.mk ((by rw [hg]; exact (below_size (by repeat (first | (with_reducible first | exact HB.out | apply below_alloc | apply pw_below_drewN | apply below_drew1) | exact HB.out))) : w.heap.size ≤ gb125)); clear HB; have HB := n0_; have BK125 := n1_; have GW125 := n2_; have GE125 := n3_; clear n0_ n1_ n2_ n3_; clear hb hbox hg; obtain ⟨hcz9_0, hcz9_1, hcz9_2⟩ := cel3 BK125.out; obtain ⟨hfz9_0, hfz9_1, hfz9_2⟩ := frz3 BK125.out))
     refine bodyPost_ret (results_ct rfl _ _ gb125 25 #[.int .i64 (wrap64 (Int.tdiv (wrap64 (Int.tdiv a0 75)) 60)), .int .i64 (Int.tmod (wrap64 (Int.tdiv a0 75)) 60), .int .i64 (Int.tmod a0 75)] (0, 0) _ rfl (by (with_reducible repeat (first | refine blk_drewN ?_ _ | refine blk_drew ?_ | refine blk_alloc ?_ _)); refine blk_put (cs := #[.int .i64 (wrap64 (Int.tdiv (wrap64 (Int.tdiv a0 75)) 60)), .int .i64 (Int.tmod (wrap64 (Int.tdiv a0 75)) 60), .int .i64 0]) ?_ 2 _ rfl; (with_reducible repeat (first | refine blk_drewN ?_ _ | refine blk_drew ?_ | refine blk_alloc ?_ _)); refine blk_put (cs := #[.int .i64 (wrap64 (Int.tdiv (wrap64 (Int.tdiv a0 75)) 60)), .int .i64 0, .int .i64 0]) ?_ 1 _ rfl; (with_reducible repeat (first | refine blk_drewN ?_ _ | refine blk_drew ?_ | refine blk_alloc ?_ _)); refine blk_put (cs := #[.int .i64 0, .int .i64 0, .int .i64 0]) ?_ 0 _ rfl; (with_reducible repeat (first | refine blk_drewN ?_ _ | refine blk_drew ?_ | refine blk_alloc ?_ _)); exact BK125.out) Try.underlying25 rfl (by kernel_rfl)) rfl ?_
     exact ⟨by first | rfl | (simp [errW_none, errW_some] <;> rfl) | (simp [*, errW_none, errW_some] <;> rfl), by repeat (first | (with_reducible first | exact HB.out | apply below_alloc | apply pw_below_drewN | apply below_drew1 | refine below_set ?_ GE125.out) | exact HB.out)⟩
end Go.Proofs.Ytpmkibggmkibeaa.G
namespace Go.Proofs.Ytpmkibggmkibeaa.G
open Go.RowKit Go.Proofs.YtpmkibggmkibeaaW.PrintWords Go.Proofs.YtpmkibggmkibeaaW.PrintLast Go.Proofs.YtpmkibggmkibeaaW.PrintMore
attribute [local go_sem] max2_int min2_int max_two min_two max_three min_three max_four min_four   -- for this text's walks alone
set_option linter.unusedVariables false
set_option linter.unusedSimpArgs false
def address_ToMSF.f (a0 : Int) : Option (Int × Int × Int × Int) := if a0 > 449849 then (some (0, 0, 0, 2)) else ((address_numbered.f (wrap64 (a0 + 150))).bind fun bt127 => (if bt127.2.2.2 = true then (some (bt127.1, bt127.2.1, bt127.2.2.1, 0)) else (some (bt127.1, bt127.2.1, bt127.2.2.1, 2))))
set_option maxHeartbeats 8000000 in
set_option maxRecDepth 100000 in
theorem address_ToMSF.calls (a0 : Int) (r1 : Int) (r2 : Int) (r3 : Int) (r4 : Int) (w : World) (h : address_ToMSF.f a0 = some (r1, r2, r3, r4)) :
 Calls Try.prog 54 #[.int .i64 a0] w fun e w' => e = .returned (.tuple #[.agg #[.int .i64 r1, .int .i64 r2, .int .i64 r3], .int .i64 r4]) ∧ Below w.heap.size w w' := by
 have hu25 := Try.underlying25
 have HB := Aside0.mk (Below.refl w.heap.size w)
 have H : (if a0 > 449849 then (some (0, 0, 0, 2)) else ((address_numbered.f (wrap64 (a0 + 150))).bind fun bt127 => (if bt127.2.2.2 = true then (some (bt127.1, bt127.2.1, bt127.2.2.1, 0)) else (some (bt127.1, bt127.2.1, bt127.2.2.1, 2))))) = some (r1, r2, r3, r4) := h
 clear h
 by_cases c2 : a0 > 449849
 · rw [if_pos c2] at H
   have c2b0 : decide (449849 < a0) = true := decide_eq_true c2
   clear c2
   simp only [Option.some.injEq, Prod.mk.injEq] at H
   obtain ⟨rfl, rfl, rfl, rfl⟩ := H
   go_enter Try.func54, Try.ntmps54
   go_wp2_with (first | ((with_reducible refine gate_dst (N := 2) rfl ?_); refine box_event ?hg (N := 2) ?hd (cs := #[.int .i64 0, .int .i64 0, .int .i64 0]) (t := 25) ?hr ?_; (case hd => rfl); (case hg => rfl); (case hr => first | (go_simp; done) | (go_simp; rfl)); intro gb126 hg w3 hbox hb; have n0_ := Aside0.mk (below_step (by repeat (first | (with_reducible first | exact HB.out | apply below_alloc | apply pw_below_drewN | apply below_drew1) | exact HB.out)) hb); have n1_ := Aside0.mk (hbox); have n2_ := Aside0.mk ((by rw [hg]; exact (below_size (by repeat (first | (with_reducible first | exact HB.out | apply below_alloc | apply pw_below_drewN | apply below_drew1) | exact HB.out))) : w.heap.size ≤ gb126)); have n3_ := Aside0.mk ((by rw [hg]; exact (below_size (by repeat (first | (with_reducible first | exact HB.out | apply below_alloc | apply pw_below_drewN | apply below_drew1) | exact HB.out))) : w.heap.size ≤ gb126)); clear HB; have HB := n0_; have BK126 := n1_; have GW126 := n2_; have GE126 := n3_; clear n0_ n1_ n2_ n3_; clear hb hbox hg; obtain ⟨hcz4_0, hcz4_1, hcz4_2⟩ := cel3 BK126.out; obtain ⟨hfz4_0, hfz4_1, hfz4_2⟩ := frz3 BK126.out))
   refine bodyPost_ret (results_ct rfl _ _ gb126 25 #[.int .i64 0, .int .i64 0, .int .i64 0] (0, 0) _ rfl (by (with_reducible repeat (first | refine blk_drewN ?_ _ | refine blk_drew ?_ | refine blk_alloc ?_ _)); refine blk_put (cs := #[.int .i64 0, .int .i64 0, .int .i64 0]) ?_ 2 _ rfl; (with_reducible repeat (first | refine blk_drewN ?_ _ | refine blk_drew ?_ | refine blk_alloc ?_ _)); refine blk_put (cs := #[.int .i64 0, .int .i64 0, .int .i64 0]) ?_ 1 _ rfl; (with_reducible repeat (first | refine blk_drewN ?_ _ | refine blk_drew ?_ | refine blk_alloc ?_ _)); refine blk_put (cs := #[.int .i64 0, .int .i64 0, .int .i64 0]) ?_ 0 _ rfl; (with_reducible repeat (first | refine blk_drewN ?_ _ | refine blk_drew ?_ | refine blk_alloc ?_ _)); exact BK126.out) Try.underlying25 rfl (by kernel_rfl)) rfl ?_
   exact ⟨by first | rfl | (simp [errW_none, errW_some] <;> rfl) | (simp [*, errW_none, errW_some] <;> rfl), by repeat (first | (with_reducible first | exact HB.out | apply below_alloc | apply pw_below_drewN | apply below_drew1 | refine below_set ?_ GE126.out) | exact HB.out)⟩
 · rw [if_neg c2] at H
   have c2b0 : decide (449849 < a0) = false := decide_eq_false c2
   clear c2
   replace H := Option.bind_eq_some_iff.mp H
   obtain ⟨⟨t127, t128, t129, t130⟩, A50, H⟩ := H
   replace H : (if t130 = true then (some (t127, t128, t129, 0)) else (some (t127, t128, t129, 2))) = some (r1, r2, r3, r4) := H
   have A5 := Aside0.mk A50
   clear A50
   by_cases c6 : t130 = true
   · subst c6
     have H1 : (some (t127, t128, t129, 0)) = some (r1, r2, r3, r4) := by rw [if_pos rfl] at H; exact H
     clear H
     have H := H1
     clear H1
     simp only [Option.some.injEq, Prod.mk.injEq] at H
     obtain ⟨rfl, rfl, rfl, rfl⟩ := H
     go_enter Try.func54, Try.ntmps54
     go_wp2_with (first | ((with_reducible refine gate_dst (N := 2) rfl ?_); refine box_event ?hg (N := 2) ?hd (cs := #[.int .i64 0, .int .i64 0, .int .i64 0]) (t := 25) ?hr ?_; (case hd => rfl); (case hg => rfl); (case hr => first | (go_simp; done) | (go_simp; rfl)); intro gb126 hg w7 hbox hb; have n0_ := Aside0.mk (below_step (by repeat (first | (with_reducible first | exact HB.out | apply below_alloc | apply pw_below_drewN | apply below_drew1) | exact HB.out)) hb); have n1_ := Aside0.mk (hbox); have n2_ := Aside0.mk ((by rw [hg]; exact (below_size (by repeat (first | (with_reducible first | exact HB.out | apply below_alloc | apply pw_below_drewN | apply below_drew1) | exact HB.out))) : w.heap.size ≤ gb126)); have n3_ := Aside0.mk ((by rw [hg]; exact (below_size (by repeat (first | (with_reducible first | exact HB.out | apply below_alloc | apply pw_below_drewN | apply below_drew1) | exact HB.out))) : w.heap.size ≤ gb126)); clear HB; have HB := n0_; have BK126 := n1_; have GW126 := n2_; have GE126 := n3_; clear n0_ n1_ n2_ n3_; clear hb hbox hg) | ((with_reducible refine gate_callee (f := 70) rfl ?_); refine goesL_ (some 12) rfl rfl Try.func70 (by kernel_rfl) rfl #[.int .i64 (wrap64 (a0 + 150))] rfl (by (try simp only [List.map_toArray, List.map_cons, List.map_nil]); first | done | rfl | (simp only [List.length_drop, List.length_take]; rfl)) ?_; (with_reducible refine (address_numbered.calls (wrap64 (a0 + 150)) t127 t128 t129 true _ A5.out).mono ?_); rintro e w8 ⟨rfl, hb⟩; refine ⟨_, rfl, ?_⟩; have n0_ := Aside0.mk (blk_below (g := gb126) (o := .cells #[.int .i64 0, .int .i64 0, .int .i64 0] 25 (0, 0)) (by (with_reducible repeat (first | refine blk_drewN ?_ _ | refine blk_drew ?_ | refine blk_alloc ?_ _)); exact BK126.out) hb); have n1_ := Aside0.mk (below_step (by repeat (first | (with_reducible first | exact HB.out | apply below_alloc | apply pw_below_drewN | apply below_drew1 | refine below_set ?_ GE126.out) | exact HB.out)) hb); clear BK126; clear HB; have BK126 := n0_; have HB := n1_; clear n0_ n1_; (try clear hb); (try clear hb2); (try clear hk); (try clear hi)) | ((with_reducible refine gate_dst (N := 4) rfl ?_); refine box_event ?hg (N := 4) ?hd (cs := #[.int .i64 0, .int .i64 0, .int .i64 0]) (t := 25) ?hr ?_; (case hd => rfl); (case hg => rfl); (case hr => first | (go_simp; done) | (go_simp; rfl)); intro gb131 hg w9 hbox hb; have n0_ := Aside0.mk (blk_below (g := gb126) (o := .cells #[.int .i64 0, .int .i64 0, .int .i64 0] 25 (0, 0)) (by (with_reducible repeat (first | refine blk_drewN ?_ _ | refine blk_drew ?_ | refine blk_alloc ?_ _)); exact BK126.out) hb); have n1_ := Aside0.mk (below_step (by repeat (first | (with_reducible first | exact HB.out | apply below_alloc | apply pw_below_drewN | apply below_drew1 | refine below_set ?_ GE126.out) | exact HB.out)) hb); have n2_ := Aside0.mk (hbox); have n3_ := Aside0.mk ((by rw [hg]; exact (below_size (by repeat (first | (with_reducible first | exact HB.out | apply below_alloc | apply pw_below_drewN | apply below_drew1 | refine below_set ?_ GE126.out) | exact HB.out))) : w.heap.size ≤ gb131)); have n4_ := Aside0.mk ((by rw [hg]; exact (below_size (by repeat (first | (with_reducible first | exact HB.out | apply below_alloc | apply pw_below_drewN | apply below_drew1 | refine below_set ?_ GE126.out) | exact HB.out))) : w.heap.size ≤ gb131)); have n5_ := Aside0.mk ((by rw [hg]; exact Nat.ne_of_lt (blk_lt (g := gb126) (o := .cells #[.int .i64 0, .int .i64 0, .int .i64 0] 25 (0, 0)) (by (with_reducible repeat (first | refine blk_drewN ?_ _ | refine blk_drew ?_ | refine blk_alloc ?_ _)); exact BK126.out)) : gb126 ≠ gb131)); have n6_ := Aside0.mk ((by rw [hg]; exact Nat.ne_of_gt (blk_lt (g := gb126) (o := .cells #[.int .i64 0, .int .i64 0, .int .i64 0] 25 (0, 0)) (by (with_reducible repeat (first | refine blk_drewN ?_ _ | refine blk_drew ?_ | refine blk_alloc ?_ _)); exact BK126.out)) : gb131 ≠ gb126)); clear BK126; clear HB; have BK126 := n0_; have HB := n1_; have BK131 := n2_; have GW131 := n3_; have GE131 := n4_; have NB126_131 := n5_; have NB131_126 := n6_; clear n0_ n1_ n2_ n3_ n4_ n5_ n6_; clear hb hbox hg; have hnb10 := NB131_126.out; have hnc10 := NB126_131.out; obtain ⟨hcz11_0, hcz11_1, hcz11_2⟩ := cel3 BK131.out; obtain ⟨hfz11_0, hfz11_1, hfz11_2⟩ := frz3 BK131.out; obtain ⟨hcz12_0, hcz12_1, hcz12_2⟩ := cel3 BK126.out; obtain ⟨hfz12_0, hfz12_1, hfz12_2⟩ := frz3 BK126.out))
     refine bodyPost_ret (results_ct rfl _ _ gb126 25 #[.int .i64 t127, .int .i64 t128, .int .i64 t129] (0, 0) _ rfl (by (with_reducible repeat (first | refine blk_drewN ?_ _ | refine blk_drew ?_ | refine blk_alloc ?_ _)); refine blk_put (cs := #[.int .i64 t127, .int .i64 t128, .int .i64 0]) ?_ 2 _ rfl; (with_reducible repeat (first | refine blk_drewN ?_ _ | refine blk_drew ?_ | refine blk_alloc ?_ _)); refine blk_put (cs := #[.int .i64 t127, .int .i64 0, .int .i64 0]) ?_ 1 _ rfl; (with_reducible repeat (first | refine blk_drewN ?_ _ | refine blk_drew ?_ | refine blk_alloc ?_ _)); refine blk_put (cs := #[.int .i64 0, .int .i64 0, .int .i64 0]) ?_ 0 _ rfl; (with_reducible repeat (first | refine blk_drewN ?_ _ | refine blk_drew ?_ | refine blk_alloc ?_ _)); refine blk_far ?_ NB126_131.out _; (with_reducible repeat (first | refine blk_drewN ?_ _ | refine blk_drew ?_ | refine blk_alloc ?_ _)); refine blk_far ?_ NB126_131.out _; (with_reducible repeat (first | refine blk_drewN ?_ _ | refine blk_drew ?_ | refine blk_alloc ?_ _)); refine blk_far ?_ NB126_131.out _; (with_reducible repeat (first | refine blk_drewN ?_ _ | refine blk_drew ?_ | refine blk_alloc ?_ _)); exact BK126.out) Try.underlying25 rfl (by kernel_rfl)) rfl ?_
     exact ⟨by first | rfl | (simp [errW_none, errW_some] <;> rfl) | (simp [*, errW_none, errW_some] <;> rfl), by repeat (first | (with_reducible first | exact HB.out | apply below_alloc | apply pw_below_drewN | apply below_drew1 | refine below_set ?_ GE126.out | refine below_set ?_ GE131.out) | exact HB.out)⟩
   · replace c6 := Bool.eq_false_iff.mpr c6
     subst c6
     have H1 : (some (t127, t128, t129, 2)) = some (r1, r2, r3, r4) := by rw [if_neg (show ¬ (false = true) by decide)] at H; exact H
     clear H
     have H := H1
     clear H1
     simp only [Option.some.injEq, Prod.mk.injEq] at H
     obtain ⟨rfl, rfl, rfl, rfl⟩ := H
     go_enter Try.func54, Try.ntmps54
     go_wp2_with (first | ((with_reducible refine gate_dst (N := 2) rfl ?_); refine box_event ?hg (N := 2) ?hd (cs := #[.int .i64 0, .int .i64 0, .int .i64 0]) (t := 25) ?hr ?_; (case hd => rfl); (case hg => rfl); (case hr => first | (go_simp; done) | (go_simp; rfl)); intro gb126 hg w13 hbox hb; have n0_ := Aside0.mk (below_step (by repeat (first | (with_reducible first | exact HB.out | apply below_alloc | apply pw_below_drewN | apply below_drew1) | exact HB.out)) hb); have n1_ := Aside0.mk (hbox); have n2_ := Aside0.mk ((by rw [hg]; exact (below_size (by repeat (first | (with_reducible first | exact HB.out | apply below_alloc | apply pw_below_drewN | apply below_drew1) | exact HB.out))) : w.heap.size ≤ gb126)); have n3_ := Aside0.mk ((by rw [hg]; exact (below_size (by repeat (first | (with_reducible first | exact HB.out | apply below_alloc | apply pw_below_drewN | apply below_drew1) | exact HB.out))) : w.heap.size ≤ gb126)); clear HB; have HB := n0_; have BK126 := n1_; have GW126 := n2_; have GE126 := n3_; clear n0_ n1_ n2_ n3_; clear hb hbox hg) | ((with_reducible refine gate_callee (f := 70) rfl ?_); refine goesL_ (some 12) rfl rfl Try.func70 (by kernel_rfl) rfl #[.int .i64 (wrap64 (a0 + 150))] rfl (by (try simp only [List.map_toArray, List.map_cons, List.map_nil]); first | done | rfl | (simp only [List.length_drop, List.length_take]; rfl)) ?_; (with_reducible refine (address_numbered.calls (wrap64 (a0 + 150)) t127 t128 t129 false _ A5.out).mono ?_); rintro e w14 ⟨rfl, hb⟩; refine ⟨_, rfl, ?_⟩; have n0_ := Aside0.mk (blk_below (g := gb126) (o := .cells #[.int .i64 0, .int .i64 0, .int .i64 0] 25 (0, 0)) (by (with_reducible repeat (first | refine blk_drewN ?_ _ | refine blk_drew ?_ | refine blk_alloc ?_ _)); exact BK126.out) hb); have n1_ := Aside0.mk (below_step (by repeat (first | (with_reducible first | exact HB.out | apply below_alloc | apply pw_below_drewN | apply below_drew1 | refine below_set ?_ GE126.out) | exact HB.out)) hb); clear BK126; clear HB; have BK126 := n0_; have HB := n1_; clear n0_ n1_; (try clear hb); (try clear hb2); (try clear hk); (try clear hi)) | ((with_reducible refine gate_dst (N := 4) rfl ?_); refine box_event ?hg (N := 4) ?hd (cs := #[.int .i64 0, .int .i64 0, .int .i64 0]) (t := 25) ?hr ?_; (case hd => rfl); (case hg => rfl); (case hr => first | (go_simp; done) | (go_simp; rfl)); intro gb131 hg w15 hbox hb; have n0_ := Aside0.mk (blk_below (g := gb126) (o := .cells #[.int .i64 0, .int .i64 0, .int .i64 0] 25 (0, 0)) (by (with_reducible repeat (first | refine blk_drewN ?_ _ | refine blk_drew ?_ | refine blk_alloc ?_ _)); exact BK126.out) hb); have n1_ := Aside0.mk (below_step (by repeat (first | (with_reducible first | exact HB.out | apply below_alloc | apply pw_below_drewN | apply below_drew1 | refine below_set ?_ GE126.out) | exact HB.out)) hb); have n2_ := Aside0.mk (hbox); have n3_ := Aside0.mk ((by rw [hg]; exact (below_size (by repeat (first | (with_reducible first | exact HB.out | apply below_alloc | apply pw_below_drewN | apply below_drew1 | refine below_set ?_ GE126.out) | exact HB.out))) : w.heap.size ≤ gb131)); have n4_ := Aside0.mk ((by rw [hg]; exact (below_size (by repeat (first | (with_reducible first | exact HB.out | apply below_alloc | apply pw_below_drewN | apply below_drew1 | refine below_set ?_ GE126.out) | exact HB.out))) : w.heap.size ≤ gb131)); have n5_ := Aside0.mk ((by rw [hg]; exact Nat.ne_of_lt (blk_lt (g := gb126) (o := .cells #[.int .i64 0, .int .i64 0, .int .i64 0] 25 (0, 0)) (by (with_reducible repeat (first | refine blk_drewN ?_ _ | refine blk_drew ?_ | refine blk_alloc ?_ _)); exact BK126.out)) : gb126 ≠ gb131)); have n6_ := Aside0.mk ((by rw [hg]; exact Nat.ne_of_gt (blk_lt (g := gb126) (o := .cells #[.int .i64 0, .int .i64 0, .int .i64 0] 25 (0, 0)) (by (with_reducible repeat (first | refine blk_drewN ?_ _ | refine blk_drew ?_ | refine blk_alloc ?_ _)); exact BK126.out)) : gb131 ≠ gb126)); clear BK126; clear HB; have BK126 := n0_; have HB := n1_; have BK131 := n2_; have GW131 := n3_; have GE131 := n4_; have NB126_131 := n5_; have NB131_126 := n6_; clear n0_ n1_ n2_ n3_ n4_ n5_ n6_; clear hb hbox hg; have hnb16 := NB131_126.out; have hnc16 := NB126_131.out; obtain ⟨hcz17_0, hcz17_1, hcz17_2⟩ := cel3 BK131.out; obtain ⟨hfz17_0, hfz17_1, hfz17_2⟩ := frz3 BK131.out; obtain ⟨hcz18_0, hcz18_1, hcz18_2⟩ := cel3 BK126.out; obtain ⟨hfz18_0, hfz18_1, hfz18_2⟩ := frz3 BK126.out))
     refine bodyPost_ret (results_ct rfl _ _ gb126 25 #[.int .i64 t127, .int .i64 t128, .int .i64 t129] (0, 0) _ rfl (by (with_reducible repeat (first | refine blk_drewN ?_ _ | refine blk_drew ?_ | refine blk_alloc ?_ _)); refine blk_put (cs := #[.int .i64 t127, .int .i64 t128, .int .i64 0]) ?_ 2 _ rfl; (with_reducible repeat (first | refine blk_drewN ?_ _ | refine blk_drew ?_ | refine blk_alloc ?_ _)); refine blk_put (cs := #[.int .i64 t127, .int .i64 0, .int .i64 0]) ?_ 1 _ rfl; (with_reducible repeat (first | refine blk_drewN ?_ _ | refine blk_drew ?_ | refine blk_alloc ?_ _)); refine blk_put (cs := #[.int .i64 0, .int .i64 0, .int .i64 0]) ?_ 0 _ rfl; (with_reducible repeat (first | refine blk_drewN ?_ _ | refine blk_drew ?_ | refine blk_alloc ?_ _)); refine blk_far ?_ NB126_131.out _; (with_reducible repeat (first | refine blk_drewN ?_ _ | refine blk_drew ?_ | refine blk_alloc ?_ _)); refine blk_far ?_ NB126_131.out _; (with_reducible repeat (first | refine blk_drewN ?_ _ | refine blk_drew ?_ | refine blk_alloc ?_ _)); refine blk_far ?_ NB126_131.out _; (with_reducible repeat (first | refine blk_drewN ?_ _ | refine blk_drew ?_ | refine blk_alloc ?_ _)); exact BK126.out) Try.underlying25 rfl (by kernel_rfl)) rfl ?_
     exact ⟨by first | rfl | (simp [errW_none, errW_some] <;> rfl) | (simp [*, errW_none, errW_some] <;> rfl), by repeat (first | (with_reducible first | exact HB.out | apply below_alloc | apply pw_below_drewN | apply below_drew1 | refine below_set ?_ GE126.out | refine below_set ?_ GE131.out) | exact HB.out)⟩
end Go.Proofs.Ytpmkibggmkibeaa.G
namespace Go.Proofs.Ytpmkibggmkibeaa.G
open Go.RowKit Go.Proofs.YtpmkibggmkibeaaW.PrintWords Go.Proofs.YtpmkibggmkibeaaW.PrintLast Go.Proofs.YtpmkibggmkibeaaW.PrintMore
attribute [local go_sem] max2_int min2_int max_two min_two max_three min_three max_four min_four   -- for this text's walks alone
set_option linter.unusedVariables false
set_option linter.unusedSimpArgs false
def subchannel_msf.f (a0 : Int) : Option (Int × Int × Int) := (address_ToMSF.f a0).bind fun bt133 => (some (bt133.1, bt133.2.1, bt133.2.2.1))
set_option maxHeartbeats 8000000 in
set_option maxRecDepth 100000 in
theorem subchannel_msf.calls (a0 : Int) (r1 : Int) (r2 : Int) (r3 : Int) (w : World) (h : subchannel_msf.f a0 = some (r1, r2, r3)) :
 Calls Try.prog 27 #[.int .i64 a0] w fun e w' => e = .returned (.agg #[.int .i64 r1, .int .i64 r2, .int .i64 r3]) ∧ Below w.heap.size w w' := by
 have hu25 := Try.underlying25
 have HB := Aside0.mk (Below.refl w.heap.size w)
 have H : ((address_ToMSF.f a0).bind fun bt133 => (some (bt133.1, bt133.2.1, bt133.2.2.1))) = some (r1, r2, r3) := h
 clear h
 replace H := Option.bind_eq_some_iff.mp H
 obtain ⟨⟨t133, t134, t135, t136⟩, A20, H⟩ := H
 replace H : (some (t133, t134, t135)) = some (r1, r2, r3) := H
 have A2 := Aside0.mk A20
 clear A20
 simp only [Option.some.injEq, Prod.mk.injEq] at H
 obtain ⟨rfl, rfl, rfl⟩ := H
 go_enter Try.func27, Try.ntmps27
 go_wp2_with (first | ((with_reducible refine gate_dst (N := 2) rfl ?_); refine box_event ?hg (N := 2) ?hd (cs := #[.int .i64 0, .int .i64 0, .int .i64 0]) (t := 25) ?hr ?_; (case hd => rfl); (case hg => rfl); (case hr => first | (go_simp; done) | (go_simp; rfl)); intro gb132 hg w3 hbox hb; have n0_ := Aside0.mk (below_step (by repeat (first | (with_reducible first | exact HB.out | apply below_alloc | apply pw_below_drewN | apply below_drew1) | exact HB.out)) hb); have n1_ := Aside0.mk (hbox); have n2_ := Aside0.mk ((by rw [hg]; exact (below_size (by repeat (first | (with_reducible first | exact HB.out | apply below_alloc | apply pw_below_drewN | apply below_drew1) | exact HB.out))) : w.heap.size ≤ gb132)); have n3_ := Aside0.mk ((by rw [hg]; exact (below_size (by repeat (first | (with_reducible first | exact HB.out | apply below_alloc | apply pw_below_drewN | apply below_drew1) | exact HB.out))) : w.heap.size ≤ gb132)); clear HB; have HB := n0_; have BK132 := n1_; have GW132 := n2_; have GE132 := n3_; clear n0_ n1_ n2_ n3_; clear hb hbox hg) | ((with_reducible refine gate_callee (f := 54) rfl ?_); refine goesL_ (some 7) rfl rfl Try.func54 (by kernel_rfl) rfl #[.int .i64 a0] rfl (by (try simp only [List.map_toArray, List.map_cons, List.map_nil]); first | done | rfl | (simp only [List.length_drop, List.length_take]; rfl)) ?_; (with_reducible refine (address_ToMSF.calls a0 t133 t134 t135 t136 _ A2.out).mono ?_); rintro e w4 ⟨rfl, hb⟩; refine ⟨_, rfl, ?_⟩; have n0_ := Aside0.mk (blk_below (g := gb132) (o := .cells #[.int .i64 0, .int .i64 0, .int .i64 0] 25 (0, 0)) (by (with_reducible repeat (first | refine blk_drewN ?_ _ | refine blk_drew ?_ | refine blk_alloc ?_ _)); exact BK132.out) hb); have n1_ := Aside0.mk (below_step (by repeat (first | (with_reducible first | exact HB.out | apply below_alloc | apply pw_below_drewN | apply below_drew1 | refine below_set ?_ GE132.out) | exact HB.out)) hb); clear BK132; clear HB; have BK132 := n0_; have HB := n1_; clear n0_ n1_; (try clear hb); (try clear hb2); (try clear hk); (try clear hi)) | ((with_reducible refine gate_dst (N := 3) rfl ?_); refine box_event ?hg (N := 3) ?hd (cs := #[.int .i64 0, .int .i64 0, .int .i64 0]) (t := 25) ?hr ?_; (case hd => rfl); (case hg => rfl); (case hr => first | (go_simp; done) | (go_simp; rfl)); intro gb137 hg w5 hbox hb; have n0_ := Aside0.mk (blk_below (g := gb132) (o := .cells #[.int .i64 0, .int .i64 0, .int .i64 0] 25 (0, 0)) (by (with_reducible repeat (first | refine blk_drewN ?_ _ | refine blk_drew ?_ | refine blk_alloc ?_ _)); exact BK132.out) hb); have n1_ := Aside0.mk (below_step (by repeat (first | (with_reducible first | exact HB.out | apply below_alloc | apply pw_below_drewN | apply below_drew1 | refine below_set ?_ GE132.out) | exact HB.out)) hb); have n2_ := Aside0.mk (hbox); have n3_ := Aside0.mk ((by rw [hg]; exact (below_size (by repeat (first | (with_reducible first | exact HB.out | apply below_alloc | apply pw_below_drewN | apply below_drew1 | refine below_set ?_ GE132.out) | exact HB.out))) : w.heap.size ≤ gb137)); have n4_ := Aside0.mk ((by rw [hg]; exact (below_size (by repeat (first | (with_reducible first | exact HB.out | apply below_alloc | apply pw_below_drewN | apply below_drew1 | refine below_set ?_ GE132.out) | exact HB.out))) : w.heap.size ≤ gb137)); have n5_ := Aside0.mk ((by rw [hg]; exact Nat.ne_of_lt (blk_lt (g := gb132) (o := .cells #[.int .i64 0, .int .i64 0, .int .i64 0] 25 (0, 0)) (by (with_reducible repeat (first | refine blk_drewN ?_ _ | refine blk_drew ?_ | refine blk_alloc ?_ _)); exact BK132.out)) : gb132 ≠ gb137)); have n6_ := Aside0.mk ((by rw [hg]; exact Nat.ne_of_gt (blk_lt (g := gb132) (o := .cells #[.int .i64 0, .int .i64 0, .int .i64 0] 25 (0, 0)) (by (with_reducible repeat (first | refine blk_drewN ?_ _ | refine blk_drew ?_ | refine blk_alloc ?_ _)); exact BK132.out)) : gb137 ≠ gb132)); clear BK132; clear HB; have BK132 := n0_; have HB := n1_; have BK137 := n2_; have GW137 := n3_; have GE137 := n4_; have NB132_137 := n5_; have NB137_132 := n6_; clear n0_ n1_ n2_ n3_ n4_ n5_ n6_; clear hb hbox hg; have hnb6 := NB137_132.out; have hnc6 := NB132_137.out; obtain ⟨hcz7_0, hcz7_1, hcz7_2⟩ := cel3 BK137.out; obtain ⟨hfz7_0, hfz7_1, hfz7_2⟩ := frz3 BK137.out; obtain ⟨hcz8_0, hcz8_1, hcz8_2⟩ := cel3 BK132.out; obtain ⟨hfz8_0, hfz8_1, hfz8_2⟩ := frz3 BK132.out))
 refine bodyPost_ret (results_cell_row rfl _ _ gb132 25 #[.int .i64 t133, .int .i64 t134, .int .i64 t135] (0, 0) _ rfl (by (with_reducible repeat (first | refine blk_drewN ?_ _ | refine blk_drew ?_ | refine blk_alloc ?_ _)); refine blk_put (cs := #[.int .i64 t133, .int .i64 t134, .int .i64 0]) ?_ 2 _ rfl; (with_reducible repeat (first | refine blk_drewN ?_ _ | refine blk_drew ?_ | refine blk_alloc ?_ _)); refine blk_put (cs := #[.int .i64 t133, .int .i64 0, .int .i64 0]) ?_ 1 _ rfl; (with_reducible repeat (first | refine blk_drewN ?_ _ | refine blk_drew ?_ | refine blk_alloc ?_ _)); refine blk_put (cs := #[.int .i64 0, .int .i64 0, .int .i64 0]) ?_ 0 _ rfl; (with_reducible repeat (first | refine blk_drewN ?_ _ | refine blk_drew ?_ | refine blk_alloc ?_ _)); refine blk_far ?_ NB132_137.out _; (with_reducible repeat (first | refine blk_drewN ?_ _ | refine blk_drew ?_ | refine blk_alloc ?_ _)); refine blk_far ?_ NB132_137.out _; (with_reducible repeat (first | refine blk_drewN ?_ _ | refine blk_drew ?_ | refine blk_alloc ?_ _)); refine blk_far ?_ NB132_137.out _; (with_reducible repeat (first | refine blk_drewN ?_ _ | refine blk_drew ?_ | refine blk_alloc ?_ _)); exact BK132.out) Try.underlying25 rfl (by kernel_rfl)) rfl ?_
 exact ⟨by first | rfl | (simp [errW_none, errW_some] <;> rfl) | (simp [*, errW_none, errW_some] <;> rfl), by repeat (first | (with_reducible first | exact HB.out | apply below_alloc | apply pw_below_drewN | apply below_drew1 | refine below_set ?_ GE132.out | refine below_set ?_ GE137.out) | exact HB.out)⟩
end Go.Proofs.Ytpmkibggmkibeaa.G
namespace Go.Proofs.Ytpmkibggmkibeaa.G
open Go.RowKit Go.Proofs.YtpmkibggmkibeaaW.PrintWords Go.Proofs.YtpmkibggmkibeaaW.PrintLast Go.Proofs.YtpmkibggmkibeaaW.PrintMore
theorem ite_iff {p q : Prop} [Decidable p] [Decidable q] {α : Type} {a b : α} (h : p ↔ q) : (if p then a else b) = if q then a else b := by
 by_cases hp : p
 · rw [if_pos hp, if_pos (h.1 hp)]
 · rw [if_neg hp, if_neg (fun hq => hp (h.2 hq))]
theorem between_yes {a b c : Int} (h1 : b ≤ a) (h2 : a ≤ c) : subchannel_between.f a b c = some true := by
 unfold subchannel_between.f
 rw [if_pos (by omega), decide_eq_true h2]
theorem between_no {a b c : Int} (h : ¬ (b ≤ a ∧ a ≤ c)) : subchannel_between.f a b c = some false := by
 unfold subchannel_between.f
 by_cases h1 : a ≥ b
 · rw [if_pos h1, decide_eq_false (by omega)]
 · rw [if_neg h1]
theorem between_dec (a b c : Int) : subchannel_between.f a b c = some (decide (b ≤ a ∧ a ≤ c)) := by
 by_cases h : b ≤ a ∧ a ≤ c
 · rw [between_yes h.1 h.2, decide_eq_true h]
 · rw [between_no h, decide_eq_false h]
theorem end_plain {x0 x1 x2 x3 x4 x5 x6 : Int} (h2 : 0 ≤ x2) (h22 : x2 ≤ 449849) (h3 : 0 ≤ x3) (h33 : x3 ≤ 449849) : subchannel_end.f x0 x1 x2 x3 x4 x5 x6 = some (x2 + x3) := by
 unfold subchannel_end.f
 rw [show wrap64 (x2 + x3) = x2 + x3 by unfold wrap64; omega]
theorem session_round (k : Nat) (l : List (S53)) (last : Int) (i : Nat) (hi : i < l.length) (hl : l.length ≤ 99) (hl0 : 0 ≤ last) (hl1 : last ≤ 449849) (hp : 0 < i → 1 ≤ (rd_T53 l ((i : Int) - 1)).f0 ∧ (rd_T53 l ((i : Int) - 1)).f0 ≤ 99) :
 subchannel_session.l0 (k + 2) l last l (l.length : Int) (i : Int) = if sesOk l i last = true then subchannel_session.l0 k l ((rd_T53 l (i : Int)).f2 + (rd_T53 l (i : Int)).f3) l (l.length : Int) ((i + 1 : Nat) : Int) else some false := by
 unfold sesOk
 rw [subchannel_session.l0.eq_def]
 dsimp only
 generalize rd_T53 l (i : Int) = x at *
 obtain ⟨x0, x1, x2, x3, x4, x5, x6⟩ := x
 dsimp only
 have w1 : wrap64 ((i : Int) + 1) = ((i + 1 : Nat) : Int) := by unfold wrap64; omega
 have jt : ∀ y0 y1 y2 y3 y4 y5 y6, subchannel_session.j2 (k + 1) l l (l.length : Int) (i : Int) true y0 y1 y2 y3 y4 y5 y6 = some false := fun y0 y1 y2 y3 y4 y5 y6 => by simp only [subchannel_session.j2]; rw [if_pos trivial]
 rw [if_pos (by omega), if_pos (by omega), if_pos (by omega), between_dec]
 simp only [Option.bind_some]
 by_cases a1 : 1 ≤ x0 ∧ x0 ≤ 99
 case neg =>
  rw [decide_eq_false a1, if_neg (by decide), jt, if_neg (by simp only [decide_eq_true_eq]; omega)]
 rw [decide_eq_true a1, if_pos rfl]
 have tail : ((subchannel_between.f x2 last 449849).bind fun t => if t = true then ((subchannel_between.f x3 1 449849).bind fun t => if t = true then ((subchannel_end.f x0 x1 x2 x3 x4 x5 x6).bind fun t => subchannel_session.j2 (k + 1) l l (l.length : Int) (i : Int) (decide (t > 449849)) x0 x1 x2 x3 x4 x5 x6) else subchannel_session.j2 (k + 1) l l (l.length : Int) (i : Int) true x0 x1 x2 x3 x4 x5 x6) else subchannel_session.j2 (k + 1) l l (l.length : Int) (i : Int) true x0 x1 x2 x3 x4 x5 x6) = if last ≤ x2 ∧ x2 ≤ 449849 ∧ 1 ≤ x3 ∧ x3 ≤ 449849 ∧ x2 + x3 ≤ 449849 then subchannel_session.l0 k l (x2 + x3) l (l.length : Int) ((i + 1 : Nat) : Int) else some false := by
  rw [between_dec, between_dec]
  simp only [Option.bind_some]
  by_cases a3 : last ≤ x2 ∧ x2 ≤ 449849
  case neg => rw [decide_eq_false a3, if_neg (by decide), jt, if_neg (by omega)]
  rw [decide_eq_true a3, if_pos rfl]
  by_cases a4 : 1 ≤ x3 ∧ x3 ≤ 449849
  case neg => rw [decide_eq_false a4, if_neg (by decide), jt, if_neg (by omega)]
  rw [decide_eq_true a4, if_pos rfl, end_plain (by omega) (by omega) (by omega) (by omega)]
  simp only [Option.bind_some]
  by_cases a5 : x2 + x3 > 449849
  · rw [decide_eq_true a5, jt, if_neg (by omega)]
  · rw [decide_eq_false a5, if_pos (by omega)]
    simp only [subchannel_session.j2]
    rw [if_neg (by decide), end_plain (by omega) (by omega) (by omega) (by omega)]
    simp only [Option.bind_some]
    rw [w1]
 by_cases i0 : (i : Int) > 0
 · have w2 : wrap64 ((i : Int) - 1) = (i : Int) - 1 := by unfold wrap64; omega
   rw [if_pos i0, w2, if_pos (by omega), if_pos (by omega)]
   have hp2 := hp (by omega)
   generalize rd_T53 l ((i : Int) - 1) = y at *
   obtain ⟨y0, y1, y2, y3, y4, y5, y6⟩ := y
   dsimp only at *
   have w3 : wrap64 (y0 + 1) = y0 + 1 := by unfold wrap64; omega
   rw [w3]
   by_cases a2 : x0 = y0 + 1
   case neg => rw [if_neg a2, jt, if_neg (by simp only [decide_eq_true_eq]; rintro ⟨-, -, h, -⟩; exact a2 (h (by omega)))]
   rw [if_pos a2, tail]
   refine ite_iff ?_
   simp only [decide_eq_true_eq]
   constructor
   · rintro ⟨h1, h2, h3, h4, h5⟩; exact ⟨a1.1, a1.2, fun _ => a2, h1, h2, h3, h4, h5⟩
   · rintro ⟨-, -, -, h1, h2, h3, h4, h5⟩; exact ⟨h1, h2, h3, h4, h5⟩
 · rw [if_neg i0, tail]
   refine ite_iff ?_
   simp only [decide_eq_true_eq]
   constructor
   · rintro ⟨h1, h2, h3, h4, h5⟩; exact ⟨a1.1, a1.2, fun h => absurd h (by omega), h1, h2, h3, h4, h5⟩
   · rintro ⟨-, -, -, h1, h2, h3, h4, h5⟩; exact ⟨h1, h2, h3, h4, h5⟩
theorem session_rounds (l : List (S53)) (hl : l.length ≤ 99) (d : Nat) : ∀ (k i : Nat) (last : Int), l.length - i = d → i ≤ l.length → 2 * d < k → 0 ≤ last → last ≤ 449849 → (0 < i → 1 ≤ (rd_T53 l ((i : Int) - 1)).f0 ∧ (rd_T53 l ((i : Int) - 1)).f0 ≤ 99) →
 subchannel_session.l0 k l last l (l.length : Int) (i : Int) = some (sesGo l d i last) := by
 induction d with
 | zero =>
  intro k i last hd hi hk h0 h1 hp
  obtain ⟨k, rfl⟩ : ∃ m, k = m + 1 := ⟨k - 1, by omega⟩
  rw [subchannel_session.l0.eq_def]
  dsimp only
  rw [if_neg (by omega)]
  rfl
 | succ d ih =>
  intro k i last hd hi hk h0 h1 hp
  obtain ⟨k, rfl⟩ : ∃ m, k = m + 2 := ⟨k - 2, by omega⟩
  rw [session_round k l last i (by omega) hl h0 h1 hp]
  cases ho : sesOk l i last with
  | false => rw [if_neg (by decide)]; simp only [sesGo, ho, Bool.false_and]
  | true =>
   have hs := ho
   simp only [sesOk, decide_eq_true_eq] at hs
   rw [if_pos rfl, ih k (i + 1) _ (by omega) (by omega) (by omega) (by omega) (by omega) (fun _ => by rw [show (((i + 1 : Nat) : Int) - 1) = (i : Int) by omega]; exact ⟨hs.1, hs.2.1⟩)]
   simp only [sesGo, ho, Bool.true_and]
theorem session_plain (l : List (S53)) : subchannel_session.f (2 * l.length + 5) l = some (sesB l) := by
 unfold subchannel_session.f sesB
 have jt : subchannel_session.j0 (2 * l.length + 5) l true = some false := by simp only [subchannel_session.j0]; rw [if_pos trivial]
 by_cases h1 : (l.length : Int) < 1
 · rw [if_pos h1, jt, decide_eq_false (by omega), Bool.false_and]
 · rw [if_neg h1]
   by_cases h2 : (l.length : Int) > 99
   · rw [decide_eq_true h2, jt, decide_eq_false (by omega), Bool.false_and]
   · rw [decide_eq_false h2, decide_eq_true (by omega), Bool.true_and]
     simp only [subchannel_session.j0]
     rw [if_neg (by decide)]
     exact session_rounds l (by omega) l.length _ 0 0 (by omega) (by omega) (by omega) (by omega) (by omega) (fun h => absurd h (by omega))
def msfM (n : Int) : Int := (n + 150) / 75 / 60
def msfS (n : Int) : Int := (n + 150) / 75 % 60
def msfF (n : Int) : Int := (n + 150) % 75
theorem numbered_plain {n : Int} (h0 : 0 ≤ n) (h1 : n ≤ 449999) : address_numbered.f n = some (n / 75 / 60, n / 75 % 60, n % 75, true) := by
 unfold address_numbered.f
 rw [if_neg (by omega), if_neg (by omega)]
 have e1 : Int.tdiv n 75 = n / 75 := Int.tdiv_eq_ediv_of_nonneg h0
 have e2 : wrap64 (n / 75) = n / 75 := by unfold wrap64; omega
 have e3 : Int.tdiv (n / 75) 60 = n / 75 / 60 := Int.tdiv_eq_ediv_of_nonneg (by omega)
 have e4 : wrap64 (n / 75 / 60) = n / 75 / 60 := by unfold wrap64; omega
 have e5 : Int.tmod (n / 75) 60 = n / 75 % 60 := Int.tmod_eq_emod_of_nonneg (by omega)
 have e6 : Int.tmod n 75 = n % 75 := Int.tmod_eq_emod_of_nonneg h0
 rw [e1, e2, e3, e4, e5, e6]
theorem toMSF_plain {n : Int} (h0 : -150 ≤ n) (h1 : n ≤ 449849) : address_ToMSF.f n = some (msfM n, msfS n, msfF n, 0) := by
 unfold address_ToMSF.f msfM msfS msfF
 rw [if_neg (by omega), show wrap64 (n + 150) = n + 150 by unfold wrap64; omega, numbered_plain (by omega) (by omega)]
 simp only [Option.bind_some]
 rw [if_pos trivial]
theorem msf_plain {n : Int} (h0 : -150 ≤ n) (h1 : n ≤ 449849) : subchannel_msf.f n = some (msfM n, msfS n, msfF n) := by
 unfold subchannel_msf.f
 rw [toMSF_plain h0 h1]
 rfl
theorem session_any (A : Option Addr) (c : Nat) (l : List (S53)) (w : World) (hr : Kd.C k53 w A l.length l) (hc : l.length ≤ c) :
 Calls Try.prog 25 #[.slice A l.length c] w fun e w' => e = .returned (.bool (sesB l)) ∧ Below w.heap.size w w' :=
 subchannel_session.calls _ A c l (sesB l) w hr hc (session_plain l)
end Go.Proofs.Ytpmkibggmkibeaa.G
namespace Go.Proofs.Ytpmkibggmkibeaa.G
open Go.RowKit Go.Proofs.YtpmkibggmkibeaaW.PrintWords Go.Proofs.YtpmkibggmkibeaaW.PrintLast Go.Proofs.YtpmkibggmkibeaaW.PrintMore
attribute [local go_sem] max2_int min2_int max_two min_two max_three min_three max_four min_four   -- for this text's walks alone
set_option linter.unusedVariables false
set_option linter.unusedSimpArgs false
def address_limit.f (a0 : Int) : Option (Int) := (some (([100, 60, 75] : List Int) : List Int)).bind fun y106 => (if 0 ≤ a0 then (if a0 < (y106.length : Int) then (some (rd y106 a0)) else (none)) else (none))
set_option maxHeartbeats 8000000 in
set_option maxRecDepth 100000 in
theorem address_limit.calls (a0 : Int) (r : Int) (w : World) (h : address_limit.f a0 = some r) :
 Calls Try.prog 56 #[.int .i64 a0] w fun e w' => e = .returned (.int .i64 r) ∧ Below w.heap.size w w' := by
 have HB := Aside0.mk (Below.refl w.heap.size w)
 have H : ((some (([100, 60, 75] : List Int) : List Int)).bind fun y106 => (if 0 ≤ a0 then (if a0 < (y106.length : Int) then (some (rd y106 a0)) else (none)) else (none))) = some r := h
 clear h
 obtain ⟨y106, hy106⟩ : ∃ y_ : List Int, y_ = (([100, 60, 75] : List Int)) := ⟨_, rfl⟩
 replace H : (if 0 ≤ a0 then (if a0 < (y106.length : Int) then (some (rd y106 a0)) else (none)) else (none)) = some r := by first | (rw [hy106]; with_reducible exact H) | (have H2_ := (Option.bind_some _ _).symm.trans H; rw [hy106]; with_reducible exact H2_) | (have H2_ := (Option.bind_some _ _).symm.trans H; with_reducible exact H2_) | with_reducible exact H | (rw [hy106]; exact H) | exact H
 have Ny106 := Aside0.mk hy106
 clear hy106
 by_cases c2 : 0 ≤ a0
 · rw [if_pos c2] at H
   have c2b0 : decide (0 ≤ a0) = true := decide_eq_true c2
   clear c2
   by_cases c3 : a0 < (y106.length : Int)
   · rw [if_pos c3] at H
     have c3b0 : decide (a0 < (y106.length : Int)) = true := decide_eq_true c3
     clear c3
     obtain rfl := Option.some.inj H
     go_enter Try.func56, Try.ntmps56
     go_wp2_with (first | ((with_reducible refine gate_dst (N := 3) rfl ?_); refine Kd.R_lit (Kd.int .i64) _ 3 ?hg (N := 3) ?hd (xs := ([100, 60, 75] : List Int)) (inner := [.int .i64 100, .int .i64 60, .int .i64 75]) (ok := fun _ => True) (okp := fun _ => True) ?hr ?hp (fun _ hk => hk) trivial (Below.refl _ _) (Nat.le_refl _) (by simp) ?_; (case hd => rfl); (case hg => rfl); (case hr => first | (go_simp; done) | (go_simp; rfl)); (case hp => exact (Reps.one (show Kd.M (Kd.int .i64) _ _ _ 100 [.int .i64 100] from rfl) (Reps.one (show Kd.M (Kd.int .i64) _ _ _ 60 [.int .i64 60] from rfl) (Reps.one (show Kd.M (Kd.int .i64) _ _ _ 75 [.int .i64 75] from rfl) (Reps.none _ _))))); intro v107 w4 ho5 hb hg_ hnew_; clear hg_ hnew_; (first | rw [← Ny106.out] at ho5 | (simp only [Int.reduceToNat] at ho5; rw [← Ny106.out] at ho5)); have n0_ := Aside0.mk (Kd.R_lower ho5 (below_size (by repeat (first | (with_reducible first | exact HB.out | apply below_alloc | apply pw_below_drewN | apply below_drew1) | exact HB.out)))); have n1_ := Aside0.mk (below_step (by repeat (first | (with_reducible first | exact HB.out | apply below_alloc | apply pw_below_drewN | apply below_drew1) | exact HB.out)) hb); clear HB; have HO108 := n0_; have HB := n1_; clear n0_ n1_; clear hb ho5; obtain ⟨Ao6, co6, eo6⟩ := Kd.R_slice HO108.out; subst eo6; have p109 : 0 ≤ (a0 : Int) := of_decide_eq_true (by first | (with_reducible assumption) | assumption); have q109 : a0 < (y106.length : Int) := of_decide_eq_true (by first | (with_reducible assumption) | assumption); obtain ⟨ad109, e109, hx109_0⟩ := Kd.at_int (Kd.R_reads' HO108.out).2.2 a0 p109 q109; cases e109; replace p109 := eq_true p109; replace q109 := eq_true q109))
     go_ret
     exact ⟨by first | rfl | (simp [errW_none, errW_some] <;> rfl) | (simp [*, errW_none, errW_some] <;> rfl), by repeat (first | (with_reducible first | exact HB.out | apply below_alloc | apply pw_below_drewN | apply below_drew1) | exact HB.out)⟩
   · rw [if_neg c3] at H
     exact absurd H (by simp)
 · rw [if_neg c2] at H
   exact absurd H (by simp)
end Go.Proofs.Ytpmkibggmkibeaa.G
namespace Go.Proofs.Ytpmkibggmkibeaa.G
open Go.RowKit Go.Proofs.YtpmkibggmkibeaaW.PrintWords Go.Proofs.YtpmkibggmkibeaaW.PrintLast Go.Proofs.YtpmkibggmkibeaaW.PrintMore
set_option linter.unusedVariables false
set_option maxHeartbeats 400000 in
set_option maxRecDepth 100000 in
theorem address_split.calls (m s f : Int) (w : World) :
 Calls Try.prog 55 #[.agg #[.int .i64 m, .int .i64 s, .int .i64 f]] w fun e w' => e = .returned (.agg #[.int .i64 m, .int .i64 s, .int .i64 f]) ∧ Below w.heap.size w w' := by
 have hu := Try.underlying25
 have hu3 := Try.underlying75
 go_enter Try.func55, Try.ntmps55
 go_wp2_with (fail)
 refine bodyPost_ret (results_cell_row rfl _ _ (w.heap.size + 1) 75 #[.int .i64 m, .int .i64 s, .int .i64 f] (0, 0) _ rfl (two_new rfl).2.1 hu3 rfl (by kernel_rfl)) rfl ?_
 exact ⟨rfl, (two_new rfl).2.2⟩
def msfB (m s f : Int) : Bool := decide (0 ≤ m ∧ m < 100 ∧ 0 ≤ s ∧ s < 60 ∧ 0 ≤ f ∧ f < 75)
def partB (m s f : Int) (k : Nat) : Bool := match k with
 | 0 => msfB m s f
 | 1 => decide (0 ≤ s ∧ s < 60 ∧ 0 ≤ f ∧ f < 75)
 | 2 => decide (0 ≤ f ∧ f < 75)
 | _ => true
def address_Valid.f (a0_0 a0_1 a0_2 : Int) : Option Bool := some (msfB a0_0 a0_1 a0_2)
set_option maxHeartbeats 400000 in
set_option maxRecDepth 100000 in
theorem address_Valid.calls (a0_0 a0_1 a0_2 : Int) (r : Bool) (w : World) (h : address_Valid.f a0_0 a0_1 a0_2 = some r) :
 Calls Try.prog 37 #[.agg #[.int .i64 a0_0, .int .i64 a0_1, .int .i64 a0_2]] w fun e w' => e = .returned (.bool r) ∧ Below w.heap.size w w' := by
 have hu := Try.underlying25
 have hix0 : ∀ w, (Instr.index 75 (.agg #[.int .i64 a0_0, .int .i64 a0_1, .int .i64 a0_2]) (.int .i64 0)).run Try.prog w = .ok (.int .i64 a0_0) w := fun _ => rfl
 have hix1 : ∀ w, (Instr.index 75 (.agg #[.int .i64 a0_0, .int .i64 a0_1, .int .i64 a0_2]) (.int .i64 1)).run Try.prog w = .ok (.int .i64 a0_1) w := fun _ => rfl
 have hix2 : ∀ w, (Instr.index 75 (.agg #[.int .i64 a0_0, .int .i64 a0_1, .int .i64 a0_2]) (.int .i64 2)).run Try.prog w = .ok (.int .i64 a0_2) w := fun _ => rfl
 have hr : partB a0_0 a0_1 a0_2 0 = r := by cases h; rfl
 have HRR := Aside0.mk hr
 clear h hr
 go_enter Try.func37, Try.ntmps37
 go_wp2_with (fail)
 refine (address_split.calls a0_0 a0_1 a0_2 _).mono ?_
 rintro e w1 ⟨rfl, hb1⟩
 have HB1 := Aside0.mk (below_step (Below.alloc (Below.refl w.heap.size w) (Nat.le_refl _) _) hb1)
 clear hb1
 go_wp2_with (fail)
 go_loopg [7] 3 (fun gk v7 wr => ∃ k : Nat, k ≤ 3 ∧ 3 - k ≤ gk ∧ v7 = .int .i64 k ∧ Aside0 (partB a0_0 a0_1 a0_2 k = r) ∧ Aside0 (Below w.heap.size w wr))
 case atStart => exact ⟨0, by omega, by omega, rfl, HRR, HB1⟩
 case round =>
  obtain ⟨k, hk, hg, rfl, HV, HB⟩ := hrel
  obtain ⟨wo, rfl⟩ : ∃ wo, wo = wr := ⟨_, rfl⟩
  rcases (by omega : k = 0 ∨ k = 1 ∨ k = 2 ∨ k = 3) with rfl | rfl | rfl | rfl
  · have HLIM := Aside0.mk (address_limit.calls 0 100 wo rfl)
    by_cases h0 : a0_0 < 0
    · have hv : r = false := by rw [← HV.out]; exact decide_eq_false (by omega)
      subst hv
      clear hk
      go_wp2_with (fail)
      go_ret
      exact ⟨rfl, HB.out⟩
    · by_cases h1 : 100 ≤ a0_0
      · have hv : r = false := by rw [← HV.out]; exact decide_eq_false (by omega)
        subst hv
        clear hk
        go_wp2_with (fail)
        refine HLIM.out.mono ?_
        rintro e w2 ⟨rfl, hb2⟩
        go_wp2_with (fail)
        go_ret
        exact ⟨rfl, below_step HB.out hb2⟩
      · have HN := Aside0.mk (show partB a0_0 a0_1 a0_2 1 = r by rw [← HV.out]; exact decide_eq_decide.mpr (by omega))
        clear hk
        go_wp2_with (fail)
        refine HLIM.out.mono ?_
        rintro e w2 ⟨rfl, hb2⟩
        go_wp2_with (fail)
        go_roundg 2
        case measure => omega
        case rel => exact ⟨1, by omega, by omega, by go_num, HN, ⟨below_step HB.out hb2⟩⟩
  · have HLIM := Aside0.mk (address_limit.calls 1 60 wo rfl)
    by_cases h0 : a0_1 < 0
    · have hv : r = false := by rw [← HV.out]; exact decide_eq_false (by omega)
      subst hv
      clear hk
      go_wp2_with (fail)
      go_ret
      exact ⟨rfl, HB.out⟩
    · by_cases h1 : 60 ≤ a0_1
      · have hv : r = false := by rw [← HV.out]; exact decide_eq_false (by omega)
        subst hv
        clear hk
        go_wp2_with (fail)
        refine HLIM.out.mono ?_
        rintro e w2 ⟨rfl, hb2⟩
        go_wp2_with (fail)
        go_ret
        exact ⟨rfl, below_step HB.out hb2⟩
      · have HN := Aside0.mk (show partB a0_0 a0_1 a0_2 2 = r by rw [← HV.out]; exact decide_eq_decide.mpr (by omega))
        clear hk
        go_wp2_with (fail)
        refine HLIM.out.mono ?_
        rintro e w2 ⟨rfl, hb2⟩
        go_wp2_with (fail)
        go_roundg 1
        case measure => omega
        case rel => exact ⟨2, by omega, by omega, by go_num, HN, ⟨below_step HB.out hb2⟩⟩
  · have HLIM := Aside0.mk (address_limit.calls 2 75 wo rfl)
    by_cases h0 : a0_2 < 0
    · have hv : r = false := by rw [← HV.out]; exact decide_eq_false (by omega)
      subst hv
      clear hk
      go_wp2_with (fail)
      go_ret
      exact ⟨rfl, HB.out⟩
    · by_cases h1 : 75 ≤ a0_2
      · have hv : r = false := by rw [← HV.out]; exact decide_eq_false (by omega)
        subst hv
        clear hk
        go_wp2_with (fail)
        refine HLIM.out.mono ?_
        rintro e w2 ⟨rfl, hb2⟩
        go_wp2_with (fail)
        go_ret
        exact ⟨rfl, below_step HB.out hb2⟩
      · have HN := Aside0.mk (show partB a0_0 a0_1 a0_2 3 = r by rw [← HV.out]; exact (decide_eq_true (by omega)).symm)
        clear hk
        go_wp2_with (fail)
        refine HLIM.out.mono ?_
        rintro e w2 ⟨rfl, hb2⟩
        go_wp2_with (fail)
        go_roundg 0
        case measure => omega
        case rel => exact ⟨3, by omega, by omega, by go_num, HN, ⟨below_step HB.out hb2⟩⟩
  · have hv : r = true := HV.out.symm
    subst hv
    clear hk
    go_wp2_with (fail)
    go_ret
    exact ⟨rfl, HB.out⟩
end Go.Proofs.Ytpmkibggmkibeaa.G
namespace Go.Proofs.Ytpmkibggmkibeaa.G
open Go.RowKit Go.Proofs.YtpmkibggmkibeaaW.PrintWords Go.Proofs.YtpmkibggmkibeaaW.PrintLast Go.Proofs.YtpmkibggmkibeaaW.PrintMore
attribute [local go_sem] max2_int min2_int max_two min_two max_three min_three max_four min_four   -- for this text's walks alone
set_option linter.unusedVariables false
set_option linter.unusedSimpArgs false
def address_number.f (a0_0 : Int) (a0_1 : Int) (a0_2 : Int) : Option (Int) := some (wrap64 ((wrap64 ((wrap64 ((wrap64 (60 * a0_0)) + a0_1)) * 75)) + a0_2))
set_option maxHeartbeats 8000000 in
set_option maxRecDepth 100000 in
theorem address_number.calls (a0_0 : Int) (a0_1 : Int) (a0_2 : Int) (r : Int) (w : World) (h : address_number.f a0_0 a0_1 a0_2 = some r) :
 Calls Try.prog 38 #[.agg #[.int .i64 a0_0, .int .i64 a0_1, .int .i64 a0_2]] w fun e w' => e = .returned (.int .i64 r) ∧ Below w.heap.size w w' := by
 have hu25 := Try.underlying25
 have HB := Aside0.mk (Below.refl w.heap.size w)
 have H : (some (wrap64 ((wrap64 ((wrap64 ((wrap64 (60 * a0_0)) + a0_1)) * 75)) + a0_2))) = some r := h
 clear h
 obtain rfl := Option.some.inj H
 go_enter Try.func38, Try.ntmps38
 go_wp2_with (first | ((with_reducible refine gate_dst (N := 1) rfl ?_); refine box_event ?hg (N := 1) ?hd (cs := #[.int .i64 a0_0, .int .i64 a0_1, .int .i64 a0_2]) (t := 25) ?hr ?_; (case hd => rfl); (case hg => rfl); (case hr => first | (go_simp; done) | (go_simp; rfl)); intro gb262 hg w2 hbox hb; have n0_ := Aside0.mk (below_step (by repeat (first | (with_reducible first | exact HB.out | apply below_alloc | apply pw_below_drewN | apply below_drew1) | exact HB.out)) hb); have n1_ := Aside0.mk (hbox); have n2_ := Aside0.mk ((by rw [hg]; exact (below_size (by repeat (first | (with_reducible first | exact HB.out | apply below_alloc | apply pw_below_drewN | apply below_drew1) | exact HB.out))) : w.heap.size ≤ gb262)); have n3_ := Aside0.mk ((by rw [hg]; exact (below_size (by repeat (first | (with_reducible first | exact HB.out | apply below_alloc | apply pw_below_drewN | apply below_drew1) | exact HB.out))) : w.heap.size ≤ gb262)); clear HB; have HB := n0_; have BK262 := n1_; have GW262 := n2_; have GE262 := n3_; clear n0_ n1_ n2_ n3_; clear hb hbox hg; obtain ⟨hcz3_0, hcz3_1, hcz3_2⟩ := cel3 BK262.out; obtain ⟨hfz3_0, hfz3_1, hfz3_2⟩ := frz3 BK262.out))
 go_ret
 exact ⟨by first | rfl | (simp [errW_none, errW_some] <;> rfl) | (simp [*, errW_none, errW_some] <;> rfl), by repeat (first | (with_reducible first | exact HB.out | apply below_alloc | apply pw_below_drewN | apply below_drew1 | refine below_set ?_ GE262.out) | exact HB.out)⟩
end Go.Proofs.Ytpmkibggmkibeaa.G
namespace Go.Proofs.Ytpmkibggmkibeaa.G
open Go.RowKit Go.Proofs.YtpmkibggmkibeaaW.PrintWords Go.Proofs.YtpmkibggmkibeaaW.PrintLast Go.Proofs.YtpmkibggmkibeaaW.PrintMore
attribute [local go_sem] max2_int min2_int max_two min_two max_three min_three max_four min_four   -- for this text's walks alone
set_option linter.unusedVariables false
set_option linter.unusedSimpArgs false
def address_ToLBA.f (a0_0 : Int) (a0_1 : Int) (a0_2 : Int) : Option (Int × Int) := (address_Valid.f a0_0 a0_1 a0_2).bind fun t264 => (if t264 = true then ((address_number.f a0_0 a0_1 a0_2).bind fun t265 => (some (wrap64 (t265 - 150), 0))) else (some (0, 1)))
set_option maxHeartbeats 8000000 in
set_option maxRecDepth 100000 in
theorem address_ToLBA.calls (a0_0 : Int) (a0_1 : Int) (a0_2 : Int) (r1 : Int) (r2 : Int) (w : World) (h : address_ToLBA.f a0_0 a0_1 a0_2 = some (r1, r2)) :
 Calls Try.prog 16 #[.agg #[.int .i64 a0_0, .int .i64 a0_1, .int .i64 a0_2]] w fun e w' => e = .returned (.tuple #[.int .i64 r1, .int .i64 r2]) ∧ Below w.heap.size w w' := by
 have hu25 := Try.underlying25
 have HB := Aside0.mk (Below.refl w.heap.size w)
 have H : ((address_Valid.f a0_0 a0_1 a0_2).bind fun t264 => (if t264 = true then ((address_number.f a0_0 a0_1 a0_2).bind fun t265 => (some (wrap64 (t265 - 150), 0))) else (some (0, 1)))) = some (r1, r2) := h
 clear h
 replace H := Option.bind_eq_some_iff.mp H
 obtain ⟨t264, A20, H⟩ := H
 replace H : (if t264 = true then ((address_number.f a0_0 a0_1 a0_2).bind fun t265 => (some (wrap64 (t265 - 150), 0))) else (some (0, 1))) = some (r1, r2) := H
 have A2 := Aside0.mk A20
 clear A20
 by_cases c3 : t264 = true
 · subst c3
   have H1 : ((address_number.f a0_0 a0_1 a0_2).bind fun t265 => (some (wrap64 (t265 - 150), 0))) = some (r1, r2) := by rw [if_pos rfl] at H; exact H
   clear H
   have H := H1
   clear H1
   replace H := Option.bind_eq_some_iff.mp H
   obtain ⟨t265, A40, H⟩ := H
   replace H : (some (wrap64 (t265 - 150), 0)) = some (r1, r2) := H
   have A4 := Aside0.mk A40
   clear A40
   simp only [Option.some.injEq, Prod.mk.injEq] at H
   obtain ⟨rfl, rfl⟩ := H
   go_enter Try.func16, Try.ntmps16
   go_wp2_with (first | ((with_reducible refine gate_dst (N := 1) rfl ?_); refine box_event ?hg (N := 1) ?hd (cs := #[.int .i64 a0_0, .int .i64 a0_1, .int .i64 a0_2]) (t := 25) ?hr ?_; (case hd => rfl); (case hg => rfl); (case hr => first | (go_simp; done) | (go_simp; rfl)); intro gb263 hg w5 hbox hb; have n0_ := Aside0.mk (below_step (by repeat (first | (with_reducible first | exact HB.out | apply below_alloc | apply pw_below_drewN | apply below_drew1) | exact HB.out)) hb); have n1_ := Aside0.mk (hbox); have n2_ := Aside0.mk ((by rw [hg]; exact (below_size (by repeat (first | (with_reducible first | exact HB.out | apply below_alloc | apply pw_below_drewN | apply below_drew1) | exact HB.out))) : w.heap.size ≤ gb263)); have n3_ := Aside0.mk ((by rw [hg]; exact (below_size (by repeat (first | (with_reducible first | exact HB.out | apply below_alloc | apply pw_below_drewN | apply below_drew1) | exact HB.out))) : w.heap.size ≤ gb263)); clear HB; have HB := n0_; have BK263 := n1_; have GW263 := n2_; have GE263 := n3_; clear n0_ n1_ n2_ n3_; clear hb hbox hg; obtain ⟨hcz6_0, hcz6_1, hcz6_2⟩ := cel3 BK263.out; obtain ⟨hfz6_0, hfz6_1, hfz6_2⟩ := frz3 BK263.out) | ((with_reducible refine gate_callee (f := 37) rfl ?_); refine goesL_ (some 5) rfl rfl Try.func37 (by kernel_rfl) rfl #[.agg #[.int .i64 a0_0, .int .i64 a0_1, .int .i64 a0_2]] rfl (by (try simp only [List.map_toArray, List.map_cons, List.map_nil]); first | done | rfl | (simp only [List.length_drop, List.length_take]; rfl)) ?_; (with_reducible refine (address_Valid.calls a0_0 a0_1 a0_2 true _ A2.out).mono ?_); rintro e w7 ⟨rfl, hb⟩; refine ⟨_, rfl, ?_⟩; have n0_ := Aside0.mk (blk_below (g := gb263) (o := .cells #[.int .i64 a0_0, .int .i64 a0_1, .int .i64 a0_2] 25 (0, 0)) (by (with_reducible repeat (first | refine blk_drewN ?_ _ | refine blk_drew ?_ | refine blk_alloc ?_ _)); exact BK263.out) hb); have n1_ := Aside0.mk (below_step (by repeat (first | (with_reducible first | exact HB.out | apply below_alloc | apply pw_below_drewN | apply below_drew1 | refine below_set ?_ GE263.out) | exact HB.out)) hb); clear BK263; clear HB; have BK263 := n0_; have HB := n1_; clear n0_ n1_; (try clear hb); (try clear hb2); (try clear hk); (try clear hi); obtain ⟨hcz8_0, hcz8_1, hcz8_2⟩ := cel3 BK263.out; obtain ⟨hfz8_0, hfz8_1, hfz8_2⟩ := frz3 BK263.out) | ((with_reducible refine gate_callee (f := 38) rfl ?_); refine goesL_ (some 8) rfl rfl Try.func38 (by kernel_rfl) rfl #[.agg #[.int .i64 a0_0, .int .i64 a0_1, .int .i64 a0_2]] rfl (by (try simp only [List.map_toArray, List.map_cons, List.map_nil]); first | done | rfl | (simp only [List.length_drop, List.length_take]; rfl)) ?_; (with_reducible refine (address_number.calls a0_0 a0_1 a0_2 t265 _ A4.out).mono ?_); rintro e w9 ⟨rfl, hb⟩; refine ⟨_, rfl, ?_⟩; have n0_ := Aside0.mk (blk_below (g := gb263) (o := .cells #[.int .i64 a0_0, .int .i64 a0_1, .int .i64 a0_2] 25 (0, 0)) (by (with_reducible repeat (first | refine blk_drewN ?_ _ | refine blk_drew ?_ | refine blk_alloc ?_ _)); exact BK263.out) hb); have n1_ := Aside0.mk (below_step (by repeat (first | (with_reducible first | exact HB.out | apply below_alloc | apply pw_below_drewN | apply below_drew1 | refine below_set ?_ GE263.out) | exact HB.out)) hb); clear BK263; clear HB; have BK263 := n0_; have HB := n1_; clear n0_ n1_; (try clear hb); (try clear hb2); (try clear hk); (try clear hi)))
   go_ret2
   exact ⟨by first | rfl | (simp [errW_none, errW_some] <;> rfl) | (simp [*, errW_none, errW_some] <;> rfl), by repeat (first | (with_reducible first | exact HB.out | apply below_alloc | apply pw_below_drewN | apply below_drew1 | refine below_set ?_ GE263.out) | exact HB.out)⟩
 · replace c3 := Bool.eq_false_iff.mpr c3
   subst c3
   have H1 : (some (0, 1)) = some (r1, r2) := by rw [if_neg (show ¬ (false = true) by decide)] at H; exact H
   clear H
   have H := H1
   clear H1
   simp only [Option.some.injEq, Prod.mk.injEq] at H
   obtain ⟨rfl, rfl⟩ := H
   go_enter Try.func16, Try.ntmps16
   go_wp2_with (first | ((with_reducible refine gate_dst (N := 1) rfl ?_); refine box_event ?hg (N := 1) ?hd (cs := #[.int .i64 a0_0, .int .i64 a0_1, .int .i64 a0_2]) (t := 25) ?hr ?_; (case hd => rfl); (case hg => rfl); (case hr => first | (go_simp; done) | (go_simp; rfl)); intro gb263 hg w10 hbox hb; have n0_ := Aside0.mk (below_step (by repeat (first | (with_reducible first | exact HB.out | apply below_alloc | apply pw_below_drewN | apply below_drew1) | exact HB.out)) hb); have n1_ := Aside0.mk (hbox); have n2_ := Aside0.mk ((by rw [hg]; exact (below_size (by repeat (first | (with_reducible first | exact HB.out | apply below_alloc | apply pw_below_drewN | apply below_drew1) | exact HB.out))) : w.heap.size ≤ gb263)); have n3_ := Aside0.mk ((by rw [hg]; exact (below_size (by repeat (first | (with_reducible first | exact HB.out | apply below_alloc | apply pw_below_drewN | apply below_drew1) | exact HB.out))) : w.heap.size ≤ gb263)); clear HB; have HB := n0_; have BK263 := n1_; have GW263 := n2_; have GE263 := n3_; clear n0_ n1_ n2_ n3_; clear hb hbox hg; obtain ⟨hcz11_0, hcz11_1, hcz11_2⟩ := cel3 BK263.out; obtain ⟨hfz11_0, hfz11_1, hfz11_2⟩ := frz3 BK263.out) | ((with_reducible refine gate_callee (f := 37) rfl ?_); refine goesL_ (some 5) rfl rfl Try.func37 (by kernel_rfl) rfl #[.agg #[.int .i64 a0_0, .int .i64 a0_1, .int .i64 a0_2]] rfl (by (try simp only [List.map_toArray, List.map_cons, List.map_nil]); first | done | rfl | (simp only [List.length_drop, List.length_take]; rfl)) ?_; (with_reducible refine (address_Valid.calls a0_0 a0_1 a0_2 false _ A2.out).mono ?_); rintro e w12 ⟨rfl, hb⟩; refine ⟨_, rfl, ?_⟩; have n0_ := Aside0.mk (blk_below (g := gb263) (o := .cells #[.int .i64 a0_0, .int .i64 a0_1, .int .i64 a0_2] 25 (0, 0)) (by (with_reducible repeat (first | refine blk_drewN ?_ _ | refine blk_drew ?_ | refine blk_alloc ?_ _)); exact BK263.out) hb); have n1_ := Aside0.mk (below_step (by repeat (first | (with_reducible first | exact HB.out | apply below_alloc | apply pw_below_drewN | apply below_drew1 | refine below_set ?_ GE263.out) | exact HB.out)) hb); clear BK263; clear HB; have BK263 := n0_; have HB := n1_; clear n0_ n1_; (try clear hb); (try clear hb2); (try clear hk); (try clear hi)))
   go_ret2
   exact ⟨by first | rfl | (simp [errW_none, errW_some] <;> rfl) | (simp [*, errW_none, errW_some] <;> rfl), by repeat (first | (with_reducible first | exact HB.out | apply below_alloc | apply pw_below_drewN | apply below_drew1 | refine below_set ?_ GE263.out) | exact HB.out)⟩
end Go.Proofs.Ytpmkibggmkibeaa.G
namespace Go.Proofs.Ytpmkibggmkibeaa.G
open Go.RowKit Go.Proofs.YtpmkibggmkibeaaW.PrintWords Go.Proofs.YtpmkibggmkibeaaW.PrintLast Go.Proofs.YtpmkibggmkibeaaW.PrintMore
attribute [local go_sem] max2_int min2_int max_two min_two max_three min_three max_four min_four   -- for this text's walks alone
set_option linter.unusedVariables false
set_option linter.unusedSimpArgs false
def address_Distance.j0 : Nat → Bool → Int → Int → Int → Int → Int → Int → Option (Int × Int)
 | 0, _, _, _, _, _, _, _ => none
 | k + 1, x13, x267000, x267001, x267002, x268000, x268001, x268002 => if x13 = true then (some (0, 1)) else ((address_number.f x268000 x268001 x268002).bind fun t270 => ((address_number.f x267000 x267001 x267002).bind fun t271 => (some (wrap64 (t270 - t271), 0))))
def address_Distance.f (k : Nat) (a0_0 : Int) (a0_1 : Int) (a0_2 : Int) (a1_0 : Int) (a1_1 : Int) (a1_2 : Int) : Option (Int × Int) := (address_Valid.f a0_0 a0_1 a0_2).bind fun t268 => (if t268 = true then ((address_Valid.f a1_0 a1_1 a1_2).bind fun t269 => (address_Distance.j0 k (!t269) a0_0 a0_1 a0_2 a1_0 a1_1 a1_2)) else (address_Distance.j0 k true a0_0 a0_1 a0_2 a1_0 a1_1 a1_2))
theorem address_Distance.mono_l : ∀ k, (∀ y0 y1 y2 y3 y4 y5 y6, LeO (address_Distance.j0 k y0 y1 y2 y3 y4 y5 y6) (address_Distance.j0 (k + 1) y0 y1 y2 y3 y4 y5 y6))
 | 0 => fun _ _ _ _ _ _ _ r h => by simp [address_Distance.j0] at h
 | k + 1 => by
  have ih0 := address_Distance.mono_l k
  · intro y0 y1 y2 y3 y4 y5 y6
    unfold address_Distance.j0
    repeat' first
    | (with_reducible exact ih0 _ _ _ _ _ _ _)
    | (with_reducible exact LeO.refl _)
    | (with_reducible exact LeO.none _)
    | (with_reducible refine LeO.ite ?_ ?_)
    | (with_reducible refine LeO.bind ?_ (fun _ => ?_))
    | exact ih0 _ _ _ _ _ _ _
    | exact LeO.none _
    | refine LeO.ite ?_ ?_
    | refine LeO.bind ?_ (fun _ => ?_)
theorem address_Distance.mono : ∀ a0 a1 a2 a3 a4 a5 k, LeO (address_Distance.f k a0 a1 a2 a3 a4 a5) (address_Distance.f (k + 1) a0 a1 a2 a3 a4 a5) := by
 intro a0 a1 a2 a3 a4 a5 k
 have ih0 := address_Distance.mono_l k
 unfold address_Distance.f
 repeat' first
  | (with_reducible exact ih0 _ _ _ _ _ _ _)
  | (with_reducible exact LeO.refl _)
  | (with_reducible exact LeO.none _)
  | (with_reducible refine LeO.ite ?_ ?_)
  | (with_reducible refine LeO.bind ?_ (fun _ => ?_))
  | exact ih0 _ _ _ _ _ _ _
  | exact LeO.none _
  | refine LeO.ite ?_ ?_
  | refine LeO.bind ?_ (fun _ => ?_)
set_option maxHeartbeats 8000000 in
set_option maxRecDepth 100000 in
theorem address_Distance.calls (k : Nat) (a0_0 : Int) (a0_1 : Int) (a0_2 : Int) (a1_0 : Int) (a1_1 : Int) (a1_2 : Int) (r1 : Int) (r2 : Int) (w : World) (h : address_Distance.f k a0_0 a0_1 a0_2 a1_0 a1_1 a1_2 = some (r1, r2)) :
 Calls Try.prog 17 #[.agg #[.int .i64 a0_0, .int .i64 a0_1, .int .i64 a0_2], .agg #[.int .i64 a1_0, .int .i64 a1_1, .int .i64 a1_2]] w fun e w' => e = .returned (.tuple #[.int .i64 r1, .int .i64 r2]) ∧ Below w.heap.size w w' := by
 have hu25 := Try.underlying25
 have HB := Aside0.mk (Below.refl w.heap.size w)
 have H : ((address_Valid.f a0_0 a0_1 a0_2).bind fun t268 => (if t268 = true then ((address_Valid.f a1_0 a1_1 a1_2).bind fun t269 => (address_Distance.j0 k (!t269) a0_0 a0_1 a0_2 a1_0 a1_1 a1_2)) else (address_Distance.j0 k true a0_0 a0_1 a0_2 a1_0 a1_1 a1_2))) = some (r1, r2) := h
 clear h
 have HC3 := Aside0.mk H
 clear H
 go_enter Try.func17, Try.ntmps17
 go_upto_region 1 with (first | ((with_reducible refine gate_dst (N := 2) rfl ?_); refine box_event ?hg (N := 2) ?hd (cs := #[.int .i64 a0_0, .int .i64 a0_1, .int .i64 a0_2]) (t := 25) ?hr ?_; (case hd => rfl); (case hg => rfl); (case hr => first | (go_simp; done) | (go_simp; rfl)); intro gb266 hg w4 hbox hb; have n0_ := Aside0.mk (below_step (by repeat (first | (with_reducible first | exact HB.out | apply below_alloc | apply pw_below_drewN | apply below_drew1) | exact HB.out)) hb); have n1_ := Aside0.mk (hbox); have n2_ := Aside0.mk ((by rw [hg]; exact (below_size (by repeat (first | (with_reducible first | exact HB.out | apply below_alloc | apply pw_below_drewN | apply below_drew1) | exact HB.out))) : w.heap.size ≤ gb266)); have n3_ := Aside0.mk ((by rw [hg]; exact (below_size (by repeat (first | (with_reducible first | exact HB.out | apply below_alloc | apply pw_below_drewN | apply below_drew1) | exact HB.out))) : w.heap.size ≤ gb266)); clear HB; have HB := n0_; have BK266 := n1_; have GW266 := n2_; have GE266 := n3_; clear n0_ n1_ n2_ n3_; clear hb hbox hg) | ((with_reducible refine gate_dst (N := 3) rfl ?_); refine box_event ?hg (N := 3) ?hd (cs := #[.int .i64 a1_0, .int .i64 a1_1, .int .i64 a1_2]) (t := 25) ?hr ?_; (case hd => rfl); (case hg => rfl); (case hr => first | (go_simp; done) | (go_simp; rfl)); intro gb267 hg w5 hbox hb; have n0_ := Aside0.mk (blk_below (g := gb266) (o := .cells #[.int .i64 a0_0, .int .i64 a0_1, .int .i64 a0_2] 25 (0, 0)) (by (with_reducible repeat (first | refine blk_drewN ?_ _ | refine blk_drew ?_ | refine blk_alloc ?_ _)); exact BK266.out) hb); have n1_ := Aside0.mk (below_step (by repeat (first | (with_reducible first | exact HB.out | apply below_alloc | apply pw_below_drewN | apply below_drew1 | refine below_set ?_ GE266.out) | exact HB.out)) hb); have n2_ := Aside0.mk (hbox); have n3_ := Aside0.mk ((by rw [hg]; exact (below_size (by repeat (first | (with_reducible first | exact HB.out | apply below_alloc | apply pw_below_drewN | apply below_drew1 | refine below_set ?_ GE266.out) | exact HB.out))) : w.heap.size ≤ gb267)); have n4_ := Aside0.mk ((by rw [hg]; exact (below_size (by repeat (first | (with_reducible first | exact HB.out | apply below_alloc | apply pw_below_drewN | apply below_drew1 | refine below_set ?_ GE266.out) | exact HB.out))) : w.heap.size ≤ gb267)); have n5_ := Aside0.mk ((by rw [hg]; exact Nat.ne_of_lt (blk_lt (g := gb266) (o := .cells #[.int .i64 a0_0, .int .i64 a0_1, .int .i64 a0_2] 25 (0, 0)) (by (with_reducible repeat (first | refine blk_drewN ?_ _ | refine blk_drew ?_ | refine blk_alloc ?_ _)); exact BK266.out)) : gb266 ≠ gb267)); have n6_ := Aside0.mk ((by rw [hg]; exact Nat.ne_of_gt (blk_lt (g := gb266) (o := .cells #[.int .i64 a0_0, .int .i64 a0_1, .int .i64 a0_2] 25 (0, 0)) (by (with_reducible repeat (first | refine blk_drewN ?_ _ | refine blk_drew ?_ | refine blk_alloc ?_ _)); exact BK266.out)) : gb267 ≠ gb266)); clear BK266; clear HB; have BK266 := n0_; have HB := n1_; have BK267 := n2_; have GW267 := n3_; have GE267 := n4_; have NB266_267 := n5_; have NB267_266 := n6_; clear n0_ n1_ n2_ n3_ n4_ n5_ n6_; clear hb hbox hg))
 (try simp only [Act.put, List.setIfInBounds_toArray, List.set_cons_zero, List.set_cons_succ])
 go_cut [13] (fun v13 wc => ∃ (kq : Nat) (x13_2 : Bool), v13 = .bool x13_2 ∧ Aside0 (address_Distance.j0 kq x13_2 a0_0 a0_1 a0_2 a1_0 a1_1 a1_2 = some (r1, r2)) ∧ Aside0 (kq ≤ k) ∧ Aside0 (wc.heap[gb266]? = some (.cells #[.int .i64 a0_0, .int .i64 a0_1, .int .i64 a0_2] 25 (0, 0))) ∧ Aside0 (wc.heap[gb267]? = some (.cells #[.int .i64 a1_0, .int .i64 a1_1, .int .i64 a1_2] 25 (0, 0))) ∧ Aside0 (Below w.heap.size w wc))
 case first =>
  have H := HC3.out
  clear HC3
  replace H := Option.bind_eq_some_iff.mp H
  obtain ⟨t268, A60, H⟩ := H
  replace H : (if t268 = true then ((address_Valid.f a1_0 a1_1 a1_2).bind fun t269 => (address_Distance.j0 k (!t269) a0_0 a0_1 a0_2 a1_0 a1_1 a1_2)) else (address_Distance.j0 k true a0_0 a0_1 a0_2 a1_0 a1_1 a1_2)) = some (r1, r2) := H
  have A6 := Aside0.mk A60
  clear A60
  by_cases c7 : t268 = true
  · subst c7
    have H1 : ((address_Valid.f a1_0 a1_1 a1_2).bind fun t269 => (address_Distance.j0 k (!t269) a0_0 a0_1 a0_2 a1_0 a1_1 a1_2)) = some (r1, r2) := by rw [if_pos rfl] at H; exact H
    clear H
    have H := H1
    clear H1
    replace H := Option.bind_eq_some_iff.mp H
    obtain ⟨t269, A80, H⟩ := H
    replace H : (address_Distance.j0 k (!t269) a0_0 a0_1 a0_2 a1_0 a1_1 a1_2) = some (r1, r2) := H
    have A8 := Aside0.mk A80
    clear A80
    have H' := Aside0.mk H
    clear H
    have hnb9 := NB266_267.out
    have hnc9 := NB267_266.out
    obtain ⟨hcz10_0, hcz10_1, hcz10_2⟩ := cel3 BK266.out
    obtain ⟨hfz10_0, hfz10_1, hfz10_2⟩ := frz3 BK266.out
    go_wp2_with (first | ((with_reducible refine gate_callee (f := 37) rfl ?_); refine goesL_ (some 7) rfl rfl Try.func37 (by kernel_rfl) rfl #[.agg #[.int .i64 a0_0, .int .i64 a0_1, .int .i64 a0_2]] rfl (by (try simp only [List.map_toArray, List.map_cons, List.map_nil]); first | done | rfl | (simp only [List.length_drop, List.length_take]; rfl)) ?_; (with_reducible refine (address_Valid.calls a0_0 a0_1 a0_2 true _ A6.out).mono ?_); rintro e w11 ⟨rfl, hb⟩; refine ⟨_, rfl, ?_⟩; have n0_ := Aside0.mk (blk_below (g := gb266) (o := .cells #[.int .i64 a0_0, .int .i64 a0_1, .int .i64 a0_2] 25 (0, 0)) (by (with_reducible repeat (first | refine blk_drewN ?_ _ | refine blk_drew ?_ | refine blk_alloc ?_ _)); exact BK266.out) hb); have n1_ := Aside0.mk (blk_below (g := gb267) (o := .cells #[.int .i64 a1_0, .int .i64 a1_1, .int .i64 a1_2] 25 (0, 0)) (by (with_reducible repeat (first | refine blk_drewN ?_ _ | refine blk_drew ?_ | refine blk_alloc ?_ _)); exact BK267.out) hb); have n2_ := Aside0.mk (below_step (by repeat (first | (with_reducible first | exact HB.out | apply below_alloc | apply pw_below_drewN | apply below_drew1 | refine below_set ?_ GE266.out | refine below_set ?_ GE267.out) | exact HB.out)) hb); clear BK266; clear BK267; clear HB; have BK266 := n0_; have BK267 := n1_; have HB := n2_; clear n0_ n1_ n2_; (try clear hb); (try clear hb2); (try clear hk); (try clear hi); obtain ⟨hcz12_0, hcz12_1, hcz12_2⟩ := cel3 BK267.out; obtain ⟨hfz12_0, hfz12_1, hfz12_2⟩ := frz3 BK267.out) | (go_at_call 37; (with_reducible refine (address_Valid.calls a1_0 a1_1 a1_2 t269 _ A8.out).mono ?_); rintro e w13 ⟨rfl, hb⟩; have n0_ := Aside0.mk (blk_below (g := gb266) (o := .cells #[.int .i64 a0_0, .int .i64 a0_1, .int .i64 a0_2] 25 (0, 0)) (by (with_reducible repeat (first | refine blk_drewN ?_ _ | refine blk_drew ?_ | refine blk_alloc ?_ _)); exact BK266.out) hb); have n1_ := Aside0.mk (blk_below (g := gb267) (o := .cells #[.int .i64 a1_0, .int .i64 a1_1, .int .i64 a1_2] 25 (0, 0)) (by (with_reducible repeat (first | refine blk_drewN ?_ _ | refine blk_drew ?_ | refine blk_alloc ?_ _)); exact BK267.out) hb); have n2_ := Aside0.mk (below_step (by repeat (first | (with_reducible first | exact HB.out | apply below_alloc | apply pw_below_drewN | apply below_drew1 | refine below_set ?_ GE266.out | refine below_set ?_ GE267.out) | exact HB.out)) hb); clear BK266; clear BK267; clear HB; have BK266 := n0_; have BK267 := n1_; have HB := n2_; clear n0_ n1_ n2_; (try clear hb); (try clear hb2); (try clear hk); (try clear hi)))
    go_meet
    case rel => exact ⟨_, (!t269), (by first | rfl | (simp; done) | (simp [*]; done)), H', ⟨by first | omega | exact Nat.le_refl _⟩, ⟨by (with_reducible repeat (first | refine blk_drewN ?_ _ | refine blk_drew ?_ | refine blk_alloc ?_ _)); exact BK266.out⟩, ⟨by (with_reducible repeat (first | refine blk_drewN ?_ _ | refine blk_drew ?_ | refine blk_alloc ?_ _)); exact BK267.out⟩, ⟨by repeat (first | (with_reducible first | exact HB.out | apply below_alloc | apply pw_below_drewN | apply below_drew1 | refine below_set ?_ GE266.out | refine below_set ?_ GE267.out) | exact HB.out)⟩⟩
  · replace c7 := Bool.eq_false_iff.mpr c7
    subst c7
    have H1 : (address_Distance.j0 k true a0_0 a0_1 a0_2 a1_0 a1_1 a1_2) = some (r1, r2) := by rw [if_neg (show ¬ (false = true) by decide)] at H; exact H
    clear H
    have H := H1
    clear H1
    have H' := Aside0.mk H
    clear H
    have hnb14 := NB266_267.out
    have hnc14 := NB267_266.out
    obtain ⟨hcz15_0, hcz15_1, hcz15_2⟩ := cel3 BK266.out
    obtain ⟨hfz15_0, hfz15_1, hfz15_2⟩ := frz3 BK266.out
    go_wp2_with (first | ((with_reducible refine gate_callee (f := 37) rfl ?_); refine goesL_ (some 7) rfl rfl Try.func37 (by kernel_rfl) rfl #[.agg #[.int .i64 a0_0, .int .i64 a0_1, .int .i64 a0_2]] rfl (by (try simp only [List.map_toArray, List.map_cons, List.map_nil]); first | done | rfl | (simp only [List.length_drop, List.length_take]; rfl)) ?_; (with_reducible refine (address_Valid.calls a0_0 a0_1 a0_2 false _ A6.out).mono ?_); rintro e w16 ⟨rfl, hb⟩; refine ⟨_, rfl, ?_⟩; have n0_ := Aside0.mk (blk_below (g := gb266) (o := .cells #[.int .i64 a0_0, .int .i64 a0_1, .int .i64 a0_2] 25 (0, 0)) (by (with_reducible repeat (first | refine blk_drewN ?_ _ | refine blk_drew ?_ | refine blk_alloc ?_ _)); exact BK266.out) hb); have n1_ := Aside0.mk (blk_below (g := gb267) (o := .cells #[.int .i64 a1_0, .int .i64 a1_1, .int .i64 a1_2] 25 (0, 0)) (by (with_reducible repeat (first | refine blk_drewN ?_ _ | refine blk_drew ?_ | refine blk_alloc ?_ _)); exact BK267.out) hb); have n2_ := Aside0.mk (below_step (by repeat (first | (with_reducible first | exact HB.out | apply below_alloc | apply pw_below_drewN | apply below_drew1 | refine below_set ?_ GE266.out | refine below_set ?_ GE267.out) | exact HB.out)) hb); clear BK266; clear BK267; clear HB; have BK266 := n0_; have BK267 := n1_; have HB := n2_; clear n0_ n1_ n2_; (try clear hb); (try clear hb2); (try clear hk); (try clear hi)))
    go_meet
    case rel => exact ⟨_, (true), (by first | rfl | (simp; done) | (simp [*]; done)), H', ⟨by first | omega | exact Nat.le_refl _⟩, ⟨by (with_reducible repeat (first | refine blk_drewN ?_ _ | refine blk_drew ?_ | refine blk_alloc ?_ _)); exact BK266.out⟩, ⟨by (with_reducible repeat (first | refine blk_drewN ?_ _ | refine blk_drew ?_ | refine blk_alloc ?_ _)); exact BK267.out⟩, ⟨by repeat (first | (with_reducible first | exact HB.out | apply below_alloc | apply pw_below_drewN | apply below_drew1 | refine below_set ?_ GE266.out | refine below_set ?_ GE267.out) | exact HB.out)⟩⟩
 case rest =>
  clear HC3
  try clear c1
  try clear p2
  try clear c3
  try clear c7
  try clear c9
  try clear c14
  try clear hcz10_0
  try clear hcz10_1
  try clear hcz10_2
  try clear hcz12_0
  try clear hcz12_1
  try clear hcz12_2
  try clear hcz15_0
  try clear hcz15_1
  try clear hcz15_2
  try clear hfz10_0
  try clear hfz10_1
  try clear hfz10_2
  try clear hfz12_0
  try clear hfz12_1
  try clear hfz12_2
  try clear hfz15_0
  try clear hfz15_1
  try clear hfz15_2
  obtain ⟨kq, x13_2, rfl, HA, HJ2, BK266, BK267, HB⟩ := hcut
  cases kq with
  | zero => exact absurd HA.out (by simp [address_Distance.j0])
  | succ kj2 =>
   have H := HA.out
   clear HA
   simp only [address_Distance.j0] at H
   by_cases c17 : x13_2 = true
   · subst c17
     have H1 : (some (0, 1)) = some (r1, r2) := by rw [if_pos rfl] at H; exact H
     clear H
     have H := H1
     clear H1
     simp only [Option.some.injEq, Prod.mk.injEq] at H
     obtain ⟨rfl, rfl⟩ := H
     go_wp2
     go_ret2
     exact ⟨by first | rfl | (simp [errW_none, errW_some] <;> rfl) | (simp [*, errW_none, errW_some] <;> rfl), by repeat (first | (with_reducible first | exact HB.out | apply below_alloc | apply pw_below_drewN | apply below_drew1 | refine below_set ?_ GE266.out | refine below_set ?_ GE267.out) | exact HB.out)⟩
   · replace c17 := Bool.eq_false_iff.mpr c17
     subst c17
     have H1 : ((address_number.f a1_0 a1_1 a1_2).bind fun t270 => ((address_number.f a0_0 a0_1 a0_2).bind fun t271 => (some (wrap64 (t270 - t271), 0)))) = some (r1, r2) := by rw [if_neg (show ¬ (false = true) by decide)] at H; exact H
     clear H
     have H := H1
     clear H1
     replace H := Option.bind_eq_some_iff.mp H
     obtain ⟨t270, A180, H⟩ := H
     replace H : ((address_number.f a0_0 a0_1 a0_2).bind fun t271 => (some (wrap64 (t270 - t271), 0))) = some (r1, r2) := H
     have A18 := Aside0.mk A180
     clear A180
     replace H := Option.bind_eq_some_iff.mp H
     obtain ⟨t271, A190, H⟩ := H
     replace H : (some (wrap64 (t270 - t271), 0)) = some (r1, r2) := H
     have A19 := Aside0.mk A190
     clear A190
     simp only [Option.some.injEq, Prod.mk.injEq] at H
     obtain ⟨rfl, rfl⟩ := H
     try go_wp2
     have n0_ := Aside0.mk (blk_drew BK266.out)
     have n1_ := Aside0.mk (blk_drew BK267.out)
     have n2_ := Aside0.mk (below_drew1 HB.out)
     clear BK266
     clear BK267
     clear HB
     have BK266 := n0_
     have BK267 := n1_
     have HB := n2_
     clear n0_ n1_ n2_
     refine start_ (n := 7) (S := fun w' => w'.cell? ⟨gb267, 0, none⟩ = some (.int .i64 a1_0) ∧ w'.cell? ⟨gb267, 1, none⟩ = some (.int .i64 a1_1) ∧ w'.cell? ⟨gb267, 2, none⟩ = some (.int .i64 a1_2) ∧ w'.cell? ⟨gb266, 0, none⟩ = some (.int .i64 a0_0) ∧ w'.cell? ⟨gb266, 1, none⟩ = some (.int .i64 a0_1) ∧ w'.cell? ⟨gb266, 2, none⟩ = some (.int .i64 a0_2)) (ds := []) #[false, false, false, false, false, false, false] (by kernel_rfl) rfl rfl ⟨(blk_cell BK267.out 0).trans rfl, (blk_cell BK267.out 1).trans rfl, (blk_cell BK267.out 2).trans rfl, (blk_cell BK266.out 0).trans rfl, (blk_cell BK266.out 1).trans rfl, (blk_cell BK266.out 2).trans rfl⟩ (fun hHeld => ?_)
     generalize wc.drew = w20 at BK266 BK267 HB hHeld ⊢
     refine take_ (i := 0) (N := some 14) (v := ?_) (a' := ?_) (mS 7 1) rfl rfl (by kernel_rfl) (fun _ _ _ h => h) (Or.inl ⟨by rfl, ?_⟩) hHeld ?_ ?_
     rotate_left
     · rintro w' ⟨s0, s1, s2, s3, s4, s5⟩
       go_simp
       with_reducible rfl
     rotate_left
     · simp only [Act.put, List.setIfInBounds_toArray, List.set_cons_zero, List.set_cons_succ, i64_w, i32_w]
       rfl
     refine take_ (i := 2) (N := some 16) (v := ?_) (a' := ?_) (mS 7 5) rfl rfl (by kernel_rfl) (fun _ _ _ h => h) (Or.inl ⟨by rfl, ?_⟩) hHeld ?_ ?_
     rotate_left
     · rintro w' ⟨s0, s1, s2, s3, s4, s5⟩
       go_simp
       with_reducible rfl
     rotate_left
     · simp only [Act.put, List.setIfInBounds_toArray, List.set_cons_zero, List.set_cons_succ, i64_w, i32_w]
       rfl
     refine one_ (i := 1) (N := some 15) (mS 7 7) rfl rfl (by kernel_rfl) (by decide) (fun K hK => ?_)
     refine goes_ Try.func38 (by kernel_rfl) rfl #[.agg #[.int .i64 a1_0, .int .i64 a1_1, .int .i64 a1_2]] (by rfl) rfl rfl (by (try simp only [List.map_toArray, List.map_cons, List.map_nil]); first | done | rfl | (simp only [List.length_drop, List.length_take]; rfl)) ?_
     with_reducible refine (address_number.calls a1_0 a1_1 a1_2 t270 _ A18.out).mono ?_
     rintro e w21 ⟨rfl, hb⟩
     refine ⟨_, rfl, ?_⟩
     have n0_ := Aside0.mk (blk_below (g := gb266) (o := .cells #[.int .i64 a0_0, .int .i64 a0_1, .int .i64 a0_2] 25 (0, 0)) (by (with_reducible repeat (first | refine blk_drewN ?_ _ | refine blk_drew ?_ | refine blk_alloc ?_ _)); exact BK266.out) hb)
     have n1_ := Aside0.mk (blk_below (g := gb267) (o := .cells #[.int .i64 a1_0, .int .i64 a1_1, .int .i64 a1_2] 25 (0, 0)) (by (with_reducible repeat (first | refine blk_drewN ?_ _ | refine blk_drew ?_ | refine blk_alloc ?_ _)); exact BK267.out) hb)
     have n2_ := Aside0.mk (below_step (by repeat (first | (with_reducible first | exact HB.out | apply below_alloc | apply pw_below_drewN | apply below_drew1 | refine below_set ?_ GE266.out | refine below_set ?_ GE267.out) | exact HB.out)) hb)
     clear BK266
     clear BK267
     clear HB
     have BK266 := n0_
     have BK267 := n1_
     have HB := n2_
     clear n0_ n1_ n2_
     (try clear hb)
     (try clear hb2)
     (try clear hk)
     (try clear hi)
     refine hK.out _ _ ⟨(blk_cell BK267.out 0).trans rfl, (blk_cell BK267.out 1).trans rfl, (blk_cell BK267.out 2).trans rfl, (blk_cell BK266.out 0).trans rfl, (blk_cell BK266.out 1).trans rfl, (blk_cell BK266.out 2).trans rfl⟩ (fun hHeld => ?_)
     clear hK K
     refine norm_ (a' := ?_) ?_ ?_
     rotate_left
     · show Act.put _ (some 15) _ = _
       simp only [Act.put, List.setIfInBounds_toArray, List.set_cons_zero, List.set_cons_succ, i64_w, i32_w]
       rfl
     refine one_ (i := 3) (N := some 17) (mS 7 15) rfl rfl (by kernel_rfl) (by decide) (fun K hK => ?_)
     refine goes_ Try.func38 (by kernel_rfl) rfl #[.agg #[.int .i64 a0_0, .int .i64 a0_1, .int .i64 a0_2]] (by rfl) rfl rfl (by (try simp only [List.map_toArray, List.map_cons, List.map_nil]); first | done | rfl | (simp only [List.length_drop, List.length_take]; rfl)) ?_
     with_reducible refine (address_number.calls a0_0 a0_1 a0_2 t271 _ A19.out).mono ?_
     rintro e w22 ⟨rfl, hb⟩
     refine ⟨_, rfl, ?_⟩
     have n0_ := Aside0.mk (blk_below (g := gb266) (o := .cells #[.int .i64 a0_0, .int .i64 a0_1, .int .i64 a0_2] 25 (0, 0)) (by (with_reducible repeat (first | refine blk_drewN ?_ _ | refine blk_drew ?_ | refine blk_alloc ?_ _)); exact BK266.out) hb)
     have n1_ := Aside0.mk (blk_below (g := gb267) (o := .cells #[.int .i64 a1_0, .int .i64 a1_1, .int .i64 a1_2] 25 (0, 0)) (by (with_reducible repeat (first | refine blk_drewN ?_ _ | refine blk_drew ?_ | refine blk_alloc ?_ _)); exact BK267.out) hb)
     have n2_ := Aside0.mk (below_step (by repeat (first | (with_reducible first | exact HB.out | apply below_alloc | apply pw_below_drewN | apply below_drew1 | refine below_set ?_ GE266.out | refine below_set ?_ GE267.out) | exact HB.out)) hb)
     clear BK266
     clear BK267
     clear HB
     have BK266 := n0_
     have BK267 := n1_
     have HB := n2_
     clear n0_ n1_ n2_
     (try clear hb)
     (try clear hb2)
     (try clear hk)
     (try clear hi)
     refine hK.out _ _ ⟨(blk_cell BK267.out 0).trans rfl, (blk_cell BK267.out 1).trans rfl, (blk_cell BK267.out 2).trans rfl, (blk_cell BK266.out 0).trans rfl, (blk_cell BK266.out 1).trans rfl, (blk_cell BK266.out 2).trans rfl⟩ (fun hHeld => ?_)
     clear hK K
     refine norm_ (a' := ?_) ?_ ?_
     rotate_left
     · show Act.put _ (some 17) _ = _
       simp only [Act.put, List.setIfInBounds_toArray, List.set_cons_zero, List.set_cons_succ, i64_w, i32_w]
       rfl
     refine pure_ (i := 4) (N := some 18) (v := ?_) (a' := ?_) (mS 7 31) rfl rfl (by kernel_rfl) (fun _ _ _ h => h) (Or.inl ⟨by rfl, ?_⟩) ?_ ?_
     rotate_left
     · intro w'
       go_simp
       with_reducible rfl
     rotate_left
     · simp only [Act.put, List.setIfInBounds_toArray, List.set_cons_zero, List.set_cons_succ, i64_w, i32_w]
       rfl
     refine pure_ (i := 5) (N := some 4) (v := ?_) (a' := ?_) (mS 7 63) rfl rfl (by kernel_rfl) (fun _ _ _ h => h) (Or.inl ⟨by rfl, ?_⟩) ?_ ?_
     rotate_left
     · intro w'
       go_simp
       with_reducible rfl
     rotate_left
     · simp only [Act.put, List.setIfInBounds_toArray, List.set_cons_zero, List.set_cons_succ, i64_w, i32_w]
       rfl
     refine pure_ (i := 6) (N := some 5) (v := ?_) (a' := ?_) (mS 7 127) rfl rfl (by kernel_rfl) (fun _ _ _ h => h) (Or.inl ⟨by rfl, ?_⟩) ?_ ?_
     rotate_left
     · intro w'
       go_simp
       with_reducible rfl
     rotate_left
     · simp only [Act.put, List.setIfInBounds_toArray, List.set_cons_zero, List.set_cons_succ, i64_w, i32_w]
       rfl
     refine done_ (by kernel_rfl) ?_
     try go_wp2
     go_ret2
     exact ⟨by first | rfl | (simp [errW_none, errW_some] <;> rfl) | (simp [*, errW_none, errW_some] <;> rfl), by repeat (first | (with_reducible first | exact HB.out | apply below_alloc | apply pw_below_drewN | apply below_drew1 | refine below_set ?_ GE266.out | refine below_set ?_ GE267.out) | exact HB.out)⟩
end Go.Proofs.Ytpmkibggmkibeaa.G
namespace Go.Proofs.Ytpmkibggmkibeaa.G
open Go.RowKit Go.Proofs.YtpmkibggmkibeaaW.PrintWords Go.Proofs.YtpmkibggmkibeaaW.PrintLast Go.Proofs.YtpmkibggmkibeaaW.PrintMore
theorem goesV_ {P : Program} {ops : Array Oper} {Q : Exit → Act → World → Prop} {oi : Oper} {N : Option Tmp} {a : Act} {w : World} {K : Act → World → Prop} {f : FuncId} {fn : Func} {c : Operand} {xs : Array Operand} {ts : Array TypeId} (hf : P.funcs[f]? = some fn) (hname : (fn.name == "runtime.NumGoroutine") = false) (hb : fn.body.isSome = true) (args : Array Value)
 (hw : Region.wanted oi (yielded ops a.tmps) = true) (hN : oi.dst = N) (hop : oi.op = .call { callee := .value c, args := xs, argTypes := ts }) (hc : a.eval c = .func (.func f) #[] #[]) (hargs : xs.map a.eval = args)
 (h : Calls P f args w fun e w' => ∃ v, e = .returned v ∧ K (a.put N v) w') : if Region.wanted oi (yielded ops a.tmps) = true then Oper.wp P oi a w K Q else K (a.put N undef) w := by
 refine call_ f args hw hN ?_ h
 have he := enters_ hf hname hb args w
 unfold execOp
 simp [hop, resolve, Deferred.ofValue, invoke, hc, hargs, he]
end Go.Proofs.Ytpmkibggmkibeaa.G
namespace Go.Proofs.Ytpmkibggmkibeaa.G
open Go.RowKit Go.Proofs.YtpmkibggmkibeaaW.PrintWords Go.Proofs.YtpmkibggmkibeaaW.PrintLast Go.Proofs.YtpmkibggmkibeaaW.PrintMore
open Go.Shelf
def shelfRen : Ren where
 f := fun n => if n = 166 then 71 else if n = 240 then 75 else if n = 276 then 77 else if n = 169 then 72 else n
 t := fun n => if n = 37 then 49 else if n = 70 then 90 else if n = 72 then 92 else if n = 75 then 94 else if n = 80 then 97 else if n = 164 then 102 else if n = 127 then 99 else n
 g := fun n => n
theorem shelf_n166 : Lays.n166 Try.prog shelfRen where
 mixed := by kernel_rfl
 f166 := by kernel_rfl
 f240 := by kernel_rfl
 f276 := by kernel_rfl
 t0 := Try.underlying0
 a0 := Try.isAgg0
 z0 := Try.sizeOf0
 v0 := Try.zeroValue0
 t3 := Try.underlying3
 a3 := Try.isAgg3
 z3 := Try.sizeOf3
 v3 := Try.zeroValue3
 t4 := Try.underlying4
 a4 := Try.isAgg4
 z4 := Try.sizeOf4
 v4 := Try.zeroValue4
 t9 := Try.underlying9
 a9 := Try.isAgg9
 z9 := Try.sizeOf9
 v9 := Try.zeroValue9
 t20 := Try.underlying20
 a20 := Try.isAgg20
 z20 := Try.sizeOf20
 v20 := Try.zeroValue20
 t37 := Try.underlying49
 a37 := Try.isAgg49
 z37 := Try.sizeOf49
 v37 := Try.zeroValue49
 t70 := Try.underlying90
 a70 := Try.isAgg90
 z70 := Try.sizeOf90
 v70 := Try.zeroValue90
 t72 := Try.underlying92
 a72 := Try.isAgg92
 z72 := Try.sizeOf92
 v72 := Try.zeroValue92
 t75 := Try.underlying94
 a75 := Try.isAgg94
 z75 := Try.sizeOf94
 v75 := Try.zeroValue94
 t164 := Try.underlying102
 a164 := Try.isAgg102
 z164 := Try.sizeOf102
 v164 := Try.zeroValue102
theorem shelf_n169 : Lays.n169 Try.prog shelfRen where
 mixed := by kernel_rfl
 f169 := by kernel_rfl
 t0 := Try.underlying0
 a0 := Try.isAgg0
 z0 := Try.sizeOf0
 v0 := Try.zeroValue0
 t3 := Try.underlying3
 a3 := Try.isAgg3
 z3 := Try.sizeOf3
 v3 := Try.zeroValue3
 t9 := Try.underlying9
 a9 := Try.isAgg9
 z9 := Try.sizeOf9
 v9 := Try.zeroValue9
 t37 := Try.underlying49
 a37 := Try.isAgg49
 z37 := Try.sizeOf49
 v37 := Try.zeroValue49
 t70 := Try.underlying90
 a70 := Try.isAgg90
 z70 := Try.sizeOf90
 v70 := Try.zeroValue90
 t72 := Try.underlying92
 a72 := Try.isAgg92
 z72 := Try.sizeOf92
 v72 := Try.zeroValue92
 t127 := Try.underlying99
 a127 := Try.isAgg99
 z127 := Try.sizeOf99
 v127 := Try.zeroValue99
theorem shelf_builder : Builder.Extra Try.prog shelfRen where
 sizeBuilder := by kernel_rfl
 liesBuilder := by kernel_rfl
 t5 := Try.underlying5
 a5 := Try.isAgg5
 z5 := Try.sizeOf5
 v5 := Try.zeroValue5
 infoByte := by kernel_rfl
 cellsByte := by kernel_rfl
 sizeByte := by kernel_rfl
 neB5 := by decide
theorem builder_write (B b : Nat) (bs : List Value) (s : ByteArray) (w : World) (h : Lib.IsBuilderF 92 5 B b bs w) (hlen : bs.length + s.size ≤ 140737488355328) (hBw : B ≤ w.heap.size) :
 Calls Try.prog 71 #[.pointer (some ⟨b, 0, none⟩), .string s] w fun e w' => e = .returned (.tuple #[.int .i64 s.size, .nilIface]) ∧ Lib.BuilderAtF 92 5 B b (.pointer (some ⟨b, 0, none⟩)) (bs ++ Lib.strCells s) w' ∧ Below B w w' ∧ Lib.OthersKept 5 (some b) w w' :=
 Any.Builder_WriteString_k shelf_n166 shelf_builder B b bs s w h hlen hBw
theorem builder_string (B b : Nat) (l : List UInt8) (w : World) (h : Lib.IsBuilderF 92 5 B b (Lib.byteCells l) w) (hBw : B ≤ w.heap.size) :
 Calls Try.prog 72 #[.pointer (some ⟨b, 0, none⟩)] w fun e w' => e = .returned (.string ⟨l.toArray⟩) ∧ Lib.IsBuilderF 92 5 B b (Lib.byteCells l) w' ∧ Below B w w' ∧ Lib.OthersKept 5 (some b) w w' :=
 Any.Builder_String_any_k shelf_n169 shelf_builder B b l w h hBw
end Go.Proofs.Ytpmkibggmkibeaa.G
namespace Go.Proofs.Ytpmkibggmkibeaa.G
open Go.RowKit Go.Proofs.YtpmkibggmkibeaaW.PrintWords Go.Proofs.YtpmkibggmkibeaaW.PrintLast Go.Proofs.YtpmkibggmkibeaaW.PrintMore
attribute [local go_sem] max2_int min2_int max_two min_two max_three min_three max_four min_four   -- for this text's walks alone
set_option linter.unusedVariables false
set_option linter.unusedSimpArgs false
def address_Encode_1.f (a0 : Int) : Option (ByteArray) := (endian_BCD.f a0).bind fun bt101 => (some (strOfNums (([bt101.1] : List Int))))
set_option maxHeartbeats 8000000 in
set_option maxRecDepth 100000 in
theorem address_Encode_1.calls (a0 : Int) (r : ByteArray) (w : World) (h : address_Encode_1.f a0 = some r) :
 Calls Try.prog 58 #[.int .i64 a0] w fun e w' => e = .returned (.string r) ∧ Below w.heap.size w w' := by
 have HB := Aside0.mk (Below.refl w.heap.size w)
 have H : ((endian_BCD.f a0).bind fun bt101 => (some (strOfNums (([bt101.1] : List Int))))) = some r := h
 clear h
 replace H := Option.bind_eq_some_iff.mp H
 obtain ⟨⟨t101, t102⟩, A20, H⟩ := H
 replace H : (some (strOfNums (([t101] : List Int)))) = some r := H
 have A2 := Aside0.mk A20
 clear A20
 obtain ⟨y103, hy103⟩ : ∃ y_ : List Int, y_ = (([t101] : List Int)) := ⟨_, rfl⟩
 replace H : (some (strOfNums y103)) = some r := by first | (rw [hy103]; with_reducible exact H) | (have H2_ := (Option.bind_some _ _).symm.trans H; rw [hy103]; with_reducible exact H2_) | (have H2_ := (Option.bind_some _ _).symm.trans H; with_reducible exact H2_) | with_reducible exact H | (rw [hy103]; exact H) | exact H
 have Ny103 := Aside0.mk hy103
 clear hy103
 obtain rfl := Option.some.inj H
 go_enter Try.func58, Try.ntmps58
 go_wp2_with (first | ((with_reducible refine gate_callee (f := 59) rfl ?_); refine goesL_ (some 7) rfl rfl Try.func59 (by kernel_rfl) rfl #[.int .i64 a0] rfl (by (try simp only [List.map_toArray, List.map_cons, List.map_nil]); first | done | rfl | (simp only [List.length_drop, List.length_take]; rfl)) ?_; (with_reducible refine (endian_BCD.calls a0 t101 t102 _ A2.out).mono ?_); rintro e w' ⟨rfl, ⟨nd, rfl⟩⟩; refine ⟨_, rfl, ?_⟩) | ((with_reducible refine gate_dst (N := 11) rfl ?_); refine Kd.R_lit (Kd.int .u8) _ 5 ?hg (N := 11) ?hd (xs := ([t101] : List Int)) (inner := [.int .u8 t101]) (ok := fun _ => True) (okp := fun _ => True) ?hr ?hp (fun _ hk => hk) trivial (Below.refl _ _) (Nat.le_refl _) (by simp) ?_; (case hd => rfl); (case hg => rfl); (case hr => first | (go_simp; done) | (go_simp; rfl)); (case hp => exact (Reps.one (show Kd.M (Kd.int .u8) _ _ _ t101 [.int .u8 t101] from rfl) (Reps.none _ _))); intro v104 w3 ho4 hb hg_ hnew_; clear hg_ hnew_; (first | rw [← Ny103.out] at ho4 | (simp only [Int.reduceToNat] at ho4; rw [← Ny103.out] at ho4)); have n0_ := Aside0.mk (Kd.R_lower ho4 (below_size (by repeat (first | (with_reducible first | exact HB.out | apply below_alloc | apply pw_below_drewN | apply below_drew1) | exact HB.out)))); have n1_ := Aside0.mk (below_step (by repeat (first | (with_reducible first | exact HB.out | apply below_alloc | apply pw_below_drewN | apply below_drew1) | exact HB.out)) hb); clear HB; have HO105 := n0_; have HB := n1_; clear n0_ n1_; clear hb ho4; have hcv5 := own_string (P := Try.prog) Try.underlying49 Try.underlying5 Try.underlying9 (Kd.own_of_R HO105.out)))
 go_ret
 exact ⟨by first | rfl | (simp [errW_none, errW_some] <;> rfl) | (simp [*, errW_none, errW_some] <;> rfl), by repeat (first | (with_reducible first | exact HB.out | apply below_alloc | apply pw_below_drewN | apply below_drew1) | exact HB.out)⟩
end Go.Proofs.Ytpmkibggmkibeaa.G
namespace Go.Proofs.Ytpmkibggmkibeaa.G
open Go.RowKit Go.Proofs.YtpmkibggmkibeaaW.PrintWords Go.Proofs.YtpmkibggmkibeaaW.PrintLast Go.Proofs.YtpmkibggmkibeaaW.PrintMore
set_option linter.unusedVariables false
theorem builder_below {T B b : Nat} {p : Value} {bs : List Value} {w w' : World} (h : Lib.BuilderAtF T 5 B b p bs w) (hb : Below w.heap.size w w') : Lib.BuilderAtF T 5 B b p bs w' := by
 have hlt := h.lt
 obtain ⟨h1, v, h2, h3, h4⟩ := h
 refine ⟨h1, v, (hb.block b hlt).trans h2, h3.kept (grown_of_below hb none) ?_, h4⟩
 cases v.ownBlock <;> simp
theorem builder_isBelow {T B b : Nat} {bs : List Value} {w w' : World} (h : Lib.IsBuilderF T 5 B b bs w) (hb : Below w.heap.size w w') : Lib.IsBuilderF T 5 B b bs w' :=
 h.elim (fun x => .inl (builder_below x hb)) (fun x => .inr (builder_below x hb))
theorem below_ge_ {T B b : Nat} {bs : List Value} {w : World} (h : Lib.IsBuilderF T 5 B b bs w) : B ≤ w.heap.size :=
 h.elim (fun x => Nat.le_of_lt (Nat.lt_of_le_of_lt x.1 x.lt)) (fun x => Nat.le_of_lt (Nat.lt_of_le_of_lt x.1 x.lt))
theorem below_trans_ {w w1 w2 : World} (h : Below w.heap.size w w1) (h2 : Below (w.heap.size + 1) w1 w2) : Below w.heap.size w w2 := Below.trans h (h2.mono (by omega))
def accK (r0 r1 r2 : ByteArray) : Nat → List UInt8
 | 0 => []
 | 1 => r0.data.toList
 | 2 => r0.data.toList ++ r1.data.toList
 | _ => r0.data.toList ++ r1.data.toList ++ r2.data.toList
theorem byteCells_app (a b : List UInt8) : Lib.byteCells (a ++ b) = Lib.byteCells a ++ Lib.byteCells b := by simp [Lib.byteCells]
theorem byteCells_str (s : ByteArray) : Lib.strCells s = Lib.byteCells s.data.toList := rfl
theorem len_byteCells (a : List UInt8) : (Lib.byteCells a).length = a.length := by simp [Lib.byteCells]
theorem acc_s0 (r0 r1 r2 : ByteArray) : Lib.byteCells (accK r0 r1 r2 0) ++ Lib.strCells r0 = Lib.byteCells (accK r0 r1 r2 1) := by rw [byteCells_str, ← byteCells_app]; rfl
theorem acc_s1 (r0 r1 r2 : ByteArray) : Lib.byteCells (accK r0 r1 r2 1) ++ Lib.strCells r1 = Lib.byteCells (accK r0 r1 r2 2) := by rw [byteCells_str, ← byteCells_app]; rfl
theorem acc_s2 (r0 r1 r2 : ByteArray) : Lib.byteCells (accK r0 r1 r2 2) ++ Lib.strCells r2 = Lib.byteCells (accK r0 r1 r2 3) := by rw [byteCells_str, ← byteCells_app]; rfl
theorem acc_len (r0 r1 r2 : ByteArray) (k : Nat) (z0 : r0.size ≤ 8) (z1 : r1.size ≤ 8) (z2 : r2.size ≤ 8) : (Lib.byteCells (accK r0 r1 r2 k)).length ≤ 24 := by
 rw [len_byteCells]
 have e0 : r0.data.toList.length = r0.size := Array.length_toList
 have e1 : r1.data.toList.length = r1.size := Array.length_toList
 have e2 : r2.data.toList.length = r2.size := Array.length_toList
 rcases k with _ | _ | _ | k <;> simp only [accK, List.length_append, List.length_nil] <;> omega
set_option maxHeartbeats 400000 in
set_option maxRecDepth 100000 in
theorem address_write.enc (m s f : Int) (r0 r1 r2 : ByteArray) (w : World) (h0 : address_Encode_1.f m = some r0) (h1 : address_Encode_1.f s = some r1) (h2 : address_Encode_1.f f = some r2) (z0 : r0.size ≤ 8) (z1 : r1.size ≤ 8) (z2 : r2.size ≤ 8) :
 Calls Try.prog 57 #[.agg #[.int .i64 m, .int .i64 s, .int .i64 f], .func (.func 58) #[] #[]] w fun e w' => e = .returned (.string ⟨(accK r0 r1 r2 3).toArray⟩) ∧ Below w.heap.size w w' := by
 have hu := Try.underlying25
 have hix0 : ∀ w, (Instr.index 75 (.agg #[.int .i64 m, .int .i64 s, .int .i64 f]) (.int .i64 0)).run Try.prog w = .ok (.int .i64 m) w := fun _ => rfl
 have hix1 : ∀ w, (Instr.index 75 (.agg #[.int .i64 m, .int .i64 s, .int .i64 f]) (.int .i64 1)).run Try.prog w = .ok (.int .i64 s) w := fun _ => rfl
 have hix2 : ∀ w, (Instr.index 75 (.agg #[.int .i64 m, .int .i64 s, .int .i64 f]) (.int .i64 2)).run Try.prog w = .ok (.int .i64 f) w := fun _ => rfl
 have HE0 := fun W => Aside0.mk (address_Encode_1.calls m r0 W h0)
 have HE1 := fun W => Aside0.mk (address_Encode_1.calls s r1 W h1)
 have HE2 := fun W => Aside0.mk (address_Encode_1.calls f r2 W h2)
 have HZ := Aside0.mk (And.intro z0 (And.intro z1 z2))
 clear h0 h1 h2 z0 z1 z2
 go_enter Try.func57, Try.ntmps57
 go_wp2_with (fail)
 generalize hw0 : (w.alloc _).alloc _ = w0
 have hI0 : Lib.IsBuilderF 92 5 (w.heap.size + 1) (w.heap.size + 1) (Lib.byteCells (accK r0 r1 r2 0)) w0 := by
  have hs : (w.alloc (.cells #[.int .i64 m, .int .i64 s, .int .i64 f] 25 (0, 0))).heap.size = w.heap.size + 1 := by simp
  have := Lib.IsBuilderF.of (Lib.fresh_isBuilder 92 5 (w.alloc (.cells #[.int .i64 m, .int .i64 s, .int .i64 f] 25 (0, 0))))
  rw [hs] at this
  exact hw0 ▸ this
 obtain ⟨hb0, hb1, hB⟩ := two_new hw0
 have HBB := Aside0.mk hB
 have HII := Aside0.mk hI0
 clear hb0 hb1 hB hI0 hw0
 refine (address_split.calls m s f w0).mono ?_
 rintro e w1 ⟨rfl, hb1⟩
 have HI1 := Aside0.mk (builder_isBelow HII.out hb1)
 have HB1 := Aside0.mk (below_step HBB.out hb1)
 clear hb1
 go_wp2_with (fail)
 go_loopg [10] 3 (fun gk v10 wr => ∃ k : Nat, k ≤ 3 ∧ 3 - k ≤ gk ∧ v10 = .int .i64 k ∧ Aside0 (Lib.IsBuilderF 92 5 (w.heap.size + 1) (w.heap.size + 1) (Lib.byteCells (accK r0 r1 r2 k)) wr) ∧ Aside0 (Below w.heap.size w wr))
 case atStart => exact ⟨0, by omega, by omega, rfl, HI1, HB1⟩
 case round =>
  obtain ⟨k, hk, hg, rfl, HI, HB⟩ := hrel
  obtain ⟨wo, rfl⟩ : ∃ wo, wo = wr := ⟨_, rfl⟩
  rcases (by omega : k = 0 ∨ k = 1 ∨ k = 2 ∨ k = 3) with rfl | rfl | rfl | rfl
  · rw [show ((0 : Nat) : Int) = (0 : Int) from rfl]
    clear hk
    go_wp2_with (fail)
    refine (HE0 wo).out.mono ?_
    rintro e w2 ⟨rfl, hb2⟩
    have HI2 := Aside0.mk (builder_isBelow HI.out hb2)
    have HB2 := Aside0.mk (below_step HB.out hb2)
    clear hb2
    go_wp2_with (fail)
    refine (builder_write (w.heap.size + 1) (w.heap.size + 1) _ r0 w2 HI2.out ?len ?size).mono ?_
    case len => have h1 := acc_len r0 r1 r2 0 HZ.out.1 HZ.out.2.1 HZ.out.2.2; have h2 : r0.size ≤ 8 := HZ.out.1; omega
    case size => exact below_ge_ HI2.out
    rintro e w3 ⟨rfl, hi3, hb3, -⟩
    have HI3 := Aside0.mk (show Lib.IsBuilderF 92 5 (w.heap.size + 1) (w.heap.size + 1) (Lib.byteCells (accK r0 r1 r2 1)) w3 from by
     rw [acc_s0] at hi3
     exact Or.inr hi3)
    have HB3 := Aside0.mk (below_trans_ HB2.out hb3)
    clear hb3 hi3
    go_wp2_with (fail)
    go_roundg 2
    case measure => omega
    case rel => exact ⟨1, by omega, by omega, by go_num, HI3, HB3⟩
  · rw [show ((1 : Nat) : Int) = (1 : Int) from rfl]
    clear hk
    go_wp2_with (fail)
    refine (HE1 wo).out.mono ?_
    rintro e w2 ⟨rfl, hb2⟩
    have HI2 := Aside0.mk (builder_isBelow HI.out hb2)
    have HB2 := Aside0.mk (below_step HB.out hb2)
    clear hb2
    go_wp2_with (fail)
    refine (builder_write (w.heap.size + 1) (w.heap.size + 1) _ r1 w2 HI2.out ?len ?size).mono ?_
    case len => have h1 := acc_len r0 r1 r2 1 HZ.out.1 HZ.out.2.1 HZ.out.2.2; have h2 : r1.size ≤ 8 := HZ.out.2.1; omega
    case size => exact below_ge_ HI2.out
    rintro e w3 ⟨rfl, hi3, hb3, -⟩
    have HI3 := Aside0.mk (show Lib.IsBuilderF 92 5 (w.heap.size + 1) (w.heap.size + 1) (Lib.byteCells (accK r0 r1 r2 2)) w3 from by
     rw [acc_s1] at hi3
     exact Or.inr hi3)
    have HB3 := Aside0.mk (below_trans_ HB2.out hb3)
    clear hb3 hi3
    go_wp2_with (fail)
    go_roundg 1
    case measure => omega
    case rel => exact ⟨2, by omega, by omega, by go_num, HI3, HB3⟩
  · rw [show ((2 : Nat) : Int) = (2 : Int) from rfl]
    clear hk
    go_wp2_with (fail)
    refine (HE2 wo).out.mono ?_
    rintro e w2 ⟨rfl, hb2⟩
    have HI2 := Aside0.mk (builder_isBelow HI.out hb2)
    have HB2 := Aside0.mk (below_step HB.out hb2)
    clear hb2
    go_wp2_with (fail)
    refine (builder_write (w.heap.size + 1) (w.heap.size + 1) _ r2 w2 HI2.out ?len ?size).mono ?_
    case len => have h1 := acc_len r0 r1 r2 2 HZ.out.1 HZ.out.2.1 HZ.out.2.2; have h2 : r2.size ≤ 8 := HZ.out.2.2; omega
    case size => exact below_ge_ HI2.out
    rintro e w3 ⟨rfl, hi3, hb3, -⟩
    have HI3 := Aside0.mk (show Lib.IsBuilderF 92 5 (w.heap.size + 1) (w.heap.size + 1) (Lib.byteCells (accK r0 r1 r2 3)) w3 from by
     rw [acc_s2] at hi3
     exact Or.inr hi3)
    have HB3 := Aside0.mk (below_trans_ HB2.out hb3)
    clear hb3 hi3
    go_wp2_with (fail)
    go_roundg 0
    case measure => omega
    case rel => exact ⟨3, by omega, by omega, by go_num, HI3, HB3⟩
  · rw [show ((3 : Nat) : Int) = (3 : Int) from rfl]
    clear hk
    go_wp2_with (fail)
    refine (builder_string (w.heap.size + 1) (w.heap.size + 1) _ wo HI.out (below_ge_ HI.out)).mono ?_
    rintro e w3 ⟨rfl, -, hb3, -⟩
    have HB3 := Aside0.mk (below_trans_ HB.out hb3)
    clear hb3
    go_wp2_with (fail)
    go_ret
    exact ⟨rfl, HB3.out⟩
def address_Encode.f (a0_0 a0_1 a0_2 : Int) : Option (ByteArray × Int) :=
 if msfB a0_0 a0_1 a0_2 = true then ((address_Encode_1.f a0_0).bind fun r0 => (address_Encode_1.f a0_1).bind fun r1 => (address_Encode_1.f a0_2).bind fun r2 => if r0.size ≤ 8 ∧ r1.size ≤ 8 ∧ r2.size ≤ 8 then some (⟨(accK r0 r1 r2 3).toArray⟩, 0) else none) else some (⟨#[]⟩, 1)
set_option maxHeartbeats 400000 in
set_option maxRecDepth 100000 in
theorem address_Encode.calls (a0_0 a0_1 a0_2 : Int) (r1 : ByteArray) (r2 : Int) (w : World) (h : address_Encode.f a0_0 a0_1 a0_2 = some (r1, r2)) :
 Calls Try.prog 41 #[.agg #[.int .i64 a0_0, .int .i64 a0_1, .int .i64 a0_2]] w fun e w' => e = .returned (.tuple #[.string r1, .int .i64 r2]) ∧ Below w.heap.size w w' := by
 have hu := Try.underlying25
 have hn := blk_new w (.cells #[.int .i64 a0_0, .int .i64 a0_1, .int .i64 a0_2] 25 (0, 0))
 have HB0 := Aside0.mk (Below.alloc (Below.refl w.heap.size w) (Nat.le_refl _) (.cells #[.int .i64 a0_0, .int .i64 a0_1, .int .i64 a0_2] 25 (0, 0)))
 obtain ⟨w1, hw1⟩ : ∃ w1, w.alloc (.cells #[.int .i64 a0_0, .int .i64 a0_1, .int .i64 a0_2] 25 (0, 0)) = w1 := ⟨_, rfl⟩
 have HN := Aside0.mk hn
 clear hn
 rw [hw1] at HB0 HN
 obtain ⟨b, hb⟩ : ∃ b, msfB a0_0 a0_1 a0_2 = b := ⟨_, rfl⟩
 have HV := Aside0.mk (address_Valid.calls a0_0 a0_1 a0_2 b w1 (congrArg some hb))
 have b0 : w1.cell? ⟨w.heap.size, 0, none⟩ = some (.int .i64 a0_0) := (blk_cell HN.out 0).trans rfl
 have b1 : w1.cell? ⟨w.heap.size, 1, none⟩ = some (.int .i64 a0_1) := (blk_cell HN.out 1).trans rfl
 have b2 : w1.cell? ⟨w.heap.size, 2, none⟩ = some (.int .i64 a0_2) := (blk_cell HN.out 2).trans rfl
 unfold address_Encode.f at h
 rw [hb] at h
 clear hb
 cases b with
 | false =>
  rw [if_neg (by decide)] at h
  cases h
  go_enter Try.func41, Try.ntmps41
  go_wp2_with (fail)
  refine HV.out.mono ?_
  rintro e w2 ⟨rfl, hb2⟩
  have HB2 := Aside0.mk (below_step HB0.out hb2)
  clear hb2
  go_wp2_with (fail)
  go_ret2
  exact ⟨rfl, HB2.out⟩
 | true =>
  rw [if_pos rfl] at h
  obtain ⟨q0, h0, h⟩ := Option.bind_eq_some_iff.mp h
  obtain ⟨q1, h1, h⟩ := Option.bind_eq_some_iff.mp h
  obtain ⟨q2, h2, h⟩ := Option.bind_eq_some_iff.mp h
  split at h
  · rename_i hz
    cases h
    have HW := fun W => Aside0.mk (address_write.enc a0_0 a0_1 a0_2 q0 q1 q2 W h0 h1 h2 hz.1 hz.2.1 hz.2.2)
    clear h0 h1 h2 hz
    go_enter Try.func41, Try.ntmps41
    go_wp2_with (fail)
    refine HV.out.mono ?_
    rintro e w2 ⟨rfl, hb2⟩
    have hm := blk_below HN.out hb2
    have HB2 := Aside0.mk (below_step HB0.out hb2)
    have c0 : w2.cell? ⟨w.heap.size, 0, none⟩ = some (.int .i64 a0_0) := (blk_cell hm 0).trans rfl
    have c1 : w2.cell? ⟨w.heap.size, 1, none⟩ = some (.int .i64 a0_1) := (blk_cell hm 1).trans rfl
    have c2 : w2.cell? ⟨w.heap.size, 2, none⟩ = some (.int .i64 a0_2) := (blk_cell hm 2).trans rfl
    clear hb2 hm
    go_wp2_with (fail)
    refine (HW w2).out.mono ?_
    rintro e w3 ⟨rfl, hb3⟩
    have HB3 := Aside0.mk (below_step HB2.out hb3)
    clear hb3
    go_wp2_with (fail)
    go_ret2
    exact ⟨rfl, HB3.out⟩
  · cases h
end Go.Proofs.Ytpmkibggmkibeaa.G
namespace Go.Proofs.Ytpmkibggmkibeaa.G
open Go.RowKit Go.Proofs.YtpmkibggmkibeaaW.PrintWords Go.Proofs.YtpmkibggmkibeaaW.PrintLast Go.Proofs.YtpmkibggmkibeaaW.PrintMore
attribute [local go_sem] max2_int min2_int max_two min_two max_three min_three max_four min_four   -- for this text's walks alone
set_option linter.unusedVariables false
set_option linter.unusedSimpArgs false
def subchannel_Encode_1.f (a0_0 : Int) (a0_1 : Int) (a0_2 : Int) : Option (ByteArray) := (address_Encode.f a0_0 a0_1 a0_2).bind fun bt111 => (some bt111.1)
set_option maxHeartbeats 8000000 in
set_option maxRecDepth 100000 in
theorem subchannel_Encode_1.calls (a0_0 : Int) (a0_1 : Int) (a0_2 : Int) (r : ByteArray) (w : World) (h : subchannel_Encode_1.f a0_0 a0_1 a0_2 = some r) :
 Calls Try.prog 40 #[.agg #[.int .i64 a0_0, .int .i64 a0_1, .int .i64 a0_2]] w fun e w' => e = .returned (.string r) ∧ Below w.heap.size w w' := by
 have hu25 := Try.underlying25
 have HB := Aside0.mk (Below.refl w.heap.size w)
 have H : ((address_Encode.f a0_0 a0_1 a0_2).bind fun bt111 => (some bt111.1)) = some r := h
 clear h
 replace H := Option.bind_eq_some_iff.mp H
 obtain ⟨⟨t111, t112⟩, A20, H⟩ := H
 replace H : (some t111) = some r := H
 have A2 := Aside0.mk A20
 clear A20
 obtain rfl := Option.some.inj H
 go_enter Try.func40, Try.ntmps40
 go_wp2_with (first | ((with_reducible refine gate_dst (N := 1) rfl ?_); refine box_event ?hg (N := 1) ?hd (cs := #[.int .i64 a0_0, .int .i64 a0_1, .int .i64 a0_2]) (t := 25) ?hr ?_; (case hd => rfl); (case hg => rfl); (case hr => first | (go_simp; done) | (go_simp; rfl)); intro gb110 hg w3 hbox hb; have n0_ := Aside0.mk (below_step (by repeat (first | (with_reducible first | exact HB.out | apply below_alloc | apply pw_below_drewN | apply below_drew1) | exact HB.out)) hb); have n1_ := Aside0.mk (hbox); have n2_ := Aside0.mk ((by rw [hg]; exact (below_size (by repeat (first | (with_reducible first | exact HB.out | apply below_alloc | apply pw_below_drewN | apply below_drew1) | exact HB.out))) : w.heap.size ≤ gb110)); have n3_ := Aside0.mk ((by rw [hg]; exact (below_size (by repeat (first | (with_reducible first | exact HB.out | apply below_alloc | apply pw_below_drewN | apply below_drew1) | exact HB.out))) : w.heap.size ≤ gb110)); clear HB; have HB := n0_; have BK110 := n1_; have GW110 := n2_; have GE110 := n3_; clear n0_ n1_ n2_ n3_; clear hb hbox hg; obtain ⟨hcz4_0, hcz4_1, hcz4_2⟩ := cel3 BK110.out; obtain ⟨hfz4_0, hfz4_1, hfz4_2⟩ := frz3 BK110.out) | ((with_reducible refine gate_callee (f := 41) rfl ?_); refine goesL_ (some 7) rfl rfl Try.func41 (by kernel_rfl) rfl #[.agg #[.int .i64 a0_0, .int .i64 a0_1, .int .i64 a0_2]] rfl (by (try simp only [List.map_toArray, List.map_cons, List.map_nil]); first | done | rfl | (simp only [List.length_drop, List.length_take]; rfl)) ?_; (with_reducible refine (address_Encode.calls a0_0 a0_1 a0_2 t111 t112 _ A2.out).mono ?_); rintro e w5 ⟨rfl, hb⟩; refine ⟨_, rfl, ?_⟩; have n0_ := Aside0.mk (blk_below (g := gb110) (o := .cells #[.int .i64 a0_0, .int .i64 a0_1, .int .i64 a0_2] 25 (0, 0)) (by (with_reducible repeat (first | refine blk_drewN ?_ _ | refine blk_drew ?_ | refine blk_alloc ?_ _)); exact BK110.out) hb); have n1_ := Aside0.mk (below_step (by repeat (first | (with_reducible first | exact HB.out | apply below_alloc | apply pw_below_drewN | apply below_drew1 | refine below_set ?_ GE110.out) | exact HB.out)) hb); clear BK110; clear HB; have BK110 := n0_; have HB := n1_; clear n0_ n1_; (try clear hb); (try clear hb2); (try clear hk); (try clear hi)))
 go_ret
 exact ⟨by first | rfl | (simp [errW_none, errW_some] <;> rfl) | (simp [*, errW_none, errW_some] <;> rfl), by repeat (first | (with_reducible first | exact HB.out | apply below_alloc | apply pw_below_drewN | apply below_drew1 | refine below_set ?_ GE110.out) | exact HB.out)⟩
end Go.Proofs.Ytpmkibggmkibeaa.G
namespace Go.Proofs.Ytpmkibggmkibeaa.G
open Go.RowKit Go.Proofs.YtpmkibggmkibeaaW.PrintWords Go.Proofs.YtpmkibggmkibeaaW.PrintLast Go.Proofs.YtpmkibggmkibeaaW.PrintMore
attribute [local go_sem] max2_int min2_int max_two min_two max_three min_three max_four min_four   -- for this text's walks alone
set_option linter.unusedVariables false
set_option linter.unusedSimpArgs false
def subchannel_valid.f (a0_0 : Int) (a0_1 : Int) (a0_2 : Int) (a0_3 : Int) (a0_4 : Int) (a0_5 : Int) (a0_6 : Int) (a0_7 : Int) (a0_8 : Int) : Option (Bool) := (subchannel_between.f a0_0 0 15).bind fun t139 => (if t139 = true then ((subchannel_between.f a0_1 0 99).bind fun t140 => (if t140 = true then ((subchannel_between.f a0_2 0 99).bind fun t141 => (if t141 = true then ((address_Valid.f a0_3 a0_4 a0_5).bind fun t142 => (if t142 = true then ((address_Valid.f a0_6 a0_7 a0_8).bind fun t143 => (some t143)) else (some false))) else ((subchannel_between.f a0_2 160 162).bind fun t144 => (if t144 = true then ((address_Valid.f a0_3 a0_4 a0_5).bind fun t145 => (if t145 = true then ((address_Valid.f a0_6 a0_7 a0_8).bind fun t146 => (some t146)) else (some false))) else (some false))))) else (if a0_1 = 170 then ((subchannel_between.f a0_2 0 99).bind fun t147 => (if t147 = true then ((address_Valid.f a0_3 a0_4 a0_5).bind fun t148 => (if t148 = true then ((address_Valid.f a0_6 a0_7 a0_8).bind fun t149 => (some t149)) else (some false))) else ((subchannel_between.f a0_2 160 162).bind fun t150 => (if t150 = true then ((address_Valid.f a0_3 a0_4 a0_5).bind fun t151 => (if t151 = true then ((address_Valid.f a0_6 a0_7 a0_8).bind fun t152 => (some t152)) else (some false))) else (some false))))) else (some false)))) else (some false))
set_option maxHeartbeats 8000000 in
set_option maxRecDepth 100000 in
theorem subchannel_valid.calls (a0_0 : Int) (a0_1 : Int) (a0_2 : Int) (a0_3 : Int) (a0_4 : Int) (a0_5 : Int) (a0_6 : Int) (a0_7 : Int) (a0_8 : Int) (r : Bool) (w : World) (h : subchannel_valid.f a0_0 a0_1 a0_2 a0_3 a0_4 a0_5 a0_6 a0_7 a0_8 = some r) :
 Calls Try.prog 39 #[.agg #[.int .i64 a0_0, .int .i64 a0_1, .int .i64 a0_2, .int .i64 a0_3, .int .i64 a0_4, .int .i64 a0_5, .int .i64 a0_6, .int .i64 a0_7, .int .i64 a0_8]] w fun e w' => e = .returned (.bool r) ∧ Below w.heap.size w w' := by
 have hu27 := Try.underlying27
 have hu25 := Try.underlying25
 have HB := Aside0.mk (Below.refl w.heap.size w)
 have H : ((subchannel_between.f a0_0 0 15).bind fun t139 => (if t139 = true then ((subchannel_between.f a0_1 0 99).bind fun t140 => (if t140 = true then ((subchannel_between.f a0_2 0 99).bind fun t141 => (if t141 = true then ((address_Valid.f a0_3 a0_4 a0_5).bind fun t142 => (if t142 = true then ((address_Valid.f a0_6 a0_7 a0_8).bind fun t143 => (some t143)) else (some false))) else ((subchannel_between.f a0_2 160 162).bind fun t144 => (if t144 = true then ((address_Valid.f a0_3 a0_4 a0_5).bind fun t145 => (if t145 = true then ((address_Valid.f a0_6 a0_7 a0_8).bind fun t146 => (some t146)) else (some false))) else (some false))))) else (if a0_1 = 170 then ((subchannel_between.f a0_2 0 99).bind fun t147 => (if t147 = true then ((address_Valid.f a0_3 a0_4 a0_5).bind fun t148 => (if t148 = true then ((address_Valid.f a0_6 a0_7 a0_8).bind fun t149 => (some t149)) else (some false))) else ((subchannel_between.f a0_2 160 162).bind fun t150 => (if t150 = true then ((address_Valid.f a0_3 a0_4 a0_5).bind fun t151 => (if t151 = true then ((address_Valid.f a0_6 a0_7 a0_8).bind fun t152 => (some t152)) else (some false))) else (some false))))) else (some false)))) else (some false))) = some r := h
 clear h
 replace H := Option.bind_eq_some_iff.mp H
 obtain ⟨t139, A20, H⟩ := H
 replace H : (if t139 = true then ((subchannel_between.f a0_1 0 99).bind fun t140 => (if t140 = true then ((subchannel_between.f a0_2 0 99).bind fun t141 => (if t141 = true then ((address_Valid.f a0_3 a0_4 a0_5).bind fun t142 => (if t142 = true then ((address_Valid.f a0_6 a0_7 a0_8).bind fun t143 => (some t143)) else (some false))) else ((subchannel_between.f a0_2 160 162).bind fun t144 => (if t144 = true then ((address_Valid.f a0_3 a0_4 a0_5).bind fun t145 => (if t145 = true then ((address_Valid.f a0_6 a0_7 a0_8).bind fun t146 => (some t146)) else (some false))) else (some false))))) else (if a0_1 = 170 then ((subchannel_between.f a0_2 0 99).bind fun t147 => (if t147 = true then ((address_Valid.f a0_3 a0_4 a0_5).bind fun t148 => (if t148 = true then ((address_Valid.f a0_6 a0_7 a0_8).bind fun t149 => (some t149)) else (some false))) else ((subchannel_between.f a0_2 160 162).bind fun t150 => (if t150 = true then ((address_Valid.f a0_3 a0_4 a0_5).bind fun t151 => (if t151 = true then ((address_Valid.f a0_6 a0_7 a0_8).bind fun t152 => (some t152)) else (some false))) else (some false))))) else (some false)))) else (some false)) = some r := H
 have A2 := Aside0.mk A20
 clear A20
 by_cases c3 : t139 = true
 · subst c3
   have H1 : ((subchannel_between.f a0_1 0 99).bind fun t140 => (if t140 = true then ((subchannel_between.f a0_2 0 99).bind fun t141 => (if t141 = true then ((address_Valid.f a0_3 a0_4 a0_5).bind fun t142 => (if t142 = true then ((address_Valid.f a0_6 a0_7 a0_8).bind fun t143 => (some t143)) else (some false))) else ((subchannel_between.f a0_2 160 162).bind fun t144 => (if t144 = true then ((address_Valid.f a0_3 a0_4 a0_5).bind fun t145 => (if t145 = true then ((address_Valid.f a0_6 a0_7 a0_8).bind fun t146 => (some t146)) else (some false))) else (some false))))) else (if a0_1 = 170 then ((subchannel_between.f a0_2 0 99).bind fun t147 => (if t147 = true then ((address_Valid.f a0_3 a0_4 a0_5).bind fun t148 => (if t148 = true then ((address_Valid.f a0_6 a0_7 a0_8).bind fun t149 => (some t149)) else (some false))) else ((subchannel_between.f a0_2 160 162).bind fun t150 => (if t150 = true then ((address_Valid.f a0_3 a0_4 a0_5).bind fun t151 => (if t151 = true then ((address_Valid.f a0_6 a0_7 a0_8).bind fun t152 => (some t152)) else (some false))) else (some false))))) else (some false)))) = some r := by rw [if_pos rfl] at H; exact H
   clear H
   have H := H1
   clear H1
   replace H := Option.bind_eq_some_iff.mp H
   obtain ⟨t140, A40, H⟩ := H
   replace H : (if t140 = true then ((subchannel_between.f a0_2 0 99).bind fun t141 => (if t141 = true then ((address_Valid.f a0_3 a0_4 a0_5).bind fun t142 => (if t142 = true then ((address_Valid.f a0_6 a0_7 a0_8).bind fun t143 => (some t143)) else (some false))) else ((subchannel_between.f a0_2 160 162).bind fun t144 => (if t144 = true then ((address_Valid.f a0_3 a0_4 a0_5).bind fun t145 => (if t145 = true then ((address_Valid.f a0_6 a0_7 a0_8).bind fun t146 => (some t146)) else (some false))) else (some false))))) else (if a0_1 = 170 then ((subchannel_between.f a0_2 0 99).bind fun t147 => (if t147 = true then ((address_Valid.f a0_3 a0_4 a0_5).bind fun t148 => (if t148 = true then ((address_Valid.f a0_6 a0_7 a0_8).bind fun t149 => (some t149)) else (some false))) else ((subchannel_between.f a0_2 160 162).bind fun t150 => (if t150 = true then ((address_Valid.f a0_3 a0_4 a0_5).bind fun t151 => (if t151 = true then ((address_Valid.f a0_6 a0_7 a0_8).bind fun t152 => (some t152)) else (some false))) else (some false))))) else (some false))) = some r := H
   have A4 := Aside0.mk A40
   clear A40
   by_cases c5 : t140 = true
   · subst c5
     have H1 : ((subchannel_between.f a0_2 0 99).bind fun t141 => (if t141 = true then ((address_Valid.f a0_3 a0_4 a0_5).bind fun t142 => (if t142 = true then ((address_Valid.f a0_6 a0_7 a0_8).bind fun t143 => (some t143)) else (some false))) else ((subchannel_between.f a0_2 160 162).bind fun t144 => (if t144 = true then ((address_Valid.f a0_3 a0_4 a0_5).bind fun t145 => (if t145 = true then ((address_Valid.f a0_6 a0_7 a0_8).bind fun t146 => (some t146)) else (some false))) else (some false))))) = some r := by rw [if_pos rfl] at H; exact H
     clear H
     have H := H1
     clear H1
     replace H := Option.bind_eq_some_iff.mp H
     obtain ⟨t141, A60, H⟩ := H
     replace H : (if t141 = true then ((address_Valid.f a0_3 a0_4 a0_5).bind fun t142 => (if t142 = true then ((address_Valid.f a0_6 a0_7 a0_8).bind fun t143 => (some t143)) else (some false))) else ((subchannel_between.f a0_2 160 162).bind fun t144 => (if t144 = true then ((address_Valid.f a0_3 a0_4 a0_5).bind fun t145 => (if t145 = true then ((address_Valid.f a0_6 a0_7 a0_8).bind fun t146 => (some t146)) else (some false))) else (some false)))) = some r := H
     have A6 := Aside0.mk A60
     clear A60
     by_cases c7 : t141 = true
     · subst c7
       have H1 : ((address_Valid.f a0_3 a0_4 a0_5).bind fun t142 => (if t142 = true then ((address_Valid.f a0_6 a0_7 a0_8).bind fun t143 => (some t143)) else (some false))) = some r := by rw [if_pos rfl] at H; exact H
       clear H
       have H := H1
       clear H1
       replace H := Option.bind_eq_some_iff.mp H
       obtain ⟨t142, A80, H⟩ := H
       replace H : (if t142 = true then ((address_Valid.f a0_6 a0_7 a0_8).bind fun t143 => (some t143)) else (some false)) = some r := H
       have A8 := Aside0.mk A80
       clear A80
       by_cases c9 : t142 = true
       · subst c9
         have H1 : ((address_Valid.f a0_6 a0_7 a0_8).bind fun t143 => (some t143)) = some r := by rw [if_pos rfl] at H; exact H
         clear H
         have H := H1
         clear H1
         replace H := Option.bind_eq_some_iff.mp H
         obtain ⟨t143, A100, H⟩ := H
         replace H : (some t143) = some r := H
         have A10 := Aside0.mk A100
         clear A100
         obtain rfl := Option.some.inj H
         go_enter Try.func39, Try.ntmps39
         go_wp2_with (first | ((with_reducible refine gate_dst (N := 1) rfl ?_); refine box_event ?hg (N := 1) ?hd (cs := #[.int .i64 a0_0, .int .i64 a0_1, .int .i64 a0_2, .int .i64 a0_3, .int .i64 a0_4, .int .i64 a0_5, .int .i64 a0_6, .int .i64 a0_7, .int .i64 a0_8]) (t := 27) ?hr ?_; (case hd => rfl); (case hg => rfl); (case hr => first | (go_simp; done) | (go_simp; rfl)); intro gb138 hg w11 hbox hb; have n0_ := Aside0.mk (below_step (by repeat (first | (with_reducible first | exact HB.out | apply below_alloc | apply pw_below_drewN | apply below_drew1) | exact HB.out)) hb); have n1_ := Aside0.mk (hbox); have n2_ := Aside0.mk ((by rw [hg]; exact (below_size (by repeat (first | (with_reducible first | exact HB.out | apply below_alloc | apply pw_below_drewN | apply below_drew1) | exact HB.out))) : w.heap.size ≤ gb138)); have n3_ := Aside0.mk ((by rw [hg]; exact (below_size (by repeat (first | (with_reducible first | exact HB.out | apply below_alloc | apply pw_below_drewN | apply below_drew1) | exact HB.out))) : w.heap.size ≤ gb138)); clear HB; have HB := n0_; have BK138 := n1_; have GW138 := n2_; have GE138 := n3_; clear n0_ n1_ n2_ n3_; clear hb hbox hg; have hcz12_0 : w11.cell? ⟨gb138, 0, none⟩ = some (.int .i64 a0_0) := (blk_cell BK138.out 0).trans rfl; have hcz12_1 : w11.cell? ⟨gb138, 1, none⟩ = some (.int .i64 a0_1) := (blk_cell BK138.out 1).trans rfl; have hcz12_2 : w11.cell? ⟨gb138, 2, none⟩ = some (.int .i64 a0_2) := (blk_cell BK138.out 2).trans rfl; have hcz12_3 : w11.cell? ⟨gb138, 3, none⟩ = some (.int .i64 a0_3) := (blk_cell BK138.out 3).trans rfl; have hcz12_4 : w11.cell? ⟨gb138, 4, none⟩ = some (.int .i64 a0_4) := (blk_cell BK138.out 4).trans rfl; have hcz12_5 : w11.cell? ⟨gb138, 5, none⟩ = some (.int .i64 a0_5) := (blk_cell BK138.out 5).trans rfl; have hcz12_6 : w11.cell? ⟨gb138, 6, none⟩ = some (.int .i64 a0_6) := (blk_cell BK138.out 6).trans rfl; have hcz12_7 : w11.cell? ⟨gb138, 7, none⟩ = some (.int .i64 a0_7) := (blk_cell BK138.out 7).trans rfl; have hcz12_8 : w11.cell? ⟨gb138, 8, none⟩ = some (.int .i64 a0_8) := (blk_cell BK138.out 8).trans rfl; have hfz12_0 := blk_frozen BK138.out 0; have hfz12_1 := blk_frozen BK138.out 1; have hfz12_2 := blk_frozen BK138.out 2; have hfz12_3 := blk_frozen BK138.out 3; have hfz12_4 := blk_frozen BK138.out 4; have hfz12_5 := blk_frozen BK138.out 5; have hfz12_6 := blk_frozen BK138.out 6; have hfz12_7 := blk_frozen BK138.out 7; have hfz12_8 := blk_frozen BK138.out 8) | ((with_reducible refine gate_callee (f := 26) rfl ?_); refine goesL_ (some 5) rfl rfl Try.func26 (by kernel_rfl) rfl #[.int .i64 a0_0, .int .i64 0, .int .i64 15] rfl (by (try simp only [List.map_toArray, List.map_cons, List.map_nil]); first | done | rfl | (simp only [List.length_drop, List.length_take]; rfl)) ?_; (with_reducible refine (subchannel_between.calls a0_0 0 15 true _ A2.out).mono ?_); rintro e w' ⟨rfl, ⟨nd, rfl⟩⟩; refine ⟨_, rfl, ?_⟩) | (go_at_call 26; (with_reducible refine (subchannel_between.calls a0_1 0 99 true _ A4.out).mono ?_); rintro e w' ⟨rfl, ⟨nd, rfl⟩⟩) | (go_at_call 26; (with_reducible refine (subchannel_between.calls a0_2 0 99 true _ A6.out).mono ?_); rintro e w' ⟨rfl, ⟨nd, rfl⟩⟩) | (go_at_call 37; (with_reducible refine (address_Valid.calls a0_3 a0_4 a0_5 true _ A8.out).mono ?_); rintro e w13 ⟨rfl, hb⟩; have n0_ := Aside0.mk (blk_below (g := gb138) (o := .cells #[.int .i64 a0_0, .int .i64 a0_1, .int .i64 a0_2, .int .i64 a0_3, .int .i64 a0_4, .int .i64 a0_5, .int .i64 a0_6, .int .i64 a0_7, .int .i64 a0_8] 27 (0, 0)) (by (with_reducible repeat (first | refine blk_drewN ?_ _ | refine blk_drew ?_ | refine blk_alloc ?_ _)); exact BK138.out) hb); have n1_ := Aside0.mk (below_step (by repeat (first | (with_reducible first | exact HB.out | apply below_alloc | apply pw_below_drewN | apply below_drew1 | refine below_set ?_ GE138.out) | exact HB.out)) hb); clear BK138; clear HB; have BK138 := n0_; have HB := n1_; clear n0_ n1_; (try clear hb); (try clear hb2); (try clear hk); (try clear hi); have hcz14_0 : w13.cell? ⟨gb138, 0, none⟩ = some (.int .i64 a0_0) := (blk_cell BK138.out 0).trans rfl; have hcz14_1 : w13.cell? ⟨gb138, 1, none⟩ = some (.int .i64 a0_1) := (blk_cell BK138.out 1).trans rfl; have hcz14_2 : w13.cell? ⟨gb138, 2, none⟩ = some (.int .i64 a0_2) := (blk_cell BK138.out 2).trans rfl; have hcz14_3 : w13.cell? ⟨gb138, 3, none⟩ = some (.int .i64 a0_3) := (blk_cell BK138.out 3).trans rfl; have hcz14_4 : w13.cell? ⟨gb138, 4, none⟩ = some (.int .i64 a0_4) := (blk_cell BK138.out 4).trans rfl; have hcz14_5 : w13.cell? ⟨gb138, 5, none⟩ = some (.int .i64 a0_5) := (blk_cell BK138.out 5).trans rfl; have hcz14_6 : w13.cell? ⟨gb138, 6, none⟩ = some (.int .i64 a0_6) := (blk_cell BK138.out 6).trans rfl; have hcz14_7 : w13.cell? ⟨gb138, 7, none⟩ = some (.int .i64 a0_7) := (blk_cell BK138.out 7).trans rfl; have hcz14_8 : w13.cell? ⟨gb138, 8, none⟩ = some (.int .i64 a0_8) := (blk_cell BK138.out 8).trans rfl; have hfz14_0 := blk_frozen BK138.out 0; have hfz14_1 := blk_frozen BK138.out 1; have hfz14_2 := blk_frozen BK138.out 2; have hfz14_3 := blk_frozen BK138.out 3; have hfz14_4 := blk_frozen BK138.out 4; have hfz14_5 := blk_frozen BK138.out 5; have hfz14_6 := blk_frozen BK138.out 6; have hfz14_7 := blk_frozen BK138.out 7; have hfz14_8 := blk_frozen BK138.out 8) | (go_at_call 37; (with_reducible refine (address_Valid.calls a0_6 a0_7 a0_8 t143 _ A10.out).mono ?_); rintro e w15 ⟨rfl, hb⟩; have n0_ := Aside0.mk (blk_below (g := gb138) (o := .cells #[.int .i64 a0_0, .int .i64 a0_1, .int .i64 a0_2, .int .i64 a0_3, .int .i64 a0_4, .int .i64 a0_5, .int .i64 a0_6, .int .i64 a0_7, .int .i64 a0_8] 27 (0, 0)) (by (with_reducible repeat (first | refine blk_drewN ?_ _ | refine blk_drew ?_ | refine blk_alloc ?_ _)); exact BK138.out) hb); have n1_ := Aside0.mk (below_step (by repeat (first | (with_reducible first | exact HB.out | apply below_alloc | apply pw_below_drewN | apply below_drew1 | refine below_set ?_ GE138.out) | exact HB.out)) hb); clear BK138; clear HB; have BK138 := n0_; have HB := n1_; clear n0_ n1_; (try clear hb); (try clear hb2); (try clear hk); (try clear hi)))
         go_ret
         exact ⟨by first | rfl | (simp [errW_none, errW_some] <;> rfl) | (simp [*, errW_none, errW_some] <;> rfl), by repeat (first | (with_reducible first | exact HB.out | apply below_alloc | apply pw_below_drewN | apply below_drew1 | refine below_set ?_ GE138.out) | exact HB.out)⟩
       · replace c9 := Bool.eq_false_iff.mpr c9
         subst c9
         have H1 : (some false) = some r := by rw [if_neg (show ¬ (false = true) by decide)] at H; exact H
         clear H
         have H := H1
         clear H1
         obtain rfl := Option.some.inj H
         go_enter Try.func39, Try.ntmps39
         go_wp2_with (first | ((with_reducible refine gate_dst (N := 1) rfl ?_); refine box_event ?hg (N := 1) ?hd (cs := #[.int .i64 a0_0, .int .i64 a0_1, .int .i64 a0_2, .int .i64 a0_3, .int .i64 a0_4, .int .i64 a0_5, .int .i64 a0_6, .int .i64 a0_7, .int .i64 a0_8]) (t := 27) ?hr ?_; (case hd => rfl); (case hg => rfl); (case hr => first | (go_simp; done) | (go_simp; rfl)); intro gb138 hg w16 hbox hb; have n0_ := Aside0.mk (below_step (by repeat (first | (with_reducible first | exact HB.out | apply below_alloc | apply pw_below_drewN | apply below_drew1) | exact HB.out)) hb); have n1_ := Aside0.mk (hbox); have n2_ := Aside0.mk ((by rw [hg]; exact (below_size (by repeat (first | (with_reducible first | exact HB.out | apply below_alloc | apply pw_below_drewN | apply below_drew1) | exact HB.out))) : w.heap.size ≤ gb138)); have n3_ := Aside0.mk ((by rw [hg]; exact (below_size (by repeat (first | (with_reducible first | exact HB.out | apply below_alloc | apply pw_below_drewN | apply below_drew1) | exact HB.out))) : w.heap.size ≤ gb138)); clear HB; have HB := n0_; have BK138 := n1_; have GW138 := n2_; have GE138 := n3_; clear n0_ n1_ n2_ n3_; clear hb hbox hg; have hcz17_0 : w16.cell? ⟨gb138, 0, none⟩ = some (.int .i64 a0_0) := (blk_cell BK138.out 0).trans rfl; have hcz17_1 : w16.cell? ⟨gb138, 1, none⟩ = some (.int .i64 a0_1) := (blk_cell BK138.out 1).trans rfl; have hcz17_2 : w16.cell? ⟨gb138, 2, none⟩ = some (.int .i64 a0_2) := (blk_cell BK138.out 2).trans rfl; have hcz17_3 : w16.cell? ⟨gb138, 3, none⟩ = some (.int .i64 a0_3) := (blk_cell BK138.out 3).trans rfl; have hcz17_4 : w16.cell? ⟨gb138, 4, none⟩ = some (.int .i64 a0_4) := (blk_cell BK138.out 4).trans rfl; have hcz17_5 : w16.cell? ⟨gb138, 5, none⟩ = some (.int .i64 a0_5) := (blk_cell BK138.out 5).trans rfl; have hcz17_6 : w16.cell? ⟨gb138, 6, none⟩ = some (.int .i64 a0_6) := (blk_cell BK138.out 6).trans rfl; have hcz17_7 : w16.cell? ⟨gb138, 7, none⟩ = some (.int .i64 a0_7) := (blk_cell BK138.out 7).trans rfl; have hcz17_8 : w16.cell? ⟨gb138, 8, none⟩ = some (.int .i64 a0_8) := (blk_cell BK138.out 8).trans rfl; have hfz17_0 := blk_frozen BK138.out 0; have hfz17_1 := blk_frozen BK138.out 1; have hfz17_2 := blk_frozen BK138.out 2; have hfz17_3 := blk_frozen BK138.out 3; have hfz17_4 := blk_frozen BK138.out 4; have hfz17_5 := blk_frozen BK138.out 5; have hfz17_6 := blk_frozen BK138.out 6; have hfz17_7 := blk_frozen BK138.out 7; have hfz17_8 := blk_frozen BK138.out 8) | ((with_reducible refine gate_callee (f := 26) rfl ?_); refine goesL_ (some 5) rfl rfl Try.func26 (by kernel_rfl) rfl #[.int .i64 a0_0, .int .i64 0, .int .i64 15] rfl (by (try simp only [List.map_toArray, List.map_cons, List.map_nil]); first | done | rfl | (simp only [List.length_drop, List.length_take]; rfl)) ?_; (with_reducible refine (subchannel_between.calls a0_0 0 15 true _ A2.out).mono ?_); rintro e w' ⟨rfl, ⟨nd, rfl⟩⟩; refine ⟨_, rfl, ?_⟩) | (go_at_call 26; (with_reducible refine (subchannel_between.calls a0_1 0 99 true _ A4.out).mono ?_); rintro e w' ⟨rfl, ⟨nd, rfl⟩⟩) | (go_at_call 26; (with_reducible refine (subchannel_between.calls a0_2 0 99 true _ A6.out).mono ?_); rintro e w' ⟨rfl, ⟨nd, rfl⟩⟩) | (go_at_call 37; (with_reducible refine (address_Valid.calls a0_3 a0_4 a0_5 false _ A8.out).mono ?_); rintro e w18 ⟨rfl, hb⟩; have n0_ := Aside0.mk (blk_below (g := gb138) (o := .cells #[.int .i64 a0_0, .int .i64 a0_1, .int .i64 a0_2, .int .i64 a0_3, .int .i64 a0_4, .int .i64 a0_5, .int .i64 a0_6, .int .i64 a0_7, .int .i64 a0_8] 27 (0, 0)) (by (with_reducible repeat (first | refine blk_drewN ?_ _ | refine blk_drew ?_ | refine blk_alloc ?_ _)); exact BK138.out) hb); have n1_ := Aside0.mk (below_step (by repeat (first | (with_reducible first | exact HB.out | apply below_alloc | apply pw_below_drewN | apply below_drew1 | refine below_set ?_ GE138.out) | exact HB.out)) hb); clear BK138; clear HB; have BK138 := n0_; have HB := n1_; clear n0_ n1_; (try clear hb); (try clear hb2); (try clear hk); (try clear hi)))
         go_ret
         exact ⟨by first | rfl | (simp [errW_none, errW_some] <;> rfl) | (simp [*, errW_none, errW_some] <;> rfl), by repeat (first | (with_reducible first | exact HB.out | apply below_alloc | apply pw_below_drewN | apply below_drew1 | refine below_set ?_ GE138.out) | exact HB.out)⟩
     · replace c7 := Bool.eq_false_iff.mpr c7
       subst c7
       have H1 : ((subchannel_between.f a0_2 160 162).bind fun t144 => (if t144 = true then ((address_Valid.f a0_3 a0_4 a0_5).bind fun t145 => (if t145 = true then ((address_Valid.f a0_6 a0_7 a0_8).bind fun t146 => (some t146)) else (some false))) else (some false))) = some r := by rw [if_neg (show ¬ (false = true) by decide)] at H; exact H
       clear H
       have H := H1
       clear H1
       replace H := Option.bind_eq_some_iff.mp H
       obtain ⟨t144, A190, H⟩ := H
       replace H : (if t144 = true then ((address_Valid.f a0_3 a0_4 a0_5).bind fun t145 => (if t145 = true then ((address_Valid.f a0_6 a0_7 a0_8).bind fun t146 => (some t146)) else (some false))) else (some false)) = some r := H
       have A19 := Aside0.mk A190
       clear A190
       by_cases c20 : t144 = true
       · subst c20
         have H1 : ((address_Valid.f a0_3 a0_4 a0_5).bind fun t145 => (if t145 = true then ((address_Valid.f a0_6 a0_7 a0_8).bind fun t146 => (some t146)) else (some false))) = some r := by rw [if_pos rfl] at H; exact H
         clear H
         have H := H1
         clear H1
         replace H := Option.bind_eq_some_iff.mp H
         obtain ⟨t145, A210, H⟩ := H
         replace H : (if t145 = true then ((address_Valid.f a0_6 a0_7 a0_8).bind fun t146 => (some t146)) else (some false)) = some r := H
         have A21 := Aside0.mk A210
         clear A210
         by_cases c22 : t145 = true
         · subst c22
           have H1 : ((address_Valid.f a0_6 a0_7 a0_8).bind fun t146 => (some t146)) = some r := by rw [if_pos rfl] at H; exact H
           clear H
           have H := H1
           clear H1
           replace H := Option.bind_eq_some_iff.mp H
           obtain ⟨t146, A230, H⟩ := H
           replace H : (some t146) = some r := H
           have A23 := Aside0.mk A230
           clear A230
           obtain rfl := Option.some.inj H
           go_enter Try.func39, Try.ntmps39
           go_wp2_with (first | ((with_reducible refine gate_dst (N := 1) rfl ?_); refine box_event ?hg (N := 1) ?hd (cs := #[.int .i64 a0_0, .int .i64 a0_1, .int .i64 a0_2, .int .i64 a0_3, .int .i64 a0_4, .int .i64 a0_5, .int .i64 a0_6, .int .i64 a0_7, .int .i64 a0_8]) (t := 27) ?hr ?_; (case hd => rfl); (case hg => rfl); (case hr => first | (go_simp; done) | (go_simp; rfl)); intro gb138 hg w24 hbox hb; have n0_ := Aside0.mk (below_step (by repeat (first | (with_reducible first | exact HB.out | apply below_alloc | apply pw_below_drewN | apply below_drew1) | exact HB.out)) hb); have n1_ := Aside0.mk (hbox); have n2_ := Aside0.mk ((by rw [hg]; exact (below_size (by repeat (first | (with_reducible first | exact HB.out | apply below_alloc | apply pw_below_drewN | apply below_drew1) | exact HB.out))) : w.heap.size ≤ gb138)); have n3_ := Aside0.mk ((by rw [hg]; exact (below_size (by repeat (first | (with_reducible first | exact HB.out | apply below_alloc | apply pw_below_drewN | apply below_drew1) | exact HB.out))) : w.heap.size ≤ gb138)); clear HB; have HB := n0_; have BK138 := n1_; have GW138 := n2_; have GE138 := n3_; clear n0_ n1_ n2_ n3_; clear hb hbox hg; have hcz25_0 : w24.cell? ⟨gb138, 0, none⟩ = some (.int .i64 a0_0) := (blk_cell BK138.out 0).trans rfl; have hcz25_1 : w24.cell? ⟨gb138, 1, none⟩ = some (.int .i64 a0_1) := (blk_cell BK138.out 1).trans rfl; have hcz25_2 : w24.cell? ⟨gb138, 2, none⟩ = some (.int .i64 a0_2) := (blk_cell BK138.out 2).trans rfl; have hcz25_3 : w24.cell? ⟨gb138, 3, none⟩ = some (.int .i64 a0_3) := (blk_cell BK138.out 3).trans rfl; have hcz25_4 : w24.cell? ⟨gb138, 4, none⟩ = some (.int .i64 a0_4) := (blk_cell BK138.out 4).trans rfl; have hcz25_5 : w24.cell? ⟨gb138, 5, none⟩ = some (.int .i64 a0_5) := (blk_cell BK138.out 5).trans rfl; have hcz25_6 : w24.cell? ⟨gb138, 6, none⟩ = some (.int .i64 a0_6) := (blk_cell BK138.out 6).trans rfl; have hcz25_7 : w24.cell? ⟨gb138, 7, none⟩ = some (.int .i64 a0_7) := (blk_cell BK138.out 7).trans rfl; have hcz25_8 : w24.cell? ⟨gb138, 8, none⟩ = some (.int .i64 a0_8) := (blk_cell BK138.out 8).trans rfl; have hfz25_0 := blk_frozen BK138.out 0; have hfz25_1 := blk_frozen BK138.out 1; have hfz25_2 := blk_frozen BK138.out 2; have hfz25_3 := blk_frozen BK138.out 3; have hfz25_4 := blk_frozen BK138.out 4; have hfz25_5 := blk_frozen BK138.out 5; have hfz25_6 := blk_frozen BK138.out 6; have hfz25_7 := blk_frozen BK138.out 7; have hfz25_8 := blk_frozen BK138.out 8) | ((with_reducible refine gate_callee (f := 26) rfl ?_); refine goesL_ (some 5) rfl rfl Try.func26 (by kernel_rfl) rfl #[.int .i64 a0_0, .int .i64 0, .int .i64 15] rfl (by (try simp only [List.map_toArray, List.map_cons, List.map_nil]); first | done | rfl | (simp only [List.length_drop, List.length_take]; rfl)) ?_; (with_reducible refine (subchannel_between.calls a0_0 0 15 true _ A2.out).mono ?_); rintro e w' ⟨rfl, ⟨nd, rfl⟩⟩; refine ⟨_, rfl, ?_⟩) | (go_at_call 26; (with_reducible refine (subchannel_between.calls a0_1 0 99 true _ A4.out).mono ?_); rintro e w' ⟨rfl, ⟨nd, rfl⟩⟩) | (go_at_call 26; (with_reducible refine (subchannel_between.calls a0_2 0 99 false _ A6.out).mono ?_); rintro e w' ⟨rfl, ⟨nd, rfl⟩⟩) | (go_at_call 26; (with_reducible refine (subchannel_between.calls a0_2 160 162 true _ A19.out).mono ?_); rintro e w' ⟨rfl, ⟨nd, rfl⟩⟩) | (go_at_call 37; (with_reducible refine (address_Valid.calls a0_3 a0_4 a0_5 true _ A21.out).mono ?_); rintro e w26 ⟨rfl, hb⟩; have n0_ := Aside0.mk (blk_below (g := gb138) (o := .cells #[.int .i64 a0_0, .int .i64 a0_1, .int .i64 a0_2, .int .i64 a0_3, .int .i64 a0_4, .int .i64 a0_5, .int .i64 a0_6, .int .i64 a0_7, .int .i64 a0_8] 27 (0, 0)) (by (with_reducible repeat (first | refine blk_drewN ?_ _ | refine blk_drew ?_ | refine blk_alloc ?_ _)); exact BK138.out) hb); have n1_ := Aside0.mk (below_step (by repeat (first | (with_reducible first | exact HB.out | apply below_alloc | apply pw_below_drewN | apply below_drew1 | refine below_set ?_ GE138.out) | exact HB.out)) hb); clear BK138; clear HB; have BK138 := n0_; have HB := n1_; clear n0_ n1_; (try clear hb); (try clear hb2); (try clear hk); (try clear hi); have hcz27_0 : w26.cell? ⟨gb138, 0, none⟩ = some (.int .i64 a0_0) := (blk_cell BK138.out 0).trans rfl; have hcz27_1 : w26.cell? ⟨gb138, 1, none⟩ = some (.int .i64 a0_1) := (blk_cell BK138.out 1).trans rfl; have hcz27_2 : w26.cell? ⟨gb138, 2, none⟩ = some (.int .i64 a0_2) := (blk_cell BK138.out 2).trans rfl; have hcz27_3 : w26.cell? ⟨gb138, 3, none⟩ = some (.int .i64 a0_3) := (blk_cell BK138.out 3).trans rfl; have hcz27_4 : w26.cell? ⟨gb138, 4, none⟩ = some (.int .i64 a0_4) := (blk_cell BK138.out 4).trans rfl; have hcz27_5 : w26.cell? ⟨gb138, 5, none⟩ = some (.int .i64 a0_5) := (blk_cell BK138.out 5).trans rfl; have hcz27_6 : w26.cell? ⟨gb138, 6, none⟩ = some (.int .i64 a0_6) := (blk_cell BK138.out 6).trans rfl; have hcz27_7 : w26.cell? ⟨gb138, 7, none⟩ = some (.int .i64 a0_7) := (blk_cell BK138.out 7).trans rfl; have hcz27_8 : w26.cell? ⟨gb138, 8, none⟩ = some (.int .i64 a0_8) := (blk_cell BK138.out 8).trans rfl; have hfz27_0 := blk_frozen BK138.out 0; have hfz27_1 := blk_frozen BK138.out 1; have hfz27_2 := blk_frozen BK138.out 2; have hfz27_3 := blk_frozen BK138.out 3; have hfz27_4 := blk_frozen BK138.out 4; have hfz27_5 := blk_frozen BK138.out 5; have hfz27_6 := blk_frozen BK138.out 6; have hfz27_7 := blk_frozen BK138.out 7; have hfz27_8 := blk_frozen BK138.out 8) | (go_at_call 37; (with_reducible refine (address_Valid.calls a0_6 a0_7 a0_8 t146 _ A23.out).mono ?_); rintro e w28 ⟨rfl, hb⟩; have n0_ := Aside0.mk (blk_below (g := gb138) (o := .cells #[.int .i64 a0_0, .int .i64 a0_1, .int .i64 a0_2, .int .i64 a0_3, .int .i64 a0_4, .int .i64 a0_5, .int .i64 a0_6, .int .i64 a0_7, .int .i64 a0_8] 27 (0, 0)) (by (with_reducible repeat (first | refine blk_drewN ?_ _ | refine blk_drew ?_ | refine blk_alloc ?_ _)); exact BK138.out) hb); have n1_ := Aside0.mk (below_step (by repeat (first | (with_reducible first | exact HB.out | apply below_alloc | apply pw_below_drewN | apply below_drew1 | refine below_set ?_ GE138.out) | exact HB.out)) hb); clear BK138; clear HB; have BK138 := n0_; have HB := n1_; clear n0_ n1_; (try clear hb); (try clear hb2); (try clear hk); (try clear hi)))
           go_ret
           exact ⟨by first | rfl | (simp [errW_none, errW_some] <;> rfl) | (simp [*, errW_none, errW_some] <;> rfl), by repeat (first | (with_reducible first | exact HB.out | apply below_alloc | apply pw_below_drewN | apply below_drew1 | refine below_set ?_ GE138.out) | exact HB.out)⟩
         · replace c22 := Bool.eq_false_iff.mpr c22
           subst c22
           have H1 : (some false) = some r := by rw [if_neg (show ¬ (false = true) by decide)] at H; exact H
           clear H
           have H := H1
           clear H1
           obtain rfl := Option.some.inj H
           go_enter Try.func39, Try.ntmps39
           go_wp2_with (first | ((with_reducible refine gate_dst (N := 1) rfl ?_); refine box_event ?hg (N := 1) ?hd (cs := #[.int .i64 a0_0, .int .i64 a0_1, .int .i64 a0_2, .int .i64 a0_3, .int .i64 a0_4, .int .i64 a0_5, .int .i64 a0_6, .int .i64 a0_7, .int .i64 a0_8]) (t := 27) ?hr ?_; (case hd => rfl); (case hg => rfl); (case hr => first | (go_simp; done) | (go_simp; rfl)); intro gb138 hg w29 hbox hb; have n0_ := Aside0.mk (below_step (by repeat (first | (with_reducible first | exact HB.out | apply below_alloc | apply pw_below_drewN | apply below_drew1) | exact HB.out)) hb); have n1_ := Aside0.mk (hbox); have n2_ := Aside0.mk ((by rw [hg]; exact (below_size (by repeat (first | (with_reducible first | exact HB.out | apply below_alloc | apply pw_below_drewN | apply below_drew1) | exact HB.out))) : w.heap.size ≤ gb138)); have n3_ := Aside0.mk ((by rw [hg]; exact (below_size (by repeat (first | (with_reducible first | exact HB.out | apply below_alloc | apply pw_below_drewN | apply below_drew1) | exact HB.out))) : w.heap.size ≤ gb138)); clear HB; have HB := n0_; have BK138 := n1_; have GW138 := n2_; have GE138 := n3_; clear n0_ n1_ n2_ n3_; clear hb hbox hg; have hcz30_0 : w29.cell? ⟨gb138, 0, none⟩ = some (.int .i64 a0_0) := (blk_cell BK138.out 0).trans rfl; have hcz30_1 : w29.cell? ⟨gb138, 1, none⟩ = some (.int .i64 a0_1) := (blk_cell BK138.out 1).trans rfl; have hcz30_2 : w29.cell? ⟨gb138, 2, none⟩ = some (.int .i64 a0_2) := (blk_cell BK138.out 2).trans rfl; have hcz30_3 : w29.cell? ⟨gb138, 3, none⟩ = some (.int .i64 a0_3) := (blk_cell BK138.out 3).trans rfl; have hcz30_4 : w29.cell? ⟨gb138, 4, none⟩ = some (.int .i64 a0_4) := (blk_cell BK138.out 4).trans rfl; have hcz30_5 : w29.cell? ⟨gb138, 5, none⟩ = some (.int .i64 a0_5) := (blk_cell BK138.out 5).trans rfl; have hcz30_6 : w29.cell? ⟨gb138, 6, none⟩ = some (.int .i64 a0_6) := (blk_cell BK138.out 6).trans rfl; have hcz30_7 : w29.cell? ⟨gb138, 7, none⟩ = some (.int .i64 a0_7) := (blk_cell BK138.out 7).trans rfl; have hcz30_8 : w29.cell? ⟨gb138, 8, none⟩ = some (.int .i64 a0_8) := (blk_cell BK138.out 8).trans rfl; have hfz30_0 := blk_frozen BK138.out 0; have hfz30_1 := blk_frozen BK138.out 1; have hfz30_2 := blk_frozen BK138.out 2; have hfz30_3 := blk_frozen BK138.out 3; have hfz30_4 := blk_frozen BK138.out 4; have hfz30_5 := blk_frozen BK138.out 5; have hfz30_6 := blk_frozen BK138.out 6; have hfz30_7 := blk_frozen BK138.out 7; have hfz30_8 := blk_frozen BK138.out 8) | ((with_reducible refine gate_callee (f := 26) rfl ?_); refine goesL_ (some 5) rfl rfl Try.func26 (by kernel_rfl) rfl #[.int .i64 a0_0, .int .i64 0, .int .i64 15] rfl (by (try simp only [List.map_toArray, List.map_cons, List.map_nil]); first | done | rfl | (simp only [List.length_drop, List.length_take]; rfl)) ?_; (with_reducible refine (subchannel_between.calls a0_0 0 15 true _ A2.out).mono ?_); rintro e w' ⟨rfl, ⟨nd, rfl⟩⟩; refine ⟨_, rfl, ?_⟩) | (go_at_call 26; (with_reducible refine (subchannel_between.calls a0_1 0 99 true _ A4.out).mono ?_); rintro e w' ⟨rfl, ⟨nd, rfl⟩⟩) | (go_at_call 26; (with_reducible refine (subchannel_between.calls a0_2 0 99 false _ A6.out).mono ?_); rintro e w' ⟨rfl, ⟨nd, rfl⟩⟩) | (go_at_call 26; (with_reducible refine (subchannel_between.calls a0_2 160 162 true _ A19.out).mono ?_); rintro e w' ⟨rfl, ⟨nd, rfl⟩⟩) | (go_at_call 37; (with_reducible refine (address_Valid.calls a0_3 a0_4 a0_5 false _ A21.out).mono ?_); rintro e w31 ⟨rfl, hb⟩; have n0_ := Aside0.mk (blk_below (g := gb138) (o := .cells #[.int .i64 a0_0, .int .i64 a0_1, .int .i64 a0_2, .int .i64 a0_3, .int .i64 a0_4, .int .i64 a0_5, .int .i64 a0_6, .int .i64 a0_7, .int .i64 a0_8] 27 (0, 0)) (by (with_reducible repeat (first | refine blk_drewN ?_ _ | refine blk_drew ?_ | refine blk_alloc ?_ _)); exact BK138.out) hb); have n1_ := Aside0.mk (below_step (by repeat (first | (with_reducible first | exact HB.out | apply below_alloc | apply pw_below_drewN | apply below_drew1 | refine below_set ?_ GE138.out) | exact HB.out)) hb); clear BK138; clear HB; have BK138 := n0_; have HB := n1_; clear n0_ n1_; (try clear hb); (try clear hb2); (try clear hk); (try clear hi)))
           go_ret
           exact ⟨by first | rfl | (simp [errW_none, errW_some] <;> rfl) | (simp [*, errW_none, errW_some] <;> rfl), by repeat (first | (with_reducible first | exact HB.out | apply below_alloc | apply pw_below_drewN | apply below_drew1 | refine below_set ?_ GE138.out) | exact HB.out)⟩
       · replace c20 := Bool.eq_false_iff.mpr c20
         subst c20
         have H1 : (some false) = some r := by rw [if_neg (show ¬ (false = true) by decide)] at H; exact H
         clear H
         have H := H1
         clear H1
         obtain rfl := Option.some.inj H
         go_enter Try.func39, Try.ntmps39
         go_wp2_with (first | ((with_reducible refine gate_dst (N := 1) rfl ?_); refine box_event ?hg (N := 1) ?hd (cs := #[.int .i64 a0_0, .int .i64 a0_1, .int .i64 a0_2, .int .i64 a0_3, .int .i64 a0_4, .int .i64 a0_5, .int .i64 a0_6, .int .i64 a0_7, .int .i64 a0_8]) (t := 27) ?hr ?_; (case hd => rfl); (case hg => rfl); (case hr => first | (go_simp; done) | (go_simp; rfl)); intro gb138 hg w32 hbox hb; have n0_ := Aside0.mk (below_step (by repeat (first | (with_reducible first | exact HB.out | apply below_alloc | apply pw_below_drewN | apply below_drew1) | exact HB.out)) hb); have n1_ := Aside0.mk (hbox); have n2_ := Aside0.mk ((by rw [hg]; exact (below_size (by repeat (first | (with_reducible first | exact HB.out | apply below_alloc | apply pw_below_drewN | apply below_drew1) | exact HB.out))) : w.heap.size ≤ gb138)); have n3_ := Aside0.mk ((by rw [hg]; exact (below_size (by repeat (first | (with_reducible first | exact HB.out | apply below_alloc | apply pw_below_drewN | apply below_drew1) | exact HB.out))) : w.heap.size ≤ gb138)); clear HB; have HB := n0_; have BK138 := n1_; have GW138 := n2_; have GE138 := n3_; clear n0_ n1_ n2_ n3_; clear hb hbox hg; have hcz33_0 : w32.cell? ⟨gb138, 0, none⟩ = some (.int .i64 a0_0) := (blk_cell BK138.out 0).trans rfl; have hcz33_1 : w32.cell? ⟨gb138, 1, none⟩ = some (.int .i64 a0_1) := (blk_cell BK138.out 1).trans rfl; have hcz33_2 : w32.cell? ⟨gb138, 2, none⟩ = some (.int .i64 a0_2) := (blk_cell BK138.out 2).trans rfl; have hcz33_3 : w32.cell? ⟨gb138, 3, none⟩ = some (.int .i64 a0_3) := (blk_cell BK138.out 3).trans rfl; have hcz33_4 : w32.cell? ⟨gb138, 4, none⟩ = some (.int .i64 a0_4) := (blk_cell BK138.out 4).trans rfl; have hcz33_5 : w32.cell? ⟨gb138, 5, none⟩ = some (.int .i64 a0_5) := (blk_cell BK138.out 5).trans rfl; have hcz33_6 : w32.cell? ⟨gb138, 6, none⟩ = some (.int .i64 a0_6) := (blk_cell BK138.out 6).trans rfl; have hcz33_7 : w32.cell? ⟨gb138, 7, none⟩ = some (.int .i64 a0_7) := (blk_cell BK138.out 7).trans rfl; have hcz33_8 : w32.cell? ⟨gb138, 8, none⟩ = some (.int .i64 a0_8) := (blk_cell BK138.out 8).trans rfl; have hfz33_0 := blk_frozen BK138.out 0; have hfz33_1 := blk_frozen BK138.out 1; have hfz33_2 := blk_frozen BK138.out 2; have hfz33_3 := blk_frozen BK138.out 3; have hfz33_4 := blk_frozen BK138.out 4; have hfz33_5 := blk_frozen BK138.out 5; have hfz33_6 := blk_frozen BK138.out 6; have hfz33_7 := blk_frozen BK138.out 7; have hfz33_8 := blk_frozen BK138.out 8) | ((with_reducible refine gate_callee (f := 26) rfl ?_); refine goesL_ (some 5) rfl rfl Try.func26 (by kernel_rfl) rfl #[.int .i64 a0_0, .int .i64 0, .int .i64 15] rfl (by (try simp only [List.map_toArray, List.map_cons, List.map_nil]); first | done | rfl | (simp only [List.length_drop, List.length_take]; rfl)) ?_; (with_reducible refine (subchannel_between.calls a0_0 0 15 true _ A2.out).mono ?_); rintro e w' ⟨rfl, ⟨nd, rfl⟩⟩; refine ⟨_, rfl, ?_⟩) | (go_at_call 26; (with_reducible refine (subchannel_between.calls a0_1 0 99 true _ A4.out).mono ?_); rintro e w' ⟨rfl, ⟨nd, rfl⟩⟩) | (go_at_call 26; (with_reducible refine (subchannel_between.calls a0_2 0 99 false _ A6.out).mono ?_); rintro e w' ⟨rfl, ⟨nd, rfl⟩⟩) | (go_at_call 26; (with_reducible refine (subchannel_between.calls a0_2 160 162 false _ A19.out).mono ?_); rintro e w' ⟨rfl, ⟨nd, rfl⟩⟩))
         go_ret
         exact ⟨by first | rfl | (simp [errW_none, errW_some] <;> rfl) | (simp [*, errW_none, errW_some] <;> rfl), by repeat (first | (with_reducible first | exact HB.out | apply below_alloc | apply pw_below_drewN | apply below_drew1 | refine below_set ?_ GE138.out) | exact HB.out)⟩
   · replace c5 := Bool.eq_false_iff.mpr c5
     subst c5
     have H1 : (if a0_1 = 170 then ((subchannel_between.f a0_2 0 99).bind fun t147 => (if t147 = true then ((address_Valid.f a0_3 a0_4 a0_5).bind fun t148 => (if t148 = true then ((address_Valid.f a0_6 a0_7 a0_8).bind fun t149 => (some t149)) else (some false))) else ((subchannel_between.f a0_2 160 162).bind fun t150 => (if t150 = true then ((address_Valid.f a0_3 a0_4 a0_5).bind fun t151 => (if t151 = true then ((address_Valid.f a0_6 a0_7 a0_8).bind fun t152 => (some t152)) else (some false))) else (some false))))) else (some false)) = some r := by rw [if_neg (show ¬ (false = true) by decide)] at H; exact H
     clear H
     have H := H1
     clear H1
     by_cases c34 : a0_1 = 170
     · rw [if_pos c34] at H
       have c34b0 : (a0_1 == 170) = true := beq_iff_eq.mpr c34
       have c34b1 : (a0_1 != 170) = false := bne_eq_false_iff_eq.mpr c34
       clear c34
       replace H := Option.bind_eq_some_iff.mp H
       obtain ⟨t147, A350, H⟩ := H
       replace H : (if t147 = true then ((address_Valid.f a0_3 a0_4 a0_5).bind fun t148 => (if t148 = true then ((address_Valid.f a0_6 a0_7 a0_8).bind fun t149 => (some t149)) else (some false))) else ((subchannel_between.f a0_2 160 162).bind fun t150 => (if t150 = true then ((address_Valid.f a0_3 a0_4 a0_5).bind fun t151 => (if t151 = true then ((address_Valid.f a0_6 a0_7 a0_8).bind fun t152 => (some t152)) else (some false))) else (some false)))) = some r := H
       have A35 := Aside0.mk A350
       clear A350
       by_cases c36 : t147 = true
       · subst c36
         have H1 : ((address_Valid.f a0_3 a0_4 a0_5).bind fun t148 => (if t148 = true then ((address_Valid.f a0_6 a0_7 a0_8).bind fun t149 => (some t149)) else (some false))) = some r := by rw [if_pos rfl] at H; exact H
         clear H
         have H := H1
         clear H1
         replace H := Option.bind_eq_some_iff.mp H
         obtain ⟨t148, A370, H⟩ := H
         replace H : (if t148 = true then ((address_Valid.f a0_6 a0_7 a0_8).bind fun t149 => (some t149)) else (some false)) = some r := H
         have A37 := Aside0.mk A370
         clear A370
         by_cases c38 : t148 = true
         · subst c38
           have H1 : ((address_Valid.f a0_6 a0_7 a0_8).bind fun t149 => (some t149)) = some r := by rw [if_pos rfl] at H; exact H
           clear H
           have H := H1
           clear H1
           replace H := Option.bind_eq_some_iff.mp H
           obtain ⟨t149, A390, H⟩ := H
           replace H : (some t149) = some r := H
           have A39 := Aside0.mk A390
           clear A390
           obtain rfl := Option.some.inj H
           go_enter Try.func39, Try.ntmps39
           go_wp2_with (first | ((with_reducible refine gate_dst (N := 1) rfl ?_); refine box_event ?hg (N := 1) ?hd (cs := #[.int .i64 a0_0, .int .i64 a0_1, .int .i64 a0_2, .int .i64 a0_3, .int .i64 a0_4, .int .i64 a0_5, .int .i64 a0_6, .int .i64 a0_7, .int .i64 a0_8]) (t := 27) ?hr ?_; (case hd => rfl); (case hg => rfl); (case hr => first | (go_simp; done) | (go_simp; rfl)); intro gb138 hg w40 hbox hb; have n0_ := Aside0.mk (below_step (by repeat (first | (with_reducible first | exact HB.out | apply below_alloc | apply pw_below_drewN | apply below_drew1) | exact HB.out)) hb); have n1_ := Aside0.mk (hbox); have n2_ := Aside0.mk ((by rw [hg]; exact (below_size (by repeat (first | (with_reducible first | exact HB.out | apply below_alloc | apply pw_below_drewN | apply below_drew1) | exact HB.out))) : w.heap.size ≤ gb138)); have n3_ := Aside0.mk ((by rw [hg]; exact (below_size (by repeat (first | (with_reducible first | exact HB.out | apply below_alloc | apply pw_below_drewN | apply below_drew1) | exact HB.out))) : w.heap.size ≤ gb138)); clear HB; have HB := n0_; have BK138 := n1_; have GW138 := n2_; have GE138 := n3_; clear n0_ n1_ n2_ n3_; clear hb hbox hg; have hcz41_0 : w40.cell? ⟨gb138, 0, none⟩ = some (.int .i64 a0_0) := (blk_cell BK138.out 0).trans rfl; have hcz41_1 : w40.cell? ⟨gb138, 1, none⟩ = some (.int .i64 a0_1) := (blk_cell BK138.out 1).trans rfl; have hcz41_2 : w40.cell? ⟨gb138, 2, none⟩ = some (.int .i64 a0_2) := (blk_cell BK138.out 2).trans rfl; have hcz41_3 : w40.cell? ⟨gb138, 3, none⟩ = some (.int .i64 a0_3) := (blk_cell BK138.out 3).trans rfl; have hcz41_4 : w40.cell? ⟨gb138, 4, none⟩ = some (.int .i64 a0_4) := (blk_cell BK138.out 4).trans rfl; have hcz41_5 : w40.cell? ⟨gb138, 5, none⟩ = some (.int .i64 a0_5) := (blk_cell BK138.out 5).trans rfl; have hcz41_6 : w40.cell? ⟨gb138, 6, none⟩ = some (.int .i64 a0_6) := (blk_cell BK138.out 6).trans rfl; have hcz41_7 : w40.cell? ⟨gb138, 7, none⟩ = some (.int .i64 a0_7) := (blk_cell BK138.out 7).trans rfl; have hcz41_8 : w40.cell? ⟨gb138, 8, none⟩ = some (.int .i64 a0_8) := (blk_cell BK138.out 8).trans rfl; have hfz41_0 := blk_frozen BK138.out 0; have hfz41_1 := blk_frozen BK138.out 1; have hfz41_2 := blk_frozen BK138.out 2; have hfz41_3 := blk_frozen BK138.out 3; have hfz41_4 := blk_frozen BK138.out 4; have hfz41_5 := blk_frozen BK138.out 5; have hfz41_6 := blk_frozen BK138.out 6; have hfz41_7 := blk_frozen BK138.out 7; have hfz41_8 := blk_frozen BK138.out 8) | ((with_reducible refine gate_callee (f := 26) rfl ?_); refine goesL_ (some 5) rfl rfl Try.func26 (by kernel_rfl) rfl #[.int .i64 a0_0, .int .i64 0, .int .i64 15] rfl (by (try simp only [List.map_toArray, List.map_cons, List.map_nil]); first | done | rfl | (simp only [List.length_drop, List.length_take]; rfl)) ?_; (with_reducible refine (subchannel_between.calls a0_0 0 15 true _ A2.out).mono ?_); rintro e w' ⟨rfl, ⟨nd, rfl⟩⟩; refine ⟨_, rfl, ?_⟩) | (go_at_call 26; (with_reducible refine (subchannel_between.calls a0_1 0 99 false _ A4.out).mono ?_); rintro e w' ⟨rfl, ⟨nd, rfl⟩⟩) | (go_at_call 26; (with_reducible refine (subchannel_between.calls a0_2 0 99 true _ A35.out).mono ?_); rintro e w' ⟨rfl, ⟨nd, rfl⟩⟩) | (go_at_call 37; (with_reducible refine (address_Valid.calls a0_3 a0_4 a0_5 true _ A37.out).mono ?_); rintro e w42 ⟨rfl, hb⟩; have n0_ := Aside0.mk (blk_below (g := gb138) (o := .cells #[.int .i64 a0_0, .int .i64 a0_1, .int .i64 a0_2, .int .i64 a0_3, .int .i64 a0_4, .int .i64 a0_5, .int .i64 a0_6, .int .i64 a0_7, .int .i64 a0_8] 27 (0, 0)) (by (with_reducible repeat (first | refine blk_drewN ?_ _ | refine blk_drew ?_ | refine blk_alloc ?_ _)); exact BK138.out) hb); have n1_ := Aside0.mk (below_step (by repeat (first | (with_reducible first | exact HB.out | apply below_alloc | apply pw_below_drewN | apply below_drew1 | refine below_set ?_ GE138.out) | exact HB.out)) hb); clear BK138; clear HB; have BK138 := n0_; have HB := n1_; clear n0_ n1_; (try clear hb); (try clear hb2); (try clear hk); (try clear hi); have hcz43_0 : w42.cell? ⟨gb138, 0, none⟩ = some (.int .i64 a0_0) := (blk_cell BK138.out 0).trans rfl; have hcz43_1 : w42.cell? ⟨gb138, 1, none⟩ = some (.int .i64 a0_1) := (blk_cell BK138.out 1).trans rfl; have hcz43_2 : w42.cell? ⟨gb138, 2, none⟩ = some (.int .i64 a0_2) := (blk_cell BK138.out 2).trans rfl; have hcz43_3 : w42.cell? ⟨gb138, 3, none⟩ = some (.int .i64 a0_3) := (blk_cell BK138.out 3).trans rfl; have hcz43_4 : w42.cell? ⟨gb138, 4, none⟩ = some (.int .i64 a0_4) := (blk_cell BK138.out 4).trans rfl; have hcz43_5 : w42.cell? ⟨gb138, 5, none⟩ = some (.int .i64 a0_5) := (blk_cell BK138.out 5).trans rfl; have hcz43_6 : w42.cell? ⟨gb138, 6, none⟩ = some (.int .i64 a0_6) := (blk_cell BK138.out 6).trans rfl; have hcz43_7 : w42.cell? ⟨gb138, 7, none⟩ = some (.int .i64 a0_7) := (blk_cell BK138.out 7).trans rfl; have hcz43_8 : w42.cell? ⟨gb138, 8, none⟩ = some (.int .i64 a0_8) := (blk_cell BK138.out 8).trans rfl; have hfz43_0 := blk_frozen BK138.out 0; have hfz43_1 := blk_frozen BK138.out 1; have hfz43_2 := blk_frozen BK138.out 2; have hfz43_3 := blk_frozen BK138.out 3; have hfz43_4 := blk_frozen BK138.out 4; have hfz43_5 := blk_frozen BK138.out 5; have hfz43_6 := blk_frozen BK138.out 6; have hfz43_7 := blk_frozen BK138.out 7; have hfz43_8 := blk_frozen BK138.out 8) | (go_at_call 37; (with_reducible refine (address_Valid.calls a0_6 a0_7 a0_8 t149 _ A39.out).mono ?_); rintro e w44 ⟨rfl, hb⟩; have n0_ := Aside0.mk (blk_below (g := gb138) (o := .cells #[.int .i64 a0_0, .int .i64 a0_1, .int .i64 a0_2, .int .i64 a0_3, .int .i64 a0_4, .int .i64 a0_5, .int .i64 a0_6, .int .i64 a0_7, .int .i64 a0_8] 27 (0, 0)) (by (with_reducible repeat (first | refine blk_drewN ?_ _ | refine blk_drew ?_ | refine blk_alloc ?_ _)); exact BK138.out) hb); have n1_ := Aside0.mk (below_step (by repeat (first | (with_reducible first | exact HB.out | apply below_alloc | apply pw_below_drewN | apply below_drew1 | refine below_set ?_ GE138.out) | exact HB.out)) hb); clear BK138; clear HB; have BK138 := n0_; have HB := n1_; clear n0_ n1_; (try clear hb); (try clear hb2); (try clear hk); (try clear hi)))
           go_ret
           exact ⟨by first | rfl | (simp [errW_none, errW_some] <;> rfl) | (simp [*, errW_none, errW_some] <;> rfl), by repeat (first | (with_reducible first | exact HB.out | apply below_alloc | apply pw_below_drewN | apply below_drew1 | refine below_set ?_ GE138.out) | exact HB.out)⟩
         · replace c38 := Bool.eq_false_iff.mpr c38
           subst c38
           have H1 : (some false) = some r := by rw [if_neg (show ¬ (false = true) by decide)] at H; exact H
           clear H
           have H := H1
           clear H1
           obtain rfl := Option.some.inj H
           go_enter Try.func39, Try.ntmps39
           go_wp2_with (first | ((with_reducible refine gate_dst (N := 1) rfl ?_); refine box_event ?hg (N := 1) ?hd (cs := #[.int .i64 a0_0, .int .i64 a0_1, .int .i64 a0_2, .int .i64 a0_3, .int .i64 a0_4, .int .i64 a0_5, .int .i64 a0_6, .int .i64 a0_7, .int .i64 a0_8]) (t := 27) ?hr ?_; (case hd => rfl); (case hg => rfl); (case hr => first | (go_simp; done) | (go_simp; rfl)); intro gb138 hg w45 hbox hb; have n0_ := Aside0.mk (below_step (by repeat (first | (with_reducible first | exact HB.out | apply below_alloc | apply pw_below_drewN | apply below_drew1) | exact HB.out)) hb); have n1_ := Aside0.mk (hbox); have n2_ := Aside0.mk ((by rw [hg]; exact (below_size (by repeat (first | (with_reducible first | exact HB.out | apply below_alloc | apply pw_below_drewN | apply below_drew1) | exact HB.out))) : w.heap.size ≤ gb138)); have n3_ := Aside0.mk ((by rw [hg]; exact (below_size (by repeat (first | (with_reducible first | exact HB.out | apply below_alloc | apply pw_below_drewN | apply below_drew1) | exact HB.out))) : w.heap.size ≤ gb138)); clear HB; have HB := n0_; have BK138 := n1_; have GW138 := n2_; have GE138 := n3_; clear n0_ n1_ n2_ n3_; clear hb hbox hg; have hcz46_0 : w45.cell? ⟨gb138, 0, none⟩ = some (.int .i64 a0_0) := (blk_cell BK138.out 0).trans rfl; have hcz46_1 : w45.cell? ⟨gb138, 1, none⟩ = some (.int .i64 a0_1) := (blk_cell BK138.out 1).trans rfl; have hcz46_2 : w45.cell? ⟨gb138, 2, none⟩ = some (.int .i64 a0_2) := (blk_cell BK138.out 2).trans rfl; have hcz46_3 : w45.cell? ⟨gb138, 3, none⟩ = some (.int .i64 a0_3) := (blk_cell BK138.out 3).trans rfl; have hcz46_4 : w45.cell? ⟨gb138, 4, none⟩ = some (.int .i64 a0_4) := (blk_cell BK138.out 4).trans rfl; have hcz46_5 : w45.cell? ⟨gb138, 5, none⟩ = some (.int .i64 a0_5) := (blk_cell BK138.out 5).trans rfl; have hcz46_6 : w45.cell? ⟨gb138, 6, none⟩ = some (.int .i64 a0_6) := (blk_cell BK138.out 6).trans rfl; have hcz46_7 : w45.cell? ⟨gb138, 7, none⟩ = some (.int .i64 a0_7) := (blk_cell BK138.out 7).trans rfl; have hcz46_8 : w45.cell? ⟨gb138, 8, none⟩ = some (.int .i64 a0_8) := (blk_cell BK138.out 8).trans rfl; have hfz46_0 := blk_frozen BK138.out 0; have hfz46_1 := blk_frozen BK138.out 1; have hfz46_2 := blk_frozen BK138.out 2; have hfz46_3 := blk_frozen BK138.out 3; have hfz46_4 := blk_frozen BK138.out 4; have hfz46_5 := blk_frozen BK138.out 5; have hfz46_6 := blk_frozen BK138.out 6; have hfz46_7 := blk_frozen BK138.out 7; have hfz46_8 := blk_frozen BK138.out 8) | ((with_reducible refine gate_callee (f := 26) rfl ?_); refine goesL_ (some 5) rfl rfl Try.func26 (by kernel_rfl) rfl #[.int .i64 a0_0, .int .i64 0, .int .i64 15] rfl (by (try simp only [List.map_toArray, List.map_cons, List.map_nil]); first | done | rfl | (simp only [List.length_drop, List.length_take]; rfl)) ?_; (with_reducible refine (subchannel_between.calls a0_0 0 15 true _ A2.out).mono ?_); rintro e w' ⟨rfl, ⟨nd, rfl⟩⟩; refine ⟨_, rfl, ?_⟩) | (go_at_call 26; (with_reducible refine (subchannel_between.calls a0_1 0 99 false _ A4.out).mono ?_); rintro e w' ⟨rfl, ⟨nd, rfl⟩⟩) | (go_at_call 26; (with_reducible refine (subchannel_between.calls a0_2 0 99 true _ A35.out).mono ?_); rintro e w' ⟨rfl, ⟨nd, rfl⟩⟩) | (go_at_call 37; (with_reducible refine (address_Valid.calls a0_3 a0_4 a0_5 false _ A37.out).mono ?_); rintro e w47 ⟨rfl, hb⟩; have n0_ := Aside0.mk (blk_below (g := gb138) (o := .cells #[.int .i64 a0_0, .int .i64 a0_1, .int .i64 a0_2, .int .i64 a0_3, .int .i64 a0_4, .int .i64 a0_5, .int .i64 a0_6, .int .i64 a0_7, .int .i64 a0_8] 27 (0, 0)) (by (with_reducible repeat (first | refine blk_drewN ?_ _ | refine blk_drew ?_ | refine blk_alloc ?_ _)); exact BK138.out) hb); have n1_ := Aside0.mk (below_step (by repeat (first | (with_reducible first | exact HB.out | apply below_alloc | apply pw_below_drewN | apply below_drew1 | refine below_set ?_ GE138.out) | exact HB.out)) hb); clear BK138; clear HB; have BK138 := n0_; have HB := n1_; clear n0_ n1_; (try clear hb); (try clear hb2); (try clear hk); (try clear hi)))
           go_ret
           exact ⟨by first | rfl | (simp [errW_none, errW_some] <;> rfl) | (simp [*, errW_none, errW_some] <;> rfl), by repeat (first | (with_reducible first | exact HB.out | apply below_alloc | apply pw_below_drewN | apply below_drew1 | refine below_set ?_ GE138.out) | exact HB.out)⟩
       · replace c36 := Bool.eq_false_iff.mpr c36
         subst c36
         have H1 : ((subchannel_between.f a0_2 160 162).bind fun t150 => (if t150 = true then ((address_Valid.f a0_3 a0_4 a0_5).bind fun t151 => (if t151 = true then ((address_Valid.f a0_6 a0_7 a0_8).bind fun t152 => (some t152)) else (some false))) else (some false))) = some r := by rw [if_neg (show ¬ (false = true) by decide)] at H; exact H
         clear H
         have H := H1
         clear H1
         replace H := Option.bind_eq_some_iff.mp H
         obtain ⟨t150, A480, H⟩ := H
         replace H : (if t150 = true then ((address_Valid.f a0_3 a0_4 a0_5).bind fun t151 => (if t151 = true then ((address_Valid.f a0_6 a0_7 a0_8).bind fun t152 => (some t152)) else (some false))) else (some false)) = some r := H
         have A48 := Aside0.mk A480
         clear A480
         by_cases c49 : t150 = true
         · subst c49
           have H1 : ((address_Valid.f a0_3 a0_4 a0_5).bind fun t151 => (if t151 = true then ((address_Valid.f a0_6 a0_7 a0_8).bind fun t152 => (some t152)) else (some false))) = some r := by rw [if_pos rfl] at H; exact H
           clear H
           have H := H1
           clear H1
           replace H := Option.bind_eq_some_iff.mp H
           obtain ⟨t151, A500, H⟩ := H
           replace H : (if t151 = true then ((address_Valid.f a0_6 a0_7 a0_8).bind fun t152 => (some t152)) else (some false)) = some r := H
           have A50 := Aside0.mk A500
           clear A500
           by_cases c51 : t151 = true
           · subst c51
             have H1 : ((address_Valid.f a0_6 a0_7 a0_8).bind fun t152 => (some t152)) = some r := by rw [if_pos rfl] at H; exact H
             clear H
             have H := H1
             clear H1
             replace H := Option.bind_eq_some_iff.mp H
             obtain ⟨t152, A520, H⟩ := H
             replace H : (some t152) = some r := H
             have A52 := Aside0.mk A520
             clear A520
             obtain rfl := Option.some.inj H
             go_enter Try.func39, Try.ntmps39
             go_wp2_with (first | ((with_reducible refine gate_dst (N := 1) rfl ?_); refine box_event ?hg (N := 1) ?hd (cs := #[.int .i64 a0_0, .int .i64 a0_1, .int .i64 a0_2, .int .i64 a0_3, .int .i64 a0_4, .int .i64 a0_5, .int .i64 a0_6, .int .i64 a0_7, .int .i64 a0_8]) (t := 27) ?hr ?_; (case hd => rfl); (case hg => rfl); (case hr => first | (go_simp; done) | (go_simp; rfl)); intro gb138 hg w53 hbox hb; have n0_ := Aside0.mk (below_step (by repeat (first | (with_reducible first | exact HB.out | apply below_alloc | apply pw_below_drewN | apply below_drew1) | exact HB.out)) hb); have n1_ := Aside0.mk (hbox); have n2_ := Aside0.mk ((by rw [hg]; exact (below_size (by repeat (first | (with_reducible first | exact HB.out | apply below_alloc | apply pw_below_drewN | apply below_drew1) | exact HB.out))) : w.heap.size ≤ gb138)); have n3_ := Aside0.mk ((by rw [hg]; exact (below_size (by repeat (first | (with_reducible first | exact HB.out | apply below_alloc | apply pw_below_drewN | apply below_drew1) | exact HB.out))) : w.heap.size ≤ gb138)); clear HB; have HB := n0_; have BK138 := n1_; have GW138 := n2_; have GE138 := n3_; clear n0_ n1_ n2_ n3_; clear hb hbox hg; have hcz54_0 : w53.cell? ⟨gb138, 0, none⟩ = some (.int .i64 a0_0) := (blk_cell BK138.out 0).trans rfl; have hcz54_1 : w53.cell? ⟨gb138, 1, none⟩ = some (.int .i64 a0_1) := (blk_cell BK138.out 1).trans rfl; have hcz54_2 : w53.cell? ⟨gb138, 2, none⟩ = some (.int .i64 a0_2) := (blk_cell BK138.out 2).trans rfl; have hcz54_3 : w53.cell? ⟨gb138, 3, none⟩ = some (.int .i64 a0_3) := (blk_cell BK138.out 3).trans rfl; have hcz54_4 : w53.cell? ⟨gb138, 4, none⟩ = some (.int .i64 a0_4) := (blk_cell BK138.out 4).trans rfl; have hcz54_5 : w53.cell? ⟨gb138, 5, none⟩ = some (.int .i64 a0_5) := (blk_cell BK138.out 5).trans rfl; have hcz54_6 : w53.cell? ⟨gb138, 6, none⟩ = some (.int .i64 a0_6) := (blk_cell BK138.out 6).trans rfl; have hcz54_7 : w53.cell? ⟨gb138, 7, none⟩ = some (.int .i64 a0_7) := (blk_cell BK138.out 7).trans rfl; have hcz54_8 : w53.cell? ⟨gb138, 8, none⟩ = some (.int .i64 a0_8) := (blk_cell BK138.out 8).trans rfl; have hfz54_0 := blk_frozen BK138.out 0; have hfz54_1 := blk_frozen BK138.out 1; have hfz54_2 := blk_frozen BK138.out 2; have hfz54_3 := blk_frozen BK138.out 3; have hfz54_4 := blk_frozen BK138.out 4; have hfz54_5 := blk_frozen BK138.out 5; have hfz54_6 := blk_frozen BK138.out 6; have hfz54_7 := blk_frozen BK138.out 7; have hfz54_8 := blk_frozen BK138.out 8) | ((with_reducible refine gate_callee (f := 26) rfl ?_); refine goesL_ (some 5) rfl rfl Try.func26 (by kernel_rfl) rfl #[.int .i64 a0_0, .int .i64 0, .int .i64 15] rfl (by (try simp only [List.map_toArray, List.map_cons, List.map_nil]); first | done | rfl | (simp only [List.length_drop, List.length_take]; rfl)) ?_; (with_reducible refine (subchannel_between.calls a0_0 0 15 true _ A2.out).mono ?_); rintro e w' ⟨rfl, ⟨nd, rfl⟩⟩; refine ⟨_, rfl, ?_⟩) | (go_at_call 26; (with_reducible refine (subchannel_between.calls a0_1 0 99 false _ A4.out).mono ?_); rintro e w' ⟨rfl, ⟨nd, rfl⟩⟩) | (go_at_call 26; (with_reducible refine (subchannel_between.calls a0_2 0 99 false _ A35.out).mono ?_); rintro e w' ⟨rfl, ⟨nd, rfl⟩⟩) | (go_at_call 26; (with_reducible refine (subchannel_between.calls a0_2 160 162 true _ A48.out).mono ?_); rintro e w' ⟨rfl, ⟨nd, rfl⟩⟩) | (go_at_call 37; (with_reducible refine (address_Valid.calls a0_3 a0_4 a0_5 true _ A50.out).mono ?_); rintro e w55 ⟨rfl, hb⟩; have n0_ := Aside0.mk (blk_below (g := gb138) (o := .cells #[.int .i64 a0_0, .int .i64 a0_1, .int .i64 a0_2, .int .i64 a0_3, .int .i64 a0_4, .int .i64 a0_5, .int .i64 a0_6, .int .i64 a0_7, .int .i64 a0_8] 27 (0, 0)) (by (with_reducible repeat (first | refine blk_drewN ?_ _ | refine blk_drew ?_ | refine blk_alloc ?_ _)); exact BK138.out) hb); have n1_ := Aside0.mk (below_step (by repeat (first | (with_reducible first | exact HB.out | apply below_alloc | apply pw_below_drewN | apply below_drew1 | refine below_set ?_ GE138.out) | exact HB.out)) hb); clear BK138; clear HB; have BK138 := n0_; have HB := n1_; clear n0_ n1_; (try clear hb); (try clear hb2); (try clear hk); (try clear hi); have hcz56_0 : w55.cell? ⟨gb138, 0, none⟩ = some (.int .i64 a0_0) := (blk_cell BK138.out 0).trans rfl; have hcz56_1 : w55.cell? ⟨gb138, 1, none⟩ = some (.int .i64 a0_1) := (blk_cell BK138.out 1).trans rfl; have hcz56_2 : w55.cell? ⟨gb138, 2, none⟩ = some (.int .i64 a0_2) := (blk_cell BK138.out 2).trans rfl; have hcz56_3 : w55.cell? ⟨gb138, 3, none⟩ = some (.int .i64 a0_3) := (blk_cell BK138.out 3).trans rfl; have hcz56_4 : w55.cell? ⟨gb138, 4, none⟩ = some (.int .i64 a0_4) := (blk_cell BK138.out 4).trans rfl; have hcz56_5 : w55.cell? ⟨gb138, 5, none⟩ = some (.int .i64 a0_5) := (blk_cell BK138.out 5).trans rfl; have hcz56_6 : w55.cell? ⟨gb138, 6, none⟩ = some (.int .i64 a0_6) := (blk_cell BK138.out 6).trans rfl; have hcz56_7 : w55.cell? ⟨gb138, 7, none⟩ = some (.int .i64 a0_7) := (blk_cell BK138.out 7).trans rfl; have hcz56_8 : w55.cell? ⟨gb138, 8, none⟩ = some (.int .i64 a0_8) := (blk_cell BK138.out 8).trans rfl; have hfz56_0 := blk_frozen BK138.out 0; have hfz56_1 := blk_frozen BK138.out 1; have hfz56_2 := blk_frozen BK138.out 2; have hfz56_3 := blk_frozen BK138.out 3; have hfz56_4 := blk_frozen BK138.out 4; have hfz56_5 := blk_frozen BK138.out 5; have hfz56_6 := blk_frozen BK138.out 6; have hfz56_7 := blk_frozen BK138.out 7; have hfz56_8 := blk_frozen BK138.out 8) | (go_at_call 37; (with_reducible refine (address_Valid.calls a0_6 a0_7 a0_8 t152 _ A52.out).mono ?_); rintro e w57 ⟨rfl, hb⟩; have n0_ := Aside0.mk (blk_below (g := gb138) (o := .cells #[.int .i64 a0_0, .int .i64 a0_1, .int .i64 a0_2, .int .i64 a0_3, .int .i64 a0_4, .int .i64 a0_5, .int .i64 a0_6, .int .i64 a0_7, .int .i64 a0_8] 27 (0, 0)) (by (with_reducible repeat (first | refine blk_drewN ?_ _ | refine blk_drew ?_ | refine blk_alloc ?_ _)); exact BK138.out) hb); have n1_ := Aside0.mk (below_step (by repeat (first | (with_reducible first | exact HB.out | apply below_alloc | apply pw_below_drewN | apply below_drew1 | refine below_set ?_ GE138.out) | exact HB.out)) hb); clear BK138; clear HB; have BK138 := n0_; have HB := n1_; clear n0_ n1_; (try clear hb); (try clear hb2); (try clear hk); (try clear hi)))
             go_ret
             exact ⟨by first | rfl | (simp [errW_none, errW_some] <;> rfl) | (simp [*, errW_none, errW_some] <;> rfl), by repeat (first | (with_reducible first | exact HB.out | apply below_alloc | apply pw_below_drewN | apply below_drew1 | refine below_set ?_ GE138.out) | exact HB.out)⟩
           · replace c51 := Bool.eq_false_iff.mpr c51
             subst c51
             have H1 : (some false) = some r := by rw [if_neg (show ¬ (false = true) by decide)] at H; exact H
             clear H
             have H := H1
             clear H1
             obtain rfl := Option.some.inj H
             go_enter Try.func39, Try.ntmps39
             go_wp2_with (first | ((with_reducible refine gate_dst (N := 1) rfl ?_); refine box_event ?hg (N := 1) ?hd (cs := #[.int .i64 a0_0, .int .i64 a0_1, .int .i64 a0_2, .int .i64 a0_3, .int .i64 a0_4, .int .i64 a0_5, .int .i64 a0_6, .int .i64 a0_7, .int .i64 a0_8]) (t := 27) ?hr ?_; (case hd => rfl); (case hg => rfl); (case hr => first | (go_simp; done) | (go_simp; rfl)); intro gb138 hg w58 hbox hb; have n0_ := Aside0.mk (below_step (by repeat (first | (with_reducible first | exact HB.out | apply below_alloc | apply pw_below_drewN | apply below_drew1) | exact HB.out)) hb); have n1_ := Aside0.mk (hbox); have n2_ := Aside0.mk ((by rw [hg]; exact (below_size (by repeat (first | (with_reducible first | exact HB.out | apply below_alloc | apply pw_below_drewN | apply below_drew1) | exact HB.out))) : w.heap.size ≤ gb138)); have n3_ := Aside0.mk ((by rw [hg]; exact (below_size (by repeat (first | (with_reducible first | exact HB.out | apply below_alloc | apply pw_below_drewN | apply below_drew1) | exact HB.out))) : w.heap.size ≤ gb138)); clear HB; have HB := n0_; have BK138 := n1_; have GW138 := n2_; have GE138 := n3_; clear n0_ n1_ n2_ n3_; clear hb hbox hg; have hcz59_0 : w58.cell? ⟨gb138, 0, none⟩ = some (.int .i64 a0_0) := (blk_cell BK138.out 0).trans rfl; have hcz59_1 : w58.cell? ⟨gb138, 1, none⟩ = some (.int .i64 a0_1) := (blk_cell BK138.out 1).trans rfl; have hcz59_2 : w58.cell? ⟨gb138, 2, none⟩ = some (.int .i64 a0_2) := (blk_cell BK138.out 2).trans rfl; have hcz59_3 : w58.cell? ⟨gb138, 3, none⟩ = some (.int .i64 a0_3) := (blk_cell BK138.out 3).trans rfl; have hcz59_4 : w58.cell? ⟨gb138, 4, none⟩ = some (.int .i64 a0_4) := (blk_cell BK138.out 4).trans rfl; have hcz59_5 : w58.cell? ⟨gb138, 5, none⟩ = some (.int .i64 a0_5) := (blk_cell BK138.out 5).trans rfl; have hcz59_6 : w58.cell? ⟨gb138, 6, none⟩ = some (.int .i64 a0_6) := (blk_cell BK138.out 6).trans rfl; have hcz59_7 : w58.cell? ⟨gb138, 7, none⟩ = some (.int .i64 a0_7) := (blk_cell BK138.out 7).trans rfl; have hcz59_8 : w58.cell? ⟨gb138, 8, none⟩ = some (.int .i64 a0_8) := (blk_cell BK138.out 8).trans rfl; have hfz59_0 := blk_frozen BK138.out 0; have hfz59_1 := blk_frozen BK138.out 1; have hfz59_2 := blk_frozen BK138.out 2; have hfz59_3 := blk_frozen BK138.out 3; have hfz59_4 := blk_frozen BK138.out 4; have hfz59_5 := blk_frozen BK138.out 5; have hfz59_6 := blk_frozen BK138.out 6; have hfz59_7 := blk_frozen BK138.out 7; have hfz59_8 := blk_frozen BK138.out 8) | ((with_reducible refine gate_callee (f := 26) rfl ?_); refine goesL_ (some 5) rfl rfl Try.func26 (by kernel_rfl) rfl #[.int .i64 a0_0, .int .i64 0, .int .i64 15] rfl (by (try simp only [List.map_toArray, List.map_cons, List.map_nil]); first | done | rfl | (simp only [List.length_drop, List.length_take]; rfl)) ?_; (with_reducible refine (subchannel_between.calls a0_0 0 15 true _ A2.out).mono ?_); rintro e w' ⟨rfl, ⟨nd, rfl⟩⟩; refine ⟨_, rfl, ?_⟩) | (go_at_call 26; (with_reducible refine (subchannel_between.calls a0_1 0 99 false _ A4.out).mono ?_); rintro e w' ⟨rfl, ⟨nd, rfl⟩⟩) | (go_at_call 26; (with_reducible refine (subchannel_between.calls a0_2 0 99 false _ A35.out).mono ?_); rintro e w' ⟨rfl, ⟨nd, rfl⟩⟩) | (go_at_call 26; (with_reducible refine (subchannel_between.calls a0_2 160 162 true _ A48.out).mono ?_); rintro e w' ⟨rfl, ⟨nd, rfl⟩⟩) | (go_at_call 37; (with_reducible refine (address_Valid.calls a0_3 a0_4 a0_5 false _ A50.out).mono ?_); rintro e w60 ⟨rfl, hb⟩; have n0_ := Aside0.mk (blk_below (g := gb138) (o := .cells #[.int .i64 a0_0, .int .i64 a0_1, .int .i64 a0_2, .int .i64 a0_3, .int .i64 a0_4, .int .i64 a0_5, .int .i64 a0_6, .int .i64 a0_7, .int .i64 a0_8] 27 (0, 0)) (by (with_reducible repeat (first | refine blk_drewN ?_ _ | refine blk_drew ?_ | refine blk_alloc ?_ _)); exact BK138.out) hb); have n1_ := Aside0.mk (below_step (by repeat (first | (with_reducible first | exact HB.out | apply below_alloc | apply pw_below_drewN | apply below_drew1 | refine below_set ?_ GE138.out) | exact HB.out)) hb); clear BK138; clear HB; have BK138 := n0_; have HB := n1_; clear n0_ n1_; (try clear hb); (try clear hb2); (try clear hk); (try clear hi)))
             go_ret
             exact ⟨by first | rfl | (simp [errW_none, errW_some] <;> rfl) | (simp [*, errW_none, errW_some] <;> rfl), by repeat (first | (with_reducible first | exact HB.out | apply below_alloc | apply pw_below_drewN | apply below_drew1 | refine below_set ?_ GE138.out) | exact HB.out)⟩
         · replace c49 := Bool.eq_false_iff.mpr c49
           subst c49
           have H1 : (some false) = some r := by rw [if_neg (show ¬ (false = true) by decide)] at H; exact H
           clear H
           have H := H1
           clear H1
           obtain rfl := Option.some.inj H
           go_enter Try.func39, Try.ntmps39
           go_wp2_with (first | ((with_reducible refine gate_dst (N := 1) rfl ?_); refine box_event ?hg (N := 1) ?hd (cs := #[.int .i64 a0_0, .int .i64 a0_1, .int .i64 a0_2, .int .i64 a0_3, .int .i64 a0_4, .int .i64 a0_5, .int .i64 a0_6, .int .i64 a0_7, .int .i64 a0_8]) (t := 27) ?hr ?_; (case hd => rfl); (case hg => rfl); (case hr => first | (go_simp; done) | (go_simp; rfl)); intro gb138 hg w61 hbox hb; have n0_ := Aside0.mk (below_step (by repeat (first | (with_reducible first | exact HB.out | apply below_alloc | apply pw_below_drewN | apply below_drew1) | exact HB.out)) hb); have n1_ := Aside0.mk (hbox); have n2_ := Aside0.mk ((by rw [hg]; exact (below_size (by repeat (first | (with_reducible first | exact HB.out | apply below_alloc | apply pw_below_drewN | apply below_drew1) | exact HB.out))) : w.heap.size ≤ gb138)); have n3_ := Aside0.mk ((by rw [hg]; exact (below_size (by repeat (first | (with_reducible first | exact HB.out | apply below_alloc | apply pw_below_drewN | apply below_drew1) | exact HB.out))) : w.heap.size ≤ gb138)); clear HB; have HB := n0_; have BK138 := n1_; have GW138 := n2_; have GE138 := n3_; clear n0_ n1_ n2_ n3_; clear hb hbox hg; have hcz62_0 : w61.cell? ⟨gb138, 0, none⟩ = some (.int .i64 a0_0) := (blk_cell BK138.out 0).trans rfl; have hcz62_1 : w61.cell? ⟨gb138, 1, none⟩ = some (.int .i64 a0_1) := (blk_cell BK138.out 1).trans rfl; have hcz62_2 : w61.cell? ⟨gb138, 2, none⟩ = some (.int .i64 a0_2) := (blk_cell BK138.out 2).trans rfl; have hcz62_3 : w61.cell? ⟨gb138, 3, none⟩ = some (.int .i64 a0_3) := (blk_cell BK138.out 3).trans rfl; have hcz62_4 : w61.cell? ⟨gb138, 4, none⟩ = some (.int .i64 a0_4) := (blk_cell BK138.out 4).trans rfl; have hcz62_5 : w61.cell? ⟨gb138, 5, none⟩ = some (.int .i64 a0_5) := (blk_cell BK138.out 5).trans rfl; have hcz62_6 : w61.cell? ⟨gb138, 6, none⟩ = some (.int .i64 a0_6) := (blk_cell BK138.out 6).trans rfl; have hcz62_7 : w61.cell? ⟨gb138, 7, none⟩ = some (.int .i64 a0_7) := (blk_cell BK138.out 7).trans rfl; have hcz62_8 : w61.cell? ⟨gb138, 8, none⟩ = some (.int .i64 a0_8) := (blk_cell BK138.out 8).trans rfl; have hfz62_0 := blk_frozen BK138.out 0; have hfz62_1 := blk_frozen BK138.out 1; have hfz62_2 := blk_frozen BK138.out 2; have hfz62_3 := blk_frozen BK138.out 3; have hfz62_4 := blk_frozen BK138.out 4; have hfz62_5 := blk_frozen BK138.out 5; have hfz62_6 := blk_frozen BK138.out 6; have hfz62_7 := blk_frozen BK138.out 7; have hfz62_8 := blk_frozen BK138.out 8) | ((with_reducible refine gate_callee (f := 26) rfl ?_); refine goesL_ (some 5) rfl rfl Try.func26 (by kernel_rfl) rfl #[.int .i64 a0_0, .int .i64 0, .int .i64 15] rfl (by (try simp only [List.map_toArray, List.map_cons, List.map_nil]); first | done | rfl | (simp only [List.length_drop, List.length_take]; rfl)) ?_; (with_reducible refine (subchannel_between.calls a0_0 0 15 true _ A2.out).mono ?_); rintro e w' ⟨rfl, ⟨nd, rfl⟩⟩; refine ⟨_, rfl, ?_⟩) | (go_at_call 26; (with_reducible refine (subchannel_between.calls a0_1 0 99 false _ A4.out).mono ?_); rintro e w' ⟨rfl, ⟨nd, rfl⟩⟩) | (go_at_call 26; (with_reducible refine (subchannel_between.calls a0_2 0 99 false _ A35.out).mono ?_); rintro e w' ⟨rfl, ⟨nd, rfl⟩⟩) | (go_at_call 26; (with_reducible refine (subchannel_between.calls a0_2 160 162 false _ A48.out).mono ?_); rintro e w' ⟨rfl, ⟨nd, rfl⟩⟩))
           go_ret
           exact ⟨by first | rfl | (simp [errW_none, errW_some] <;> rfl) | (simp [*, errW_none, errW_some] <;> rfl), by repeat (first | (with_reducible first | exact HB.out | apply below_alloc | apply pw_below_drewN | apply below_drew1 | refine below_set ?_ GE138.out) | exact HB.out)⟩
     · rw [if_neg c34] at H
       have c34b0 : (a0_1 == 170) = false := beq_eq_false_iff_ne.mpr c34
       have c34b1 : (a0_1 != 170) = true := bne_iff_ne.mpr c34
       obtain rfl := Option.some.inj H
       go_enter Try.func39, Try.ntmps39
       go_wp2_with (first | ((with_reducible refine gate_dst (N := 1) rfl ?_); refine box_event ?hg (N := 1) ?hd (cs := #[.int .i64 a0_0, .int .i64 a0_1, .int .i64 a0_2, .int .i64 a0_3, .int .i64 a0_4, .int .i64 a0_5, .int .i64 a0_6, .int .i64 a0_7, .int .i64 a0_8]) (t := 27) ?hr ?_; (case hd => rfl); (case hg => rfl); (case hr => first | (go_simp; done) | (go_simp; rfl)); intro gb138 hg w63 hbox hb; have n0_ := Aside0.mk (below_step (by repeat (first | (with_reducible first | exact HB.out | apply below_alloc | apply pw_below_drewN | apply below_drew1) | exact HB.out)) hb); have n1_ := Aside0.mk (hbox); have n2_ := Aside0.mk ((by rw [hg]; exact (below_size (by repeat (first | (with_reducible first | exact HB.out | apply below_alloc | apply pw_below_drewN | apply below_drew1) | exact HB.out))) : w.heap.size ≤ gb138)); have n3_ := Aside0.mk ((by rw [hg]; exact (below_size (by repeat (first | (with_reducible first | exact HB.out | apply below_alloc | apply pw_below_drewN | apply below_drew1) | exact HB.out))) : w.heap.size ≤ gb138)); clear HB; have HB := n0_; have BK138 := n1_; have GW138 := n2_; have GE138 := n3_; clear n0_ n1_ n2_ n3_; clear hb hbox hg; have hcz64_0 : w63.cell? ⟨gb138, 0, none⟩ = some (.int .i64 a0_0) := (blk_cell BK138.out 0).trans rfl; have hcz64_1 : w63.cell? ⟨gb138, 1, none⟩ = some (.int .i64 a0_1) := (blk_cell BK138.out 1).trans rfl; have hcz64_2 : w63.cell? ⟨gb138, 2, none⟩ = some (.int .i64 a0_2) := (blk_cell BK138.out 2).trans rfl; have hcz64_3 : w63.cell? ⟨gb138, 3, none⟩ = some (.int .i64 a0_3) := (blk_cell BK138.out 3).trans rfl; have hcz64_4 : w63.cell? ⟨gb138, 4, none⟩ = some (.int .i64 a0_4) := (blk_cell BK138.out 4).trans rfl; have hcz64_5 : w63.cell? ⟨gb138, 5, none⟩ = some (.int .i64 a0_5) := (blk_cell BK138.out 5).trans rfl; have hcz64_6 : w63.cell? ⟨gb138, 6, none⟩ = some (.int .i64 a0_6) := (blk_cell BK138.out 6).trans rfl; have hcz64_7 : w63.cell? ⟨gb138, 7, none⟩ = some (.int .i64 a0_7) := (blk_cell BK138.out 7).trans rfl; have hcz64_8 : w63.cell? ⟨gb138, 8, none⟩ = some (.int .i64 a0_8) := (blk_cell BK138.out 8).trans rfl; have hfz64_0 := blk_frozen BK138.out 0; have hfz64_1 := blk_frozen BK138.out 1; have hfz64_2 := blk_frozen BK138.out 2; have hfz64_3 := blk_frozen BK138.out 3; have hfz64_4 := blk_frozen BK138.out 4; have hfz64_5 := blk_frozen BK138.out 5; have hfz64_6 := blk_frozen BK138.out 6; have hfz64_7 := blk_frozen BK138.out 7; have hfz64_8 := blk_frozen BK138.out 8) | ((with_reducible refine gate_callee (f := 26) rfl ?_); refine goesL_ (some 5) rfl rfl Try.func26 (by kernel_rfl) rfl #[.int .i64 a0_0, .int .i64 0, .int .i64 15] rfl (by (try simp only [List.map_toArray, List.map_cons, List.map_nil]); first | done | rfl | (simp only [List.length_drop, List.length_take]; rfl)) ?_; (with_reducible refine (subchannel_between.calls a0_0 0 15 true _ A2.out).mono ?_); rintro e w' ⟨rfl, ⟨nd, rfl⟩⟩; refine ⟨_, rfl, ?_⟩) | (go_at_call 26; (with_reducible refine (subchannel_between.calls a0_1 0 99 false _ A4.out).mono ?_); rintro e w' ⟨rfl, ⟨nd, rfl⟩⟩))
       go_ret
       exact ⟨by first | rfl | (simp [errW_none, errW_some] <;> rfl) | (simp [*, errW_none, errW_some] <;> rfl), by repeat (first | (with_reducible first | exact HB.out | apply below_alloc | apply pw_below_drewN | apply below_drew1 | refine below_set ?_ GE138.out) | exact HB.out)⟩
 · replace c3 := Bool.eq_false_iff.mpr c3
   subst c3
   have H1 : (some false) = some r := by rw [if_neg (show ¬ (false = true) by decide)] at H; exact H
   clear H
   have H := H1
   clear H1
   obtain rfl := Option.some.inj H
   go_enter Try.func39, Try.ntmps39
   go_wp2_with (first | ((with_reducible refine gate_dst (N := 1) rfl ?_); refine box_event ?hg (N := 1) ?hd (cs := #[.int .i64 a0_0, .int .i64 a0_1, .int .i64 a0_2, .int .i64 a0_3, .int .i64 a0_4, .int .i64 a0_5, .int .i64 a0_6, .int .i64 a0_7, .int .i64 a0_8]) (t := 27) ?hr ?_; (case hd => rfl); (case hg => rfl); (case hr => first | (go_simp; done) | (go_simp; rfl)); intro gb138 hg w65 hbox hb; have n0_ := Aside0.mk (below_step (by repeat (first | (with_reducible first | exact HB.out | apply below_alloc | apply pw_below_drewN | apply below_drew1) | exact HB.out)) hb); have n1_ := Aside0.mk (hbox); have n2_ := Aside0.mk ((by rw [hg]; exact (below_size (by repeat (first | (with_reducible first | exact HB.out | apply below_alloc | apply pw_below_drewN | apply below_drew1) | exact HB.out))) : w.heap.size ≤ gb138)); have n3_ := Aside0.mk ((by rw [hg]; exact (below_size (by repeat (first | (with_reducible first | exact HB.out | apply below_alloc | apply pw_below_drewN | apply below_drew1) | exact HB.out))) : w.heap.size ≤ gb138)); clear HB; have HB := n0_; have BK138 := n1_; have GW138 := n2_; have GE138 := n3_; clear n0_ n1_ n2_ n3_; clear hb hbox hg; have hcz66_0 : w65.cell? ⟨gb138, 0, none⟩ = some (.int .i64 a0_0) := (blk_cell BK138.out 0).trans rfl; have hcz66_1 : w65.cell? ⟨gb138, 1, none⟩ = some (.int .i64 a0_1) := (blk_cell BK138.out 1).trans rfl; have hcz66_2 : w65.cell? ⟨gb138, 2, none⟩ = some (.int .i64 a0_2) := (blk_cell BK138.out 2).trans rfl; have hcz66_3 : w65.cell? ⟨gb138, 3, none⟩ = some (.int .i64 a0_3) := (blk_cell BK138.out 3).trans rfl; have hcz66_4 : w65.cell? ⟨gb138, 4, none⟩ = some (.int .i64 a0_4) := (blk_cell BK138.out 4).trans rfl; have hcz66_5 : w65.cell? ⟨gb138, 5, none⟩ = some (.int .i64 a0_5) := (blk_cell BK138.out 5).trans rfl; have hcz66_6 : w65.cell? ⟨gb138, 6, none⟩ = some (.int .i64 a0_6) := (blk_cell BK138.out 6).trans rfl; have hcz66_7 : w65.cell? ⟨gb138, 7, none⟩ = some (.int .i64 a0_7) := (blk_cell BK138.out 7).trans rfl; have hcz66_8 : w65.cell? ⟨gb138, 8, none⟩ = some (.int .i64 a0_8) := (blk_cell BK138.out 8).trans rfl; have hfz66_0 := blk_frozen BK138.out 0; have hfz66_1 := blk_frozen BK138.out 1; have hfz66_2 := blk_frozen BK138.out 2; have hfz66_3 := blk_frozen BK138.out 3; have hfz66_4 := blk_frozen BK138.out 4; have hfz66_5 := blk_frozen BK138.out 5; have hfz66_6 := blk_frozen BK138.out 6; have hfz66_7 := blk_frozen BK138.out 7; have hfz66_8 := blk_frozen BK138.out 8) | ((with_reducible refine gate_callee (f := 26) rfl ?_); refine goesL_ (some 5) rfl rfl Try.func26 (by kernel_rfl) rfl #[.int .i64 a0_0, .int .i64 0, .int .i64 15] rfl (by (try simp only [List.map_toArray, List.map_cons, List.map_nil]); first | done | rfl | (simp only [List.length_drop, List.length_take]; rfl)) ?_; (with_reducible refine (subchannel_between.calls a0_0 0 15 false _ A2.out).mono ?_); rintro e w' ⟨rfl, ⟨nd, rfl⟩⟩; refine ⟨_, rfl, ?_⟩))
   go_ret
   exact ⟨by first | rfl | (simp [errW_none, errW_some] <;> rfl) | (simp [*, errW_none, errW_some] <;> rfl), by repeat (first | (with_reducible first | exact HB.out | apply below_alloc | apply pw_below_drewN | apply below_drew1 | refine below_set ?_ GE138.out) | exact HB.out)⟩
end Go.Proofs.Ytpmkibggmkibeaa.G
