/- Texts of one claim, merged by a program of this session; what is proved stands in the last of them. -/
import Derived.Test.YtpmkibggmkibeaaKc1
import Derived.Test.YtpmkibggmkibeaaKc4
namespace Go.Proofs.Ytpmkibggmkibeaa.G
open Go.RowKit Go.Proofs.YtpmkibggmkibeaaW.PrintWords Go.Proofs.YtpmkibggmkibeaaW.PrintLast Go.Proofs.YtpmkibggmkibeaaW.PrintMore
attribute [local go_sem] max2_int min2_int max_two min_two max_three min_three max_four min_four   -- for this text's walks alone
set_option linter.unusedVariables false
set_option linter.unusedSimpArgs false
def masterdiscref06_ToMSF.f (a0 : Int) : Option (Int × Int × Int × Int) := if a0 < (-150) then (some (0, 0, 0, 2)) else (if a0 > 449849 then (some (0, 0, 0, 2)) else (some (wrap64 (Int.tdiv (wrap64 (a0 + 150)) 4500), Int.tmod (wrap64 (Int.tdiv (wrap64 (a0 + 150)) 75)) 60, Int.tmod (wrap64 (a0 + 150)) 75, 0)))
set_option maxHeartbeats 8000000 in
set_option maxRecDepth 100000 in
theorem masterdiscref06_ToMSF.calls (a0 : Int) (r1 : Int) (r2 : Int) (r3 : Int) (r4 : Int) (w : World) (h : masterdiscref06_ToMSF.f a0 = some (r1, r2, r3, r4)) :
 Calls Try.prog 33 #[.int .i64 a0] w fun e w' => e = .returned (.tuple #[.agg #[.int .i64 r1, .int .i64 r2, .int .i64 r3], .int .i64 r4]) ∧ Below w.heap.size w w' := by
 have hu25 := Try.underlying25
 have HB := Aside0.mk (Below.refl w.heap.size w)
 have H : (if a0 < (-150) then (some (0, 0, 0, 2)) else (if a0 > 449849 then (some (0, 0, 0, 2)) else (some (wrap64 (Int.tdiv (wrap64 (a0 + 150)) 4500), Int.tmod (wrap64 (Int.tdiv (wrap64 (a0 + 150)) 75)) 60, Int.tmod (wrap64 (a0 + 150)) 75, 0)))) = some (r1, r2, r3, r4) := h
 clear h
 by_cases c2 : a0 < (-150)
 · rw [if_pos c2] at H
   have c2b0 : decide (a0 < (-150)) = true := decide_eq_true c2
   clear c2
   simp only [Option.some.injEq, Prod.mk.injEq] at H
   obtain ⟨rfl, rfl, rfl, rfl⟩ := H
   go_enter Try.func33, Try.ntmps33
   go_wp2_with (first | ((with_reducible refine gate_dst (N := 2) rfl ?_); refine box_event ?hg (N := 2) ?hd (cs := #[.int .i64 0, .int .i64 0, .int .i64 0]) (t := 25) ?hr ?_; (case hd => rfl); (case hg => rfl); (case hr => first | (go_simp; done) | (go_simp; rfl)); intro gb183 hg w3 hbox hb; have n0_ := Aside0.mk (below_step (by repeat (first | (with_reducible first | exact HB.out | apply below_alloc | apply pw_below_drewN | apply below_drew1) | exact HB.out)) hb); have n1_ := Aside0.mk (hbox); have n2_ := Aside0.mk ((by rw [hg]; exact (below_size (by repeat (first | (with_reducible first | exact HB.out | apply below_alloc | apply pw_below_drewN | apply below_drew1) | exact HB.out))) : w.heap.size ≤ gb183)); have n3_ := Aside0.mk ((by rw [hg]; exact (below_size (by repeat (first | (with_reducible first | exact HB.out | apply below_alloc | apply pw_below_drewN | apply below_drew1) | exact HB.out))) : w.heap.size ≤ gb183)); clear HB; have HB := n0_; have BK183 := n1_; have GW183 := n2_; have GE183 := n3_; clear n0_ n1_ n2_ n3_; clear hb hbox hg; obtain ⟨hcz4_0, hcz4_1, hcz4_2⟩ := cel3 BK183.out; obtain ⟨hfz4_0, hfz4_1, hfz4_2⟩ := frz3 BK183.out))
   refine bodyPost_ret (results_ct rfl _ _ gb183 25 #[.int .i64 0, .int .i64 0, .int .i64 0] (0, 0) _ rfl (by (with_reducible repeat (first | refine blk_drewN ?_ _ | refine blk_drew ?_ | refine blk_alloc ?_ _)); refine blk_put (cs := #[.int .i64 0, .int .i64 0, .int .i64 0]) ?_ 2 _ rfl; (with_reducible repeat (first | refine blk_drewN ?_ _ | refine blk_drew ?_ | refine blk_alloc ?_ _)); refine blk_put (cs := #[.int .i64 0, .int .i64 0, .int .i64 0]) ?_ 1 _ rfl; (with_reducible repeat (first | refine blk_drewN ?_ _ | refine blk_drew ?_ | refine blk_alloc ?_ _)); refine blk_put (cs := #[.int .i64 0, .int .i64 0, .int .i64 0]) ?_ 0 _ rfl; (with_reducible repeat (first | refine blk_drewN ?_ _ | refine blk_drew ?_ | refine blk_alloc ?_ _)); exact BK183.out) Try.underlying25 rfl (by kernel_rfl)) rfl ?_
   exact ⟨by first | rfl | (simp [errW_none, errW_some] <;> rfl) | (simp [*, errW_none, errW_some] <;> rfl), by repeat (first | (with_reducible first | exact HB.out | apply below_alloc | apply pw_below_drewN | apply below_drew1 | refine below_set ?_ GE183.out) | exact HB.out)⟩
 · rw [if_neg c2] at H
   have c2b0 : decide (a0 < (-150)) = false := decide_eq_false c2
   clear c2
   by_cases c5 : a0 > 449849
   · rw [if_pos c5] at H
     have c5b0 : decide (449849 < a0) = true := decide_eq_true c5
     clear c5
     simp only [Option.some.injEq, Prod.mk.injEq] at H
     obtain ⟨rfl, rfl, rfl, rfl⟩ := H
     go_enter Try.func33, Try.ntmps33
     go_wp2_with (first | ((with_reducible refine gate_dst (N := 2) rfl ?_); refine box_event ?hg (N := 2) ?hd (cs := #[.int .i64 0, .int .i64 0, .int .i64 0]) (t := 25) ?hr ?_; (case hd => rfl); (case hg => rfl); (case hr => first | (go_simp; done) | (go_simp; rfl)); intro gb183 hg w6 hbox hb; have n0_ := Aside0.mk (below_step (by repeat (first | (with_reducible first | exact HB.out | apply below_alloc | apply pw_below_drewN | apply below_drew1) | exact HB.out)) hb); have n1_ := Aside0.mk (hbox); have n2_ := Aside0.mk ((by rw [hg]; exact (below_size (by repeat (first | (with_reducible first | exact HB.out | apply below_alloc | apply pw_below_drewN | apply below_drew1) | exact HB.out))) : w.heap.size ≤ gb183)); have n3_ := Aside0.mk ((by rw [hg]; exact (below_size (by repeat (first | (with_reducible first | exact HB.out | apply below_alloc | apply pw_below_drewN | apply below_drew1) | exact HB.out))) : w.heap.size ≤ gb183)); clear HB; have HB := n0_; have BK183 := n1_; have GW183 := n2_; have GE183 := n3_; clear n0_ n1_ n2_ n3_; clear hb hbox hg; obtain ⟨hcz7_0, hcz7_1, hcz7_2⟩ := cel3 BK183.out; obtain ⟨hfz7_0, hfz7_1, hfz7_2⟩ := frz3 BK183.out))
     refine bodyPost_ret (results_ct rfl _ _ gb183 25 #[.int .i64 0, .int .i64 0, .int .i64 0] (0, 0) _ rfl (by (with_reducible repeat (first | refine blk_drewN ?_ _ | refine blk_drew ?_ | refine blk_alloc ?_ _)); refine blk_put (cs := #[.int .i64 0, .int .i64 0, .int .i64 0]) ?_ 2 _ rfl; (with_reducible repeat (first | refine blk_drewN ?_ _ | refine blk_drew ?_ | refine blk_alloc ?_ _)); refine blk_put (cs := #[.int .i64 0, .int .i64 0, .int .i64 0]) ?_ 1 _ rfl; (with_reducible repeat (first | refine blk_drewN ?_ _ | refine blk_drew ?_ | refine blk_alloc ?_ _)); refine blk_put (cs := #[.int .i64 0, .int .i64 0, .int .i64 0]) ?_ 0 _ rfl; (with_reducible repeat (first | refine blk_drewN ?_ _ | refine blk_drew ?_ | refine blk_alloc ?_ _)); exact BK183.out) Try.underlying25 rfl (by kernel_rfl)) rfl ?_
     exact ⟨by first | rfl | (simp [errW_none, errW_some] <;> rfl) | (simp [*, errW_none, errW_some] <;> rfl), by repeat (first | (with_reducible first | exact HB.out | apply below_alloc | apply pw_below_drewN | apply below_drew1 | refine below_set ?_ GE183.out) | exact HB.out)⟩
   · rw [if_neg c5] at H
     have c5b0 : decide (449849 < a0) = false := decide_eq_false c5
     clear c5
     simp only [Option.some.injEq, Prod.mk.injEq] at H
     obtain ⟨rfl, rfl, rfl, rfl⟩ := H
     go_enter Try.func33, Try.ntmps33
     go_wp2_with (first | ((with_reducible refine gate_dst (N := 2) rfl ?_); refine box_event ?hg (N := 2) ?hd (cs := #[.int .i64 0, .int .i64 0, .int .i64 0]) (t := 25) ?hr ?_; (case hd => rfl); (case hg => rfl); (case hr => first | (go_simp; done) | (go_simp; rfl)); intro gb183 hg w8 hbox hb; have n0_ := Aside0.mk (below_step (by repeat (first | (with_reducible first | exact HB.out | apply below_alloc | apply pw_below_drewN | apply below_drew1) | exact HB.out)) hb); have n1_ := Aside0.mk (hbox); have n2_ := Aside0.mk ((by rw [hg]; exact (below_size (by repeat (first | (with_reducible first | exact HB.out | apply below_alloc | apply pw_below_drewN | apply below_drew1) | exact HB.out))) : w.heap.size ≤ gb183)); have n3_ := Aside0.mk ((by rw [hg]; exact (below_size (by repeat (first | (with_reducible first | exact HB.out | apply below_alloc | apply pw_below_drewN | apply below_drew1) | exact HB.out))) : w.heap.size ≤ gb183)); clear HB; have HB := n0_; have BK183 := n1_; have GW183 := n2_; have GE183 := n3_; clear n0_ n1_ n2_ n3_; clear hb hbox hg; obtain ⟨hcz9_0, hcz9_1, hcz9_2⟩ := cel3 BK183.out; obtain ⟨hfz9_0, hfz9_1, hfz9_2⟩ := frz3 BK183.out))
     refine bodyPost_ret (results_ct rfl _ _ gb183 25 #[.int .i64 (wrap64 (Int.tdiv (wrap64 (a0 + 150)) 4500)), .int .i64 (Int.tmod (wrap64 (Int.tdiv (wrap64 (a0 + 150)) 75)) 60), .int .i64 (Int.tmod (wrap64 (a0 + 150)) 75)] (0, 0) _ rfl (by (with_reducible repeat (first | refine blk_drewN ?_ _ | refine blk_drew ?_ | refine blk_alloc ?_ _)); refine blk_put (cs := #[.int .i64 (wrap64 (Int.tdiv (wrap64 (a0 + 150)) 4500)), .int .i64 (Int.tmod (wrap64 (Int.tdiv (wrap64 (a0 + 150)) 75)) 60), .int .i64 0]) ?_ 2 _ rfl; (with_reducible repeat (first | refine blk_drewN ?_ _ | refine blk_drew ?_ | refine blk_alloc ?_ _)); refine blk_put (cs := #[.int .i64 (wrap64 (Int.tdiv (wrap64 (a0 + 150)) 4500)), .int .i64 0, .int .i64 0]) ?_ 1 _ rfl; (with_reducible repeat (first | refine blk_drewN ?_ _ | refine blk_drew ?_ | refine blk_alloc ?_ _)); refine blk_put (cs := #[.int .i64 0, .int .i64 0, .int .i64 0]) ?_ 0 _ rfl; (with_reducible repeat (first | refine blk_drewN ?_ _ | refine blk_drew ?_ | refine blk_alloc ?_ _)); exact BK183.out) Try.underlying25 rfl (by kernel_rfl)) rfl ?_
     exact ⟨by first | rfl | (simp [errW_none, errW_some] <;> rfl) | (simp [*, errW_none, errW_some] <;> rfl), by repeat (first | (with_reducible first | exact HB.out | apply below_alloc | apply pw_below_drewN | apply below_drew1 | refine below_set ?_ GE183.out) | exact HB.out)⟩
end Go.Proofs.Ytpmkibggmkibeaa.G
namespace Go.Proofs.Ytpmkibggmkibeaa.G
open Go.RowKit Go.Proofs.YtpmkibggmkibeaaW.PrintWords Go.Proofs.YtpmkibggmkibeaaW.PrintLast Go.Proofs.YtpmkibggmkibeaaW.PrintMore
attribute [local go_sem] max2_int min2_int max_two min_two max_three min_three max_four min_four   -- for this text's walks alone
set_option linter.unusedVariables false
set_option linter.unusedSimpArgs false
def masterdiscref10_end.f (l0 : List (S53)) : Option (Int) := if 0 ≤ (wrap64 ((l0.length : Int) - 1)) then (if (wrap64 ((l0.length : Int) - 1)) < (l0.length : Int) then (some (wrap64 (((rd_T53 l0 (wrap64 ((l0.length : Int) - 1))).f2) + ((rd_T53 l0 (wrap64 ((l0.length : Int) - 1))).f3)))) else (none)) else (none)
set_option maxHeartbeats 8000000 in
set_option maxRecDepth 100000 in
theorem masterdiscref10_end.calls (A0 : Option Addr) (c0 : Nat) (l0 : List (S53)) (r : Int) (w : World) (hr0 : Kd.C k53 w A0 l0.length l0) (hc0 : l0.length ≤ c0) (h : masterdiscref10_end.f l0 = some r) :
 Calls Try.prog 35 #[.slice A0 l0.length c0] w fun e w' => e = .returned (.int .i64 r) ∧ Drawn0 w w' := by
 have HR0 := Aside0.mk hr0
 have HC0 := Aside0.mk hc0
 clear hr0 hc0
 have H : (if 0 ≤ (wrap64 ((l0.length : Int) - 1)) then (if (wrap64 ((l0.length : Int) - 1)) < (l0.length : Int) then (some (wrap64 (((rd_T53 l0 (wrap64 ((l0.length : Int) - 1))).f2) + ((rd_T53 l0 (wrap64 ((l0.length : Int) - 1))).f3)))) else (none)) else (none)) = some r := h
 clear h
 obtain ⟨ji2, hji2⟩ : ∃ j_ : Int, (wrap64 ((l0.length : Int) - 1)) = j_ := ⟨_, rfl⟩
 replace H : (if 0 ≤ (ji2) then (if (ji2) < (l0.length : Int) then (some (wrap64 (((rd_T53 l0 (ji2)).f2) + ((rd_T53 l0 (ji2)).f3)))) else (none)) else (none)) = some r := by first | (rw [hji2] at H; exact H) | (simp only [hji2] at H ⊢; exact H)
 have hji2w : (IntKind.i64.wrap ((l0.length : Int) - 1)) = ji2 := (i64_w _).trans hji2
 by_cases c3 : 0 ≤ (ji2)
 · rw [if_pos c3] at H
   have c3b0 : decide (0 ≤ (ji2)) = true := decide_eq_true c3
   clear c3
   by_cases c4 : (ji2) < (l0.length : Int)
   · rw [if_pos c4] at H
     have c4b0 : decide ((ji2) < (l0.length : Int)) = true := decide_eq_true c4
     clear c4
     obtain rfl := Option.some.inj H
     have p185 : 0 ≤ ((ji2) : Int) := of_decide_eq_true (by first | (with_reducible assumption) | assumption)
     have q185 : (ji2) < (l0.length : Int) := of_decide_eq_true (by first | (with_reducible assumption) | assumption)
     obtain ⟨ad185, e185, hx185_0, hx185_1, hx185_2, hx185_3, hx185_4, hx185_5, hx185_6⟩ := at_T53 HR0.out (ji2) p185 q185
     cases e185
     replace p185 := eq_true p185
     replace q185 := eq_true q185
     have p186 : 0 ≤ ((ji2) : Int) := of_decide_eq_true (by first | (with_reducible assumption) | assumption)
     have q186 : (ji2) < (l0.length : Int) := of_decide_eq_true (by first | (with_reducible assumption) | assumption)
     obtain ⟨ad186, e186, hx186_0, hx186_1, hx186_2, hx186_3, hx186_4, hx186_5, hx186_6⟩ := at_T53 HR0.out (ji2) p186 q186
     obtain rfl : ad185 = ad186 := (by injection e186)
     replace p186 := eq_true p186
     replace q186 := eq_true q186
     go_enter Try.func35, Try.ntmps35
     go_wp2
     repeat (go_quiet (fail); try go_wp2)
     go_ret
     exact ⟨by first | rfl | (simp; done) | (simp only [← hji2] <;> (first | rfl | simp)) | (simp [*]; done), by repeat (first | exact Drawn0.refl _ | apply Drawn0.step)⟩
   · rw [if_neg c4] at H
     exact absurd H (by simp)
 · rw [if_neg c3] at H
   exact absurd H (by simp)
end Go.Proofs.Ytpmkibggmkibeaa.G
namespace Go.Proofs.Ytpmkibggmkibeaa.G
open Go.RowKit Go.Proofs.YtpmkibggmkibeaaW.PrintWords Go.Proofs.YtpmkibggmkibeaaW.PrintLast Go.Proofs.YtpmkibggmkibeaaW.PrintMore
attribute [local go_sem] max2_int min2_int max_two min_two max_three min_three max_four min_four   -- for this text's walks alone
set_option linter.unusedVariables false
set_option linter.unusedSimpArgs false
mutual
def masterdiscref10_Entries.j0 : Nat → List (S53) → Int → Bool → Option ((List (S27)) × Int)
 | 0, _, _, _ => none
 | k + 1, x0, x1, x22 => if x22 = true then (some (([] : List (S27)), 1)) else ((masterdiscref10_end.f x0).bind fun t207 => ((masterdiscref06_ToMSF.f t207).bind fun bt208 => (if 0 < (x0.length : Int) then (if 0 ≤ (wrap64 ((x0.length : Int) - 1)) then (if (wrap64 ((x0.length : Int) - 1)) < (x0.length : Int) then (masterdiscref10_Entries.l0 k x0 x1 (([(⟨x1, 0, 160, (⟨0, 0, 0⟩ : S25), (⟨(rd_T53 x0 0).f0, 0, 0⟩ : S25)⟩ : S27), (⟨x1, 0, 161, (⟨0, 0, 0⟩ : S25), (⟨(rd_T53 x0 (wrap64 ((x0.length : Int) - 1))).f0, 0, 0⟩ : S25)⟩ : S27), (⟨x1, 0, 162, (⟨0, 0, 0⟩ : S25), (⟨bt208.1, bt208.2.1, bt208.2.2.1⟩ : S25)⟩ : S27)] : List (S27))) 0) else (none)) else (none)) else (none))))
def masterdiscref10_Entries.l0 : Nat → List (S53) → Int → List (S27) → Int → Option ((List (S27)) × Int)
 | 0, _, _, _, _ => none
 | k + 1, x0, x1, x8, x9 => if x9 < (x0.length : Int) then (if 0 ≤ x9 then ((masterdiscref06_ToMSF.f ((rd_T53 x0 x9).f2)).bind fun bt219 => (if x8.length < 1954687338268 then (masterdiscref10_Entries.l0 k x0 x1 (x8 ++ [(⟨x1, 0, (rd_T53 x0 x9).f0, (⟨0, 0, 0⟩ : S25), (⟨bt219.1, bt219.2.1, bt219.2.2.1⟩ : S25)⟩ : S27)]) (wrap64 (x9 + 1))) else (none))) else (none)) else (some (x8, 0))
end
def masterdiscref10_Entries.f (k : Nat) (l0 : List (S53)) (a1 : Int) : Option ((List (S27)) × Int) := (masterdiscref10_Session.f l0).bind fun t206 => (if t206 = true then (if a1 < 0 then (masterdiscref10_Entries.j0 k l0 a1 true) else (masterdiscref10_Entries.j0 k l0 a1 (decide (a1 > 15)))) else (masterdiscref10_Entries.j0 k l0 a1 true))
theorem masterdiscref10_Entries.mono_l : ∀ k, (∀ y0 y1 y2, LeO (masterdiscref10_Entries.j0 k y0 y1 y2) (masterdiscref10_Entries.j0 (k + 1) y0 y1 y2)) ∧ (∀ y0 y1 y2 y3, LeO (masterdiscref10_Entries.l0 k y0 y1 y2 y3) (masterdiscref10_Entries.l0 (k + 1) y0 y1 y2 y3))
 | 0 => ⟨fun _ _ _ r h => by simp [masterdiscref10_Entries.j0] at h, fun _ _ _ _ r h => by simp [masterdiscref10_Entries.l0] at h⟩
 | k + 1 => by
  obtain ⟨ih0, ih1⟩ := masterdiscref10_Entries.mono_l k
  refine ⟨?_, ?_⟩
  · intro y0 y1 y2
    unfold masterdiscref10_Entries.j0
    repeat' first
    | (with_reducible exact ih0 _ _ _)
    | (with_reducible exact ih1 _ _ _ _)
    | (with_reducible exact LeO.refl _)
    | (with_reducible exact LeO.none _)
    | (with_reducible refine LeO.ite ?_ ?_)
    | (with_reducible refine LeO.bind ?_ (fun _ => ?_))
    | exact ih0 _ _ _
    | exact ih1 _ _ _ _
    | exact LeO.none _
    | refine LeO.ite ?_ ?_
    | refine LeO.bind ?_ (fun _ => ?_)
  · intro y0 y1 y2 y3
    unfold masterdiscref10_Entries.l0
    repeat' first
    | (with_reducible exact ih0 _ _ _)
    | (with_reducible exact ih1 _ _ _ _)
    | (with_reducible exact LeO.refl _)
    | (with_reducible exact LeO.none _)
    | (with_reducible refine LeO.ite ?_ ?_)
    | (with_reducible refine LeO.bind ?_ (fun _ => ?_))
    | exact ih0 _ _ _
    | exact ih1 _ _ _ _
    | exact LeO.none _
    | refine LeO.ite ?_ ?_
    | refine LeO.bind ?_ (fun _ => ?_)
theorem masterdiscref10_Entries.mono : ∀ a0 a1 k, LeO (masterdiscref10_Entries.f k a0 a1) (masterdiscref10_Entries.f (k + 1) a0 a1) := by
 intro a0 a1 k
 obtain ⟨ih0, ih1⟩ := masterdiscref10_Entries.mono_l k
 unfold masterdiscref10_Entries.f
 repeat' first
  | (with_reducible exact ih0 _ _ _)
  | (with_reducible exact ih1 _ _ _ _)
  | (with_reducible exact LeO.refl _)
  | (with_reducible exact LeO.none _)
  | (with_reducible refine LeO.ite ?_ ?_)
  | (with_reducible refine LeO.bind ?_ (fun _ => ?_))
  | exact ih0 _ _ _
  | exact ih1 _ _ _ _
  | exact LeO.none _
  | refine LeO.ite ?_ ?_
  | refine LeO.bind ?_ (fun _ => ?_)
def masterdiscref10_Entries.T4 : Bool × List (List Nat × List Nat) := (true, [([], []), ([], []), ([1], [1]), ([2], [2]), ([3], [3]), ([4], [4]), ([0, 5], [0, 5]), ([], []), ([], []), ([], []), ([9], [9]), ([10], [10]), ([8, 11], [8, 11]), ([12], [12]), ([13], [13]), ([14], [14]), ([7, 15], [7, 15]), ([], []), ([], []), ([17, 18], [17, 18]), ([6, 16, 19], [6, 16, 19]), ([20, 0, 1, 2, 3, 4, 5, 6, 7, 8, 9, 10, 11, 12, 13, 14, 15, 16, 17, 18, 19, 20], [20])])
def masterdiscref10_Entries.B4 : List Nat := [0, 0, 2, 6, 14, 30, 63, 0, 0, 0, 512, 1536, 3840, 7936, 16128, 32512, 65408, 0, 0, 393216, 1048575, 2097151]
theorem masterdiscref10_Entries.tab4 : rtab .any (opsOf Try.f14 4) = masterdiscref10_Entries.T4 := by kernel_rfl
theorem masterdiscref10_Entries.bits4 : waitsOk masterdiscref10_Entries.T4.2 masterdiscref10_Entries.B4 = true := by kernel_rfl
def masterdiscref10_Entries.T9 : Bool × List (List Nat × List Nat) := (true, [([], []), ([], []), ([], []), ([], []), ([2, 3], [2, 3]), ([4], [4]), ([5], [5]), ([], []), ([1, 6, 7], [1, 6, 7]), ([8], [8]), ([0, 9], [0, 9]), ([10, 10, 0, 1, 2, 3, 4, 5, 6, 7, 8, 9, 10], [0, 10])])
def masterdiscref10_Entries.B9 : List Nat := [0, 0, 0, 0, 12, 28, 60, 0, 254, 510, 1023, 2047]
theorem masterdiscref10_Entries.tab9 : rtab .any (opsOf Try.f14 9) = masterdiscref10_Entries.T9 := by kernel_rfl
theorem masterdiscref10_Entries.bits9 : waitsOk masterdiscref10_Entries.T9.2 masterdiscref10_Entries.B9 = true := by kernel_rfl
set_option maxHeartbeats 8000000 in
set_option maxRecDepth 100000 in
theorem masterdiscref10_Entries.calls (k : Nat) (A0 : Option Addr) (c0 : Nat) (l0 : List (S53)) (a1 : Int) (r1 : List (S27)) (r2 : Int) (w : World) (hr0 : Kd.C k53 w A0 l0.length l0) (hc0 : l0.length ≤ c0) (h : masterdiscref10_Entries.f k l0 a1 = some (r1, r2)) :
 Calls Try.prog 14 #[.slice A0 l0.length c0, .int .i64 a1] w fun e w' => ∃ v0_ : Value, e = .returned (.tuple #[v0_, .int .i64 r2]) ∧ Kd.R k27 27 w' w.heap.size (fun _ => True) v0_ r1 ∧ Below w.heap.size w w' := by
 have hu25 := Try.underlying25
 have hu27 := Try.underlying27
 have HR0 := Aside0.mk hr0
 have HC0 := Aside0.mk hc0
 clear hr0 hc0
 have HB := Aside0.mk (Below.refl w.heap.size w)
 have H : ((masterdiscref10_Session.f l0).bind fun t206 => (if t206 = true then (if a1 < 0 then (masterdiscref10_Entries.j0 k l0 a1 true) else (masterdiscref10_Entries.j0 k l0 a1 (decide (a1 > 15)))) else (masterdiscref10_Entries.j0 k l0 a1 true))) = some (r1, r2) := h
 clear h
 have HC3 := Aside0.mk H
 clear H
 go_enter Try.func14, Try.ntmps14
 go_upto_region 1 with (fail)
 go_cut [22] (fun v22 wc => ∃ (kq : Nat) (x22_2 : Bool), v22 = .bool x22_2 ∧ Aside0 (masterdiscref10_Entries.j0 kq l0 a1 x22_2 = some (r1, r2)) ∧ Aside0 (kq ≤ k) ∧ Aside0 (Below w.heap.size w wc))
 case first =>
  have H := HC3.out
  clear HC3
  replace H := Option.bind_eq_some_iff.mp H
  obtain ⟨t206, A40, H⟩ := H
  replace H : (if t206 = true then (if a1 < 0 then (masterdiscref10_Entries.j0 k l0 a1 true) else (masterdiscref10_Entries.j0 k l0 a1 (decide (a1 > 15)))) else (masterdiscref10_Entries.j0 k l0 a1 true)) = some (r1, r2) := H
  have A4 := Aside0.mk A40
  clear A40
  by_cases c5 : t206 = true
  · subst c5
    have H1 : (if a1 < 0 then (masterdiscref10_Entries.j0 k l0 a1 true) else (masterdiscref10_Entries.j0 k l0 a1 (decide (a1 > 15)))) = some (r1, r2) := by rw [if_pos rfl] at H; exact H
    clear H
    have H := H1
    clear H1
    by_cases c6 : a1 < 0
    · rw [if_pos c6] at H
      have c6b0 : decide (a1 < 0) = true := decide_eq_true c6
      clear c6
      (first | rw [c6b0] | (simp only [i64_w, i32_w]; rw [c6b0]) | skip)
      have H' := Aside0.mk H
      clear H
      go_wp2_with (first | ((with_reducible refine gate_callee (f := 32) rfl ?_); refine goesL_ (some 13) rfl rfl Try.func32 (by kernel_rfl) rfl #[.slice A0 l0.length c0] rfl (by (try simp only [List.map_toArray, List.map_cons, List.map_nil]); first | done | rfl | (simp only [List.length_drop, List.length_take]; rfl)) ?_; (with_reducible refine (masterdiscref10_Session.calls _ _ l0 true _ ?side1 ?side2 A4.out).mono ?_); (case side1 => repeat (first | exact (Kd.C_below HR0.out HB.out) | (with_reducible refine Kd.C_alloc ?_ _) | (with_reducible refine Kd.C_drewN ?_ _) | (with_reducible refine Kd.C_drew ?_))); (case side2 => exact HC0.out); rintro e w7 ⟨rfl, hb⟩; refine ⟨_, rfl, ?_⟩; have n0_ := Aside0.mk (below_step (by repeat (first | (with_reducible first | exact HB.out | apply below_alloc | apply pw_below_drewN | apply below_drew1) | exact HB.out)) hb); clear HB; have HB := n0_; clear n0_; (try clear hb); (try clear hb2); (try clear hk); (try clear hi)))
      go_meet
      case rel => exact ⟨_, (true), (by first | rfl | (simp; done) | (simp [*]; done)), H', ⟨by first | omega | exact Nat.le_refl _⟩, ⟨by repeat (first | (with_reducible first | exact HB.out | apply below_alloc | apply pw_below_drewN | apply below_drew1) | exact HB.out)⟩⟩
    · rw [if_neg c6] at H
      have c6b0 : decide (a1 < 0) = false := decide_eq_false c6
      clear c6
      (first | rw [c6b0] | (simp only [i64_w, i32_w]; rw [c6b0]) | skip)
      have H' := Aside0.mk H
      clear H
      go_wp2_with (first | ((with_reducible refine gate_callee (f := 32) rfl ?_); refine goesL_ (some 13) rfl rfl Try.func32 (by kernel_rfl) rfl #[.slice A0 l0.length c0] rfl (by (try simp only [List.map_toArray, List.map_cons, List.map_nil]); first | done | rfl | (simp only [List.length_drop, List.length_take]; rfl)) ?_; (with_reducible refine (masterdiscref10_Session.calls _ _ l0 true _ ?side1 ?side2 A4.out).mono ?_); (case side1 => repeat (first | exact (Kd.C_below HR0.out HB.out) | (with_reducible refine Kd.C_alloc ?_ _) | (with_reducible refine Kd.C_drewN ?_ _) | (with_reducible refine Kd.C_drew ?_))); (case side2 => exact HC0.out); rintro e w8 ⟨rfl, hb⟩; refine ⟨_, rfl, ?_⟩; have n0_ := Aside0.mk (below_step (by repeat (first | (with_reducible first | exact HB.out | apply below_alloc | apply pw_below_drewN | apply below_drew1) | exact HB.out)) hb); clear HB; have HB := n0_; clear n0_; (try clear hb); (try clear hb2); (try clear hk); (try clear hi)))
      go_meet
      case rel => exact ⟨_, (decide (a1 > 15)), (by first | rfl | (simp; done) | (simp [*]; done)), H', ⟨by first | omega | exact Nat.le_refl _⟩, ⟨by repeat (first | (with_reducible first | exact HB.out | apply below_alloc | apply pw_below_drewN | apply below_drew1) | exact HB.out)⟩⟩
  · replace c5 := Bool.eq_false_iff.mpr c5
    subst c5
    have H1 : (masterdiscref10_Entries.j0 k l0 a1 true) = some (r1, r2) := by rw [if_neg (show ¬ (false = true) by decide)] at H; exact H
    clear H
    have H := H1
    clear H1
    have H' := Aside0.mk H
    clear H
    go_wp2_with (first | ((with_reducible refine gate_callee (f := 32) rfl ?_); refine goesL_ (some 13) rfl rfl Try.func32 (by kernel_rfl) rfl #[.slice A0 l0.length c0] rfl (by (try simp only [List.map_toArray, List.map_cons, List.map_nil]); first | done | rfl | (simp only [List.length_drop, List.length_take]; rfl)) ?_; (with_reducible refine (masterdiscref10_Session.calls _ _ l0 false _ ?side1 ?side2 A4.out).mono ?_); (case side1 => repeat (first | exact (Kd.C_below HR0.out HB.out) | (with_reducible refine Kd.C_alloc ?_ _) | (with_reducible refine Kd.C_drewN ?_ _) | (with_reducible refine Kd.C_drew ?_))); (case side2 => exact HC0.out); rintro e w9 ⟨rfl, hb⟩; refine ⟨_, rfl, ?_⟩; have n0_ := Aside0.mk (below_step (by repeat (first | (with_reducible first | exact HB.out | apply below_alloc | apply pw_below_drewN | apply below_drew1) | exact HB.out)) hb); clear HB; have HB := n0_; clear n0_; (try clear hb); (try clear hb2); (try clear hk); (try clear hi)))
    go_meet
    case rel => exact ⟨_, (true), (by first | rfl | (simp; done) | (simp [*]; done)), H', ⟨by first | omega | exact Nat.le_refl _⟩, ⟨by repeat (first | (with_reducible first | exact HB.out | apply below_alloc | apply pw_below_drewN | apply below_drew1) | exact HB.out)⟩⟩
 case rest =>
  clear HC3
  try clear c1
  try clear p2
  try clear c3
  try clear c5
  try clear c6
  try clear c6b0
  obtain ⟨kq, x22_2, rfl, HA, HJ2, HB⟩ := hcut
  cases kq with
  | zero => exact absurd HA.out (by simp [masterdiscref10_Entries.j0])
  | succ kj2 =>
   have H := HA.out
   clear HA
   simp only [masterdiscref10_Entries.j0] at H
   by_cases c10 : x22_2 = true
   · subst c10
     have H1 : (some (([] : List (S27)), 1)) = some (r1, r2) := by rw [if_pos rfl] at H; exact H
     clear H
     have H := H1
     clear H1
     simp only [Option.some.injEq, Prod.mk.injEq] at H
     obtain ⟨rfl, rfl⟩ := H
     go_wp2
     go_ret2
     exact ⟨_, by first | rfl | (simp [errW_none, errW_some] <;> rfl) | (simp [*, errW_none, errW_some] <;> rfl), by first | exact Kd.R_nil _ _ _ _ _ | exact Kd.N_nil _ _ _ _ _ | exact Kd.V_nil _ _ _ _ _ | exact Kd.Q_nil _ _ _ _ _ | exact Kd.S_nil _ _ _ _ _, by repeat (first | (with_reducible first | exact HB.out | apply below_alloc | apply pw_below_drewN | apply below_drew1) | exact HB.out)⟩
   · replace c10 := Bool.eq_false_iff.mpr c10
     subst c10
     have H1 : ((masterdiscref10_end.f l0).bind fun t207 => ((masterdiscref06_ToMSF.f t207).bind fun bt208 => (if 0 < (l0.length : Int) then (if 0 ≤ (wrap64 ((l0.length : Int) - 1)) then (if (wrap64 ((l0.length : Int) - 1)) < (l0.length : Int) then (masterdiscref10_Entries.l0 kj2 l0 a1 (([(⟨a1, 0, 160, (⟨0, 0, 0⟩ : S25), (⟨(rd_T53 l0 0).f0, 0, 0⟩ : S25)⟩ : S27), (⟨a1, 0, 161, (⟨0, 0, 0⟩ : S25), (⟨(rd_T53 l0 (wrap64 ((l0.length : Int) - 1))).f0, 0, 0⟩ : S25)⟩ : S27), (⟨a1, 0, 162, (⟨0, 0, 0⟩ : S25), (⟨bt208.1, bt208.2.1, bt208.2.2.1⟩ : S25)⟩ : S27)] : List (S27))) 0) else (none)) else (none)) else (none)))) = some (r1, r2) := by rw [if_neg (show ¬ (false = true) by decide)] at H; exact H
     clear H
     have H := H1
     clear H1
     replace H := Option.bind_eq_some_iff.mp H
     obtain ⟨t207, A110, H⟩ := H
     replace H : ((masterdiscref06_ToMSF.f t207).bind fun bt208 => (if 0 < (l0.length : Int) then (if 0 ≤ (wrap64 ((l0.length : Int) - 1)) then (if (wrap64 ((l0.length : Int) - 1)) < (l0.length : Int) then (masterdiscref10_Entries.l0 kj2 l0 a1 (([(⟨a1, 0, 160, (⟨0, 0, 0⟩ : S25), (⟨(rd_T53 l0 0).f0, 0, 0⟩ : S25)⟩ : S27), (⟨a1, 0, 161, (⟨0, 0, 0⟩ : S25), (⟨(rd_T53 l0 (wrap64 ((l0.length : Int) - 1))).f0, 0, 0⟩ : S25)⟩ : S27), (⟨a1, 0, 162, (⟨0, 0, 0⟩ : S25), (⟨bt208.1, bt208.2.1, bt208.2.2.1⟩ : S25)⟩ : S27)] : List (S27))) 0) else (none)) else (none)) else (none))) = some (r1, r2) := H
     have A11 := Aside0.mk A110
     clear A110
     replace H := Option.bind_eq_some_iff.mp H
     obtain ⟨⟨t208, t209, t210, t211⟩, A120, H⟩ := H
     replace H : (if 0 < (l0.length : Int) then (if 0 ≤ (wrap64 ((l0.length : Int) - 1)) then (if (wrap64 ((l0.length : Int) - 1)) < (l0.length : Int) then (masterdiscref10_Entries.l0 kj2 l0 a1 (([(⟨a1, 0, 160, (⟨0, 0, 0⟩ : S25), (⟨(rd_T53 l0 0).f0, 0, 0⟩ : S25)⟩ : S27), (⟨a1, 0, 161, (⟨0, 0, 0⟩ : S25), (⟨(rd_T53 l0 (wrap64 ((l0.length : Int) - 1))).f0, 0, 0⟩ : S25)⟩ : S27), (⟨a1, 0, 162, (⟨0, 0, 0⟩ : S25), (⟨t208, t209, t210⟩ : S25)⟩ : S27)] : List (S27))) 0) else (none)) else (none)) else (none)) = some (r1, r2) := H
     have A12 := Aside0.mk A120
     clear A120
     by_cases c13 : 0 < (l0.length : Int)
     · rw [if_pos c13] at H
       have c13b0 : decide (0 < (l0.length : Int)) = true := decide_eq_true c13
       have c13b1 : decide (0 < l0.length) = true := decide_eq_true (by omega)
       clear c13
       obtain ⟨ji14, hji14⟩ : ∃ j_ : Int, (wrap64 ((l0.length : Int) - 1)) = j_ := ⟨_, rfl⟩
       replace H : (if 0 ≤ (ji14) then (if (ji14) < (l0.length : Int) then (masterdiscref10_Entries.l0 kj2 l0 a1 (([(⟨a1, 0, 160, (⟨0, 0, 0⟩ : S25), (⟨(rd_T53 l0 0).f0, 0, 0⟩ : S25)⟩ : S27), (⟨a1, 0, 161, (⟨0, 0, 0⟩ : S25), (⟨(rd_T53 l0 (ji14)).f0, 0, 0⟩ : S25)⟩ : S27), (⟨a1, 0, 162, (⟨0, 0, 0⟩ : S25), (⟨t208, t209, t210⟩ : S25)⟩ : S27)] : List (S27))) 0) else (none)) else (none)) = some (r1, r2) := by first | (rw [hji14] at H; exact H) | (simp only [hji14] at H ⊢; exact H)
       (try rw [hji14] at A11)
       (try rw [hji14] at A12)
       have hji14w : (IntKind.i64.wrap ((l0.length : Int) - 1)) = ji14 := (i64_w _).trans hji14
       by_cases c15 : 0 ≤ (ji14)
       · rw [if_pos c15] at H
         have c15b0 : decide (0 ≤ (ji14)) = true := decide_eq_true c15
         clear c15
         by_cases c16 : (ji14) < (l0.length : Int)
         · rw [if_pos c16] at H
           have c16b0 : decide ((ji14) < (l0.length : Int)) = true := decide_eq_true c16
           clear c16
           obtain ⟨y215, hy215⟩ : ∃ y_ : List (S27), y_ = (([(⟨a1, 0, 160, (⟨0, 0, 0⟩ : S25), (⟨(rd_T53 l0 0).f0, 0, 0⟩ : S25)⟩ : S27), (⟨a1, 0, 161, (⟨0, 0, 0⟩ : S25), (⟨(rd_T53 l0 (ji14)).f0, 0, 0⟩ : S25)⟩ : S27), (⟨a1, 0, 162, (⟨0, 0, 0⟩ : S25), (⟨t208, t209, t210⟩ : S25)⟩ : S27)] : List (S27))) := ⟨_, rfl⟩
           replace H : (masterdiscref10_Entries.l0 kj2 l0 a1 y215 0) = some (r1, r2) := by first | (rw [hy215]; with_reducible exact H) | (have H2_ := (Option.bind_some _ _).symm.trans H; rw [hy215]; with_reducible exact H2_) | (have H2_ := (Option.bind_some _ _).symm.trans H; with_reducible exact H2_) | with_reducible exact H | (rw [hy215]; exact H) | exact H
           have Ny215 := Aside0.mk hy215
           clear hy215
           have H' := Aside0.mk H
           clear H
           try go_wp2_with (first | ((with_reducible refine gate_callee (f := 35) rfl ?_); refine goesL_ (some 25) rfl rfl Try.func35 (by kernel_rfl) rfl #[.slice A0 l0.length c0] rfl (by (try simp only [List.map_toArray, List.map_cons, List.map_nil]); first | done | rfl | (simp only [List.length_drop, List.length_take]; rfl)) ?_; (with_reducible refine (masterdiscref10_end.calls _ _ l0 t207 _ ?side1 ?side2 A11.out).mono ?_); (case side1 => repeat (first | exact (Kd.C_below HR0.out HB.out) | (with_reducible refine Kd.C_alloc ?_ _) | (with_reducible refine Kd.C_drewN ?_ _) | (with_reducible refine Kd.C_drew ?_))); (case side2 => exact HC0.out); rintro e w' ⟨rfl, ⟨nd, rfl⟩⟩; refine ⟨_, rfl, ?_⟩; (try (rw [drewN_self wc]; generalize hq_ : World.drewN wc _ = wc; have n0_ : Aside0 (Below w.heap.size w wc) := ⟨by rw [← hq_]; exact (by repeat (first | (with_reducible first | exact HB.out | apply below_alloc | apply pw_below_drewN | apply below_drew1) | exact HB.out))⟩; clear HB hq_; have HB := n0_; clear n0_))) | ((with_reducible refine gate_callee (f := 33) rfl ?_); refine goesL_ (some 26) rfl rfl Try.func33 (by kernel_rfl) rfl #[.int .i64 t207] rfl (by (try simp only [List.map_toArray, List.map_cons, List.map_nil]); first | done | rfl | (simp only [List.length_drop, List.length_take]; rfl)) ?_; (with_reducible refine (masterdiscref06_ToMSF.calls t207 t208 t209 t210 t211 _ A12.out).mono ?_); rintro e w17 ⟨rfl, hb⟩; refine ⟨_, rfl, ?_⟩; have n0_ := Aside0.mk (below_step (by repeat (first | (with_reducible first | exact HB.out | apply below_alloc | apply pw_below_drewN | apply below_drew1) | exact HB.out)) hb); clear HB; have HB := n0_; clear n0_; (try clear hb); (try clear hb2); (try clear hk); (try clear hi)) | ((with_reducible refine gate_dst (N := 6) rfl ?_); refine box_event ?hg (N := 6) ?hd (cs := #[.int .i64 0, .int .i64 0, .int .i64 0]) (t := 25) ?hr ?_; (case hd => rfl); (case hg => rfl); (case hr => first | (go_simp; done) | (go_simp; rfl)); intro gb212 hg w18 hbox hb; have n0_ := Aside0.mk (below_step (by repeat (first | (with_reducible first | exact HB.out | apply below_alloc | apply pw_below_drewN | apply below_drew1) | exact HB.out)) hb); have n1_ := Aside0.mk (hbox); have n2_ := Aside0.mk ((by rw [hg]; exact (below_size (by repeat (first | (with_reducible first | exact HB.out | apply below_alloc | apply pw_below_drewN | apply below_drew1) | exact HB.out))) : w.heap.size ≤ gb212)); have n3_ := Aside0.mk ((by rw [hg]; exact (below_size (by repeat (first | (with_reducible first | exact HB.out | apply below_alloc | apply pw_below_drewN | apply below_drew1) | exact HB.out))) : w.heap.size ≤ gb212)); clear HB; have HB := n0_; have BK212 := n1_; have GW212 := n2_; have GE212 := n3_; clear n0_ n1_ n2_ n3_; clear hb hbox hg; obtain ⟨hcz19_0, hcz19_1, hcz19_2⟩ := cel3 BK212.out; obtain ⟨hfz19_0, hfz19_1, hfz19_2⟩ := frz3 BK212.out))
           have n0_ : Aside0 ((((w18.setCell ⟨gb212, 0, none⟩ (.int .i64 t208)).setCell ⟨gb212, 1, none⟩ (.int .i64 t209)).setCell ⟨gb212, 2, none⟩ (.int .i64 t210)).heap[gb212]? = some (.cells #[.int .i64 t208, .int .i64 t209, .int .i64 t210] 25 (0, 0))) := ⟨by (with_reducible repeat (first | refine blk_drewN ?_ _ | refine blk_drew ?_ | refine blk_alloc ?_ _)); refine blk_put (cs := #[.int .i64 t208, .int .i64 t209, .int .i64 0]) ?_ 2 _ rfl; (with_reducible repeat (first | refine blk_drewN ?_ _ | refine blk_drew ?_ | refine blk_alloc ?_ _)); refine blk_put (cs := #[.int .i64 t208, .int .i64 0, .int .i64 0]) ?_ 1 _ rfl; (with_reducible repeat (first | refine blk_drewN ?_ _ | refine blk_drew ?_ | refine blk_alloc ?_ _)); refine blk_put (cs := #[.int .i64 0, .int .i64 0, .int .i64 0]) ?_ 0 _ rfl; (with_reducible repeat (first | refine blk_drewN ?_ _ | refine blk_drew ?_ | refine blk_alloc ?_ _)); exact BK212.out⟩
           have n1_ : Aside0 (Below w.heap.size w (((w18.setCell ⟨gb212, 0, none⟩ (.int .i64 t208)).setCell ⟨gb212, 1, none⟩ (.int .i64 t209)).setCell ⟨gb212, 2, none⟩ (.int .i64 t210))) := ⟨by repeat (first | (with_reducible first | exact HB.out | apply below_alloc | apply pw_below_drewN | apply below_drew1 | refine below_set ?_ GE212.out) | exact HB.out)⟩
           (try clear BK212)
           (try clear HB)
           generalize (((w18.setCell ⟨gb212, 0, none⟩ (.int .i64 t208)).setCell ⟨gb212, 1, none⟩ (.int .i64 t209)).setCell ⟨gb212, 2, none⟩ (.int .i64 t210)) = w20 at n0_ n1_ ⊢
           have BK212 := n0_
           have HB := n1_
           clear n0_ n1_
           have n0_ := Aside0.mk (blk_drew BK212.out)
           have n1_ := Aside0.mk (below_drew1 HB.out)
           clear BK212
           clear HB
           have BK212 := n0_
           have HB := n1_
           clear n0_ n1_
           have p213 : 0 ≤ (0 : Int) := (by omega)
           have q213 : 0 < (l0.length : Int) := of_decide_eq_true (by first | (with_reducible assumption) | assumption)
           obtain ⟨ad213, e213, hx213_0, hx213_1, hx213_2, hx213_3, hx213_4, hx213_5, hx213_6⟩ := at_T53 HR0.out 0 p213 q213
           have hw213_6 := hx213_6
           (try rw [show ((0 : Int)).toNat = 0 from rfl] at hw213_6)
           (try rw [show 0 * 7 = 0 from rfl] at hw213_6)
           (try rw [Addr.add_zero'] at hw213_6)
           have hw213_5 := hx213_5
           (try rw [show ((0 : Int)).toNat = 0 from rfl] at hw213_5)
           (try rw [show 0 * 7 = 0 from rfl] at hw213_5)
           (try rw [Addr.add_zero'] at hw213_5)
           have hw213_4 := hx213_4
           (try rw [show ((0 : Int)).toNat = 0 from rfl] at hw213_4)
           (try rw [show 0 * 7 = 0 from rfl] at hw213_4)
           (try rw [Addr.add_zero'] at hw213_4)
           have hw213_3 := hx213_3
           (try rw [show ((0 : Int)).toNat = 0 from rfl] at hw213_3)
           (try rw [show 0 * 7 = 0 from rfl] at hw213_3)
           (try rw [Addr.add_zero'] at hw213_3)
           have hw213_2 := hx213_2
           (try rw [show ((0 : Int)).toNat = 0 from rfl] at hw213_2)
           (try rw [show 0 * 7 = 0 from rfl] at hw213_2)
           (try rw [Addr.add_zero'] at hw213_2)
           have hw213_1 := hx213_1
           (try rw [show ((0 : Int)).toNat = 0 from rfl] at hw213_1)
           (try rw [show 0 * 7 = 0 from rfl] at hw213_1)
           (try rw [Addr.add_zero'] at hw213_1)
           have hw213_0 := hx213_0
           (try rw [show ((0 : Int)).toNat = 0 from rfl] at hw213_0)
           (try rw [show 0 * 7 = 0 from rfl] at hw213_0)
           (try rw [Addr.add_zero'] at hw213_0)
           cases e213
           have qi213 : (0 < l0.length) = True := eq_true (by omega)
           (try rw [show ((0 : Int)).toNat = 0 from rfl] at hx213_0)
           (try rw [show 0 * 7 = 0 from rfl] at hx213_0)
           (try rw [Addr.add_zero'] at hx213_0)
           (try rw [show ((0 : Int)).toNat = 0 from rfl] at hx213_1)
           (try rw [show 0 * 7 = 0 from rfl] at hx213_1)
           (try rw [Addr.add_zero'] at hx213_1)
           (try rw [show ((0 : Int)).toNat = 0 from rfl] at hx213_2)
           (try rw [show 0 * 7 = 0 from rfl] at hx213_2)
           (try rw [Addr.add_zero'] at hx213_2)
           (try rw [show ((0 : Int)).toNat = 0 from rfl] at hx213_3)
           (try rw [show 0 * 7 = 0 from rfl] at hx213_3)
           (try rw [Addr.add_zero'] at hx213_3)
           (try rw [show ((0 : Int)).toNat = 0 from rfl] at hx213_4)
           (try rw [show 0 * 7 = 0 from rfl] at hx213_4)
           (try rw [Addr.add_zero'] at hx213_4)
           (try rw [show ((0 : Int)).toNat = 0 from rfl] at hx213_5)
           (try rw [show 0 * 7 = 0 from rfl] at hx213_5)
           (try rw [Addr.add_zero'] at hx213_5)
           (try rw [show ((0 : Int)).toNat = 0 from rfl] at hx213_6)
           (try rw [show 0 * 7 = 0 from rfl] at hx213_6)
           (try rw [Addr.add_zero'] at hx213_6)
           replace hx213_0 := upc HB.out hx213_0
           replace hx213_1 := upc HB.out hx213_1
           replace hx213_2 := upc HB.out hx213_2
           replace hx213_3 := upc HB.out hx213_3
           replace hx213_4 := upc HB.out hx213_4
           replace hx213_5 := upc HB.out hx213_5
           replace hx213_6 := upc HB.out hx213_6
           replace p213 := eq_true p213
           replace q213 := eq_true q213
           have p214 : 0 ≤ ((ji14) : Int) := of_decide_eq_true (by first | (with_reducible assumption) | assumption)
           have q214 : (ji14) < (l0.length : Int) := of_decide_eq_true (by first | (with_reducible assumption) | assumption)
           obtain ⟨ad214, e214, hx214_0, hx214_1, hx214_2, hx214_3, hx214_4, hx214_5, hx214_6⟩ := at_T53 HR0.out (ji14) p214 q214
           have hw214_6 := hx214_6
           have hw214_5 := hx214_5
           have hw214_4 := hx214_4
           have hw214_3 := hx214_3
           have hw214_2 := hx214_2
           have hw214_1 := hx214_1
           have hw214_0 := hx214_0
           obtain rfl : ad213 = ad214 := (by injection e214)
           replace hx214_0 := upc HB.out hx214_0
           replace hx214_1 := upc HB.out hx214_1
           replace hx214_2 := upc HB.out hx214_2
           replace hx214_3 := upc HB.out hx214_3
           replace hx214_4 := upc HB.out hx214_4
           replace hx214_5 := upc HB.out hx214_5
           replace hx214_6 := upc HB.out hx214_6
           replace p214 := eq_true p214
           replace q214 := eq_true q214
           refine start_ (n := 22) (S := fun w' => w'.cell? ⟨gb212, 0, none⟩ = some (.int .i64 t208) ∧ w'.cell? ⟨gb212, 1, none⟩ = some (.int .i64 t209) ∧ w'.cell? ⟨gb212, 2, none⟩ = some (.int .i64 t210) ∧ w'.cell? ad213 = some (.int .i64 ((rd_T53 l0 0).f0)) ∧ w'.cell? ⟨ad213.block, ad213.off + 1, none⟩ = some (.int .i64 ((rd_T53 l0 0).f1)) ∧ w'.cell? ⟨ad213.block, ad213.off + 2, none⟩ = some (.int .i64 ((rd_T53 l0 0).f2)) ∧ w'.cell? ⟨ad213.block, ad213.off + 3, none⟩ = some (.int .i64 ((rd_T53 l0 0).f3)) ∧ w'.cell? ⟨ad213.block, ad213.off + 4, none⟩ = some (.int .i64 ((rd_T53 l0 0).f4)) ∧ w'.cell? ⟨ad213.block, ad213.off + 5, none⟩ = some (.int .i64 ((rd_T53 l0 0).f5)) ∧ w'.cell? ⟨ad213.block, ad213.off + 6, none⟩ = some (.int .i64 ((rd_T53 l0 0).f6)) ∧ w'.cell? (ad213.add (((ji14)).toNat * 7)) = some (.int .i64 ((rd_T53 l0 (ji14)).f0)) ∧ w'.cell? ⟨(ad213.add (((ji14)).toNat * 7)).block, (ad213.add (((ji14)).toNat * 7)).off + 1, none⟩ = some (.int .i64 ((rd_T53 l0 (ji14)).f1)) ∧ w'.cell? ⟨(ad213.add (((ji14)).toNat * 7)).block, (ad213.add (((ji14)).toNat * 7)).off + 2, none⟩ = some (.int .i64 ((rd_T53 l0 (ji14)).f2)) ∧ w'.cell? ⟨(ad213.add (((ji14)).toNat * 7)).block, (ad213.add (((ji14)).toNat * 7)).off + 3, none⟩ = some (.int .i64 ((rd_T53 l0 (ji14)).f3)) ∧ w'.cell? ⟨(ad213.add (((ji14)).toNat * 7)).block, (ad213.add (((ji14)).toNat * 7)).off + 4, none⟩ = some (.int .i64 ((rd_T53 l0 (ji14)).f4)) ∧ w'.cell? ⟨(ad213.add (((ji14)).toNat * 7)).block, (ad213.add (((ji14)).toNat * 7)).off + 5, none⟩ = some (.int .i64 ((rd_T53 l0 (ji14)).f5)) ∧ w'.cell? ⟨(ad213.add (((ji14)).toNat * 7)).block, (ad213.add (((ji14)).toNat * 7)).off + 6, none⟩ = some (.int .i64 ((rd_T53 l0 (ji14)).f6))) (ds := []) #[false, false, false, false, false, false, false, false, false, false, false, false, false, false, false, false, false, false, false, false, false, false] (by kernel_rfl) rfl rfl ⟨(blk_cell BK212.out 0).trans rfl, (blk_cell BK212.out 1).trans rfl, (blk_cell BK212.out 2).trans rfl, ((HB.out.cell (World.block_lt_of_cell? w _ hw213_0)).trans hw213_0), ((HB.out.cell (World.block_lt_of_cell? w _ hw213_1)).trans hw213_1), ((HB.out.cell (World.block_lt_of_cell? w _ hw213_2)).trans hw213_2), ((HB.out.cell (World.block_lt_of_cell? w _ hw213_3)).trans hw213_3), ((HB.out.cell (World.block_lt_of_cell? w _ hw213_4)).trans hw213_4), ((HB.out.cell (World.block_lt_of_cell? w _ hw213_5)).trans hw213_5), ((HB.out.cell (World.block_lt_of_cell? w _ hw213_6)).trans hw213_6), ((HB.out.cell (World.block_lt_of_cell? w _ hw214_0)).trans hw214_0), ((HB.out.cell (World.block_lt_of_cell? w _ hw214_1)).trans hw214_1), ((HB.out.cell (World.block_lt_of_cell? w _ hw214_2)).trans hw214_2), ((HB.out.cell (World.block_lt_of_cell? w _ hw214_3)).trans hw214_3), ((HB.out.cell (World.block_lt_of_cell? w _ hw214_4)).trans hw214_4), ((HB.out.cell (World.block_lt_of_cell? w _ hw214_5)).trans hw214_5), ((HB.out.cell (World.block_lt_of_cell? w _ hw214_6)).trans hw214_6)⟩ (fun hHeld => ?_); refine with_tabW masterdiscref10_Entries.tab4 masterdiscref10_Entries.bits4 (fun HT_ HW_ => ?_)
           generalize w20.drew = w21 at BK212 HB hx213_0 hx213_1 hx213_2 hx213_3 hx213_4 hx213_5 hx213_6 hx214_0 hx214_1 hx214_2 hx214_3 hx214_4 hx214_5 hx214_6 hHeld ⊢
           refine pure_ (i := 0) (N := some 29) (v := ?_) (a' := ?_) (mS 22 1) rfl rfl (any_of HT_.out (by kernel_rfl)) (fun _ _ _ h => h) (Or.inl ⟨by rfl, ?_⟩) ?_ ?_
           rotate_left
           · intro w'
             go_simp
             with_reducible rfl
           rotate_left
           · simp only [Act.put, List.setIfInBounds_toArray, List.set_cons_zero, List.set_cons_succ, i64_w, i32_w]
             rfl
           refine pure_ (i := 1) (N := some 30) (v := ?_) (a' := ?_) (mS 22 3) rfl rfl (any_of HT_.out (by kernel_rfl)) (fun _ _ _ h => h) (Or.inl ⟨by rfl, ?_⟩) ?_ ?_
           rotate_left
           · intro w'
             go_simp
             with_reducible rfl
           rotate_left
           · simp only [Act.put, List.setIfInBounds_toArray, List.set_cons_zero, List.set_cons_succ, i64_w, i32_w]
             rfl
           refine pure_ (i := 2) (N := some 31) (v := ?_) (a' := ?_) (mS 22 7) rfl rfl (any_of HT_.out (by kernel_rfl)) (fun _ _ _ h => h) (Or.inl ⟨by rfl, ?_⟩) ?_ ?_
           rotate_left
           · intro w'
             go_simp
             with_reducible rfl
           rotate_left
           · simp only [Act.put, List.setIfInBounds_toArray, List.set_cons_zero, List.set_cons_succ, i64_w, i32_w]
             rfl
           refine pure_ (i := 3) (N := some 32) (v := ?_) (a' := ?_) (mS 22 15) rfl rfl (any_of HT_.out (by kernel_rfl)) (fun _ _ _ h => h) (Or.inl ⟨by rfl, ?_⟩) ?_ ?_
           rotate_left
           · intro w'
             go_simp
             with_reducible rfl
           rotate_left
           · simp only [Act.put, List.setIfInBounds_toArray, List.set_cons_zero, List.set_cons_succ, i64_w, i32_w]
             rfl
           refine pure_ (i := 7) (N := some 36) (v := ?_) (a' := ?_) (mS 22 143) rfl rfl (any_of HT_.out (by kernel_rfl)) (fun _ _ _ h => h) (Or.inl ⟨by rfl, ?_⟩) ?_ ?_
           rotate_left
           · intro w'
             go_simp
             with_reducible rfl
           rotate_left
           · simp only [Act.put, List.setIfInBounds_toArray, List.set_cons_zero, List.set_cons_succ, i64_w, i32_w]
             rfl
           refine pure_ (i := 8) (N := some 37) (v := ?_) (a' := ?_) (mS 22 399) rfl rfl (any_of HT_.out (by kernel_rfl)) (fun _ _ _ h => h) (Or.inl ⟨by rfl, ?_⟩) ?_ ?_
           rotate_left
           · intro w'
             go_simp
             with_reducible rfl
           rotate_left
           · simp only [Act.put, List.setIfInBounds_toArray, List.set_cons_zero, List.set_cons_succ, i64_w, i32_w]
             rfl
           refine pure_ (i := 9) (N := some 38) (v := ?_) (a' := ?_) (mS 22 911) rfl rfl (any_of HT_.out (by kernel_rfl)) (fun _ _ _ h => h) (Or.inl ⟨by rfl, ?_⟩) ?_ ?_
           rotate_left
           · intro w'
             go_simp
             with_reducible rfl
           rotate_left
           · simp only [Act.put, List.setIfInBounds_toArray, List.set_cons_zero, List.set_cons_succ, i64_w, i32_w]
             rfl
           refine pure_ (i := 10) (N := some 39) (v := ?_) (a' := ?_) (mS 22 1935) rfl rfl (any_of HT_.out (by kernel_rfl)) (fun _ _ _ h => h) (Or.inl ⟨by rfl, ?_⟩) ?_ ?_
           rotate_left
           · intro w'
             go_simp
             with_reducible rfl
           rotate_left
           · simp only [Act.put, List.setIfInBounds_toArray, List.set_cons_zero, List.set_cons_succ, i64_w, i32_w]
             rfl
           refine pure_ (i := 11) (N := some 40) (v := ?_) (a' := ?_) (mS 22 3983) rfl rfl (any_of HT_.out (by kernel_rfl)) (fun _ _ _ h => h) (Or.inl ⟨by rfl, ?_⟩) ?_ ?_
           rotate_left
           · intro w'
             go_simp
             with_reducible rfl
           rotate_left
           · simp only [Act.put, List.setIfInBounds_toArray, List.set_cons_zero, List.set_cons_succ, i64_w, i32_w]
             rfl
           refine pure_ (i := 12) (N := some 41) (v := ?_) (a' := ?_) (mS 22 8079) rfl rfl (any_of HT_.out (by kernel_rfl)) (fun _ _ _ h => h) (Or.inl ⟨by rfl, ?_⟩) ?_ ?_
           rotate_left
           · intro w'
             go_simp
             with_reducible rfl
           rotate_left
           · simp only [Act.put, List.setIfInBounds_toArray, List.set_cons_zero, List.set_cons_succ, i64_w, i32_w]
             rfl
           refine pure_ (i := 13) (N := some 42) (v := ?_) (a' := ?_) (mS 22 16271) rfl rfl (any_of HT_.out (by kernel_rfl)) (fun _ _ _ h => h) (Or.inl ⟨by rfl, ?_⟩) ?_ ?_
           rotate_left
           · intro w'
             go_simp
             with_reducible rfl
           rotate_left
           · simp only [Act.put, List.setIfInBounds_toArray, List.set_cons_zero, List.set_cons_succ, i64_w, i32_w]
             rfl
           refine pure_ (i := 17) (N := some 46) (v := ?_) (a' := ?_) (mS 22 147343) rfl rfl (any_of HT_.out (by kernel_rfl)) (fun _ _ _ h => h) (Or.inl ⟨by rfl, ?_⟩) ?_ ?_
           rotate_left
           · intro w'
             go_simp
             with_reducible rfl
           rotate_left
           · simp only [Act.put, List.setIfInBounds_toArray, List.set_cons_zero, List.set_cons_succ, i64_w, i32_w]
             rfl
           refine take_ (i := 4) (N := some 33) (v := ?_) (a' := ?_) (mS 22 147359) rfl rfl (take_ofW HT_.out HW_.out (by kernel_rfl)) (fun _ _ _ h => h) (Or.inl ⟨by rfl, ?_⟩) hHeld ?_ ?_
           rotate_left
           · rintro w' ⟨s0, s1, s2, s3, s4, s5, s6, s7, s8, s9, s10, s11, s12, s13, s14, s15, s16⟩
             go_simp
             with_reducible rfl
           rotate_left
           · simp only [Act.put, List.setIfInBounds_toArray, List.set_cons_zero, List.set_cons_succ, i64_w, i32_w]
             rfl
           refine pure_ (i := 5) (N := some 34) (v := ?_) (a' := ?_) (mS 22 147391) rfl rfl (any_of HT_.out (by kernel_rfl)) (fun _ _ _ h => h) (Or.inl ⟨by rfl, ?_⟩) ?_ ?_
           rotate_left
           · intro w'
             go_simp
             with_reducible rfl
           rotate_left
           · simp only [Act.put, List.setIfInBounds_toArray, List.set_cons_zero, List.set_cons_succ, i64_w, i32_w]
             rfl
           refine pure_ (i := 6) (N := some 35) (v := ?_) (a' := ?_) (mS 22 147455) rfl rfl (any_of HT_.out (by kernel_rfl)) (fun _ _ _ h => h) (Or.inl ⟨by rfl, ?_⟩) ?_ ?_
           rotate_left
           · intro w'
             go_simp
             with_reducible rfl
           rotate_left
           · simp only [Act.put, List.setIfInBounds_toArray, List.set_cons_zero, List.set_cons_succ, i64_w, i32_w]
             rfl
           refine take_ (i := 14) (N := some 43) (v := ?_) (a' := ?_) (mS 22 163839) rfl rfl (take_ofW HT_.out HW_.out (by kernel_rfl)) (fun _ _ _ h => h) (Or.inl ⟨by rfl, ?_⟩) hHeld ?_ ?_
           rotate_left
           · rintro w' ⟨s0, s1, s2, s3, s4, s5, s6, s7, s8, s9, s10, s11, s12, s13, s14, s15, s16⟩
             go_simp
             with_reducible rfl
           rotate_left
           · simp only [Act.put, List.setIfInBounds_toArray, List.set_cons_zero, List.set_cons_succ, i64_w, i32_w]
             rfl
           refine pure_ (i := 15) (N := some 44) (v := ?_) (a' := ?_) (mS 22 196607) rfl rfl (any_of HT_.out (by kernel_rfl)) (fun _ _ _ h => h) (Or.inl ⟨by rfl, ?_⟩) ?_ ?_
           rotate_left
           · intro w'
             go_simp
             with_reducible rfl
           rotate_left
           · simp only [Act.put, List.setIfInBounds_toArray, List.set_cons_zero, List.set_cons_succ, i64_w, i32_w]
             rfl
           refine pure_ (i := 16) (N := some 45) (v := ?_) (a' := ?_) (mS 22 262143) rfl rfl (any_of HT_.out (by kernel_rfl)) (fun _ _ _ h => h) (Or.inl ⟨by rfl, ?_⟩) ?_ ?_
           rotate_left
           · intro w'
             go_simp
             with_reducible rfl
           rotate_left
           · simp only [Act.put, List.setIfInBounds_toArray, List.set_cons_zero, List.set_cons_succ, i64_w, i32_w]
             rfl
           refine take_ (i := 18) (N := some 47) (v := ?_) (a' := ?_) (mS 22 524287) rfl rfl (take_ofW HT_.out HW_.out (by kernel_rfl)) (fun _ _ _ h => h) (Or.inl ⟨by rfl, ?_⟩) hHeld ?_ ?_
           rotate_left
           · rintro w' ⟨s0, s1, s2, s3, s4, s5, s6, s7, s8, s9, s10, s11, s12, s13, s14, s15, s16⟩
             go_simp
             with_reducible rfl
           rotate_left
           · simp only [Act.put, List.setIfInBounds_toArray, List.set_cons_zero, List.set_cons_succ, i64_w, i32_w]
             rfl
           refine pure_ (i := 19) (N := some 48) (v := ?_) (a' := ?_) (mS 22 1048575) rfl rfl (any_of HT_.out (by kernel_rfl)) (fun _ _ _ h => h) (Or.inl ⟨by rfl, ?_⟩) ?_ ?_
           rotate_left
           · intro w'
             go_simp
             with_reducible rfl
           rotate_left
           · simp only [Act.put, List.setIfInBounds_toArray, List.set_cons_zero, List.set_cons_succ, i64_w, i32_w]
             rfl
           refine one_ (i := 20) (N := some 49) (mS 22 2097151) rfl rfl (one_of HT_.out (by kernel_rfl)) (by decide) (fun K hK => ?_)
           refine Kd.R_lit_step k27 _ 27 ?hg (N := 49) ?hd (xs := ([(⟨a1, 0, 160, (⟨0, 0, 0⟩ : S25), (⟨(rd_T53 l0 0).f0, 0, 0⟩ : S25)⟩ : S27), (⟨a1, 0, 161, (⟨0, 0, 0⟩ : S25), (⟨(rd_T53 l0 (ji14)).f0, 0, 0⟩ : S25)⟩ : S27), (⟨a1, 0, 162, (⟨0, 0, 0⟩ : S25), (⟨t208, t209, t210⟩ : S25)⟩ : S27)] : List (S27))) (inner := [.int .i64 a1, .int .i64 0, .int .i64 160, .int .i64 0, .int .i64 0, .int .i64 0, .int .i64 ((rd_T53 l0 0).f0), .int .i64 0, .int .i64 0, .int .i64 a1, .int .i64 0, .int .i64 161, .int .i64 0, .int .i64 0, .int .i64 0, .int .i64 ((rd_T53 l0 (ji14)).f0), .int .i64 0, .int .i64 0, .int .i64 a1, .int .i64 0, .int .i64 162, .int .i64 0, .int .i64 0, .int .i64 0, .int .i64 t208, .int .i64 t209, .int .i64 t210]) (ok := fun _ => True) (okp := fun _ => True) ?hr ?hp (fun _ hk => hk) trivial (Below.refl _ _) (Nat.le_refl _) (by simp) ?_; (case hd => rfl); (case hg => rfl); (case hr => first | (go_simp; done) | (go_simp; rfl)); (case hp => exact (Reps.c9 (show Kd.M k27 _ _ _ (⟨a1, 0, 160, (⟨0, 0, 0⟩ : S25), (⟨(rd_T53 l0 0).f0, 0, 0⟩ : S25)⟩ : S27) [.int .i64 a1, .int .i64 0, .int .i64 160, .int .i64 0, .int .i64 0, .int .i64 0, .int .i64 ((rd_T53 l0 0).f0), .int .i64 0, .int .i64 0] from (k27_mkM _ _ _ (⟨a1, 0, 160, (⟨0, 0, 0⟩ : S25), (⟨(rd_T53 l0 0).f0, 0, 0⟩ : S25)⟩ : S27) )) (Reps.c9 (show Kd.M k27 _ _ _ (⟨a1, 0, 161, (⟨0, 0, 0⟩ : S25), (⟨(rd_T53 l0 (ji14)).f0, 0, 0⟩ : S25)⟩ : S27) [.int .i64 a1, .int .i64 0, .int .i64 161, .int .i64 0, .int .i64 0, .int .i64 0, .int .i64 ((rd_T53 l0 (ji14)).f0), .int .i64 0, .int .i64 0] from (k27_mkM _ _ _ (⟨a1, 0, 161, (⟨0, 0, 0⟩ : S25), (⟨(rd_T53 l0 (ji14)).f0, 0, 0⟩ : S25)⟩ : S27) )) (Reps.c9 (show Kd.M k27 _ _ _ (⟨a1, 0, 162, (⟨0, 0, 0⟩ : S25), (⟨t208, t209, t210⟩ : S25)⟩ : S27) [.int .i64 a1, .int .i64 0, .int .i64 162, .int .i64 0, .int .i64 0, .int .i64 0, .int .i64 t208, .int .i64 t209, .int .i64 t210] from (k27_mkM _ _ _ (⟨a1, 0, 162, (⟨0, 0, 0⟩ : S25), (⟨t208, t209, t210⟩ : S25)⟩ : S27) )) (Reps.none _ _)))))
           intro v216 w22 ho23 hb hg_ hnew_
           clear hg_ hnew_
           (first | rw [← Ny215.out] at ho23 | (simp only [Int.reduceToNat] at ho23; rw [← Ny215.out] at ho23))
           have n0_ := Aside0.mk (Kd.R_lower ho23 (below_size (by repeat (first | (with_reducible first | exact HB.out | apply below_alloc | apply pw_below_drewN | apply below_drew1 | refine below_set ?_ GE212.out) | exact HB.out))))
           have n1_ := Aside0.mk (blk_below (g := gb212) (o := .cells #[.int .i64 t208, .int .i64 t209, .int .i64 t210] 25 (0, 0)) (by (with_reducible repeat (first | refine blk_drewN ?_ _ | refine blk_drew ?_ | refine blk_alloc ?_ _)); exact BK212.out) hb)
           have n2_ := Aside0.mk (below_step (by repeat (first | (with_reducible first | exact HB.out | apply below_alloc | apply pw_below_drewN | apply below_drew1 | refine below_set ?_ GE212.out) | exact HB.out)) hb)
           clear BK212
           clear HB
           have HO217 := n0_
           have BK212 := n1_
           have HB := n2_
           clear n0_ n1_ n2_
           clear hb ho23
           refine hK.out _ _ ⟨(blk_cell BK212.out 0).trans rfl, (blk_cell BK212.out 1).trans rfl, (blk_cell BK212.out 2).trans rfl, ((HB.out.cell (World.block_lt_of_cell? w _ hw213_0)).trans hw213_0), ((HB.out.cell (World.block_lt_of_cell? w _ hw213_1)).trans hw213_1), ((HB.out.cell (World.block_lt_of_cell? w _ hw213_2)).trans hw213_2), ((HB.out.cell (World.block_lt_of_cell? w _ hw213_3)).trans hw213_3), ((HB.out.cell (World.block_lt_of_cell? w _ hw213_4)).trans hw213_4), ((HB.out.cell (World.block_lt_of_cell? w _ hw213_5)).trans hw213_5), ((HB.out.cell (World.block_lt_of_cell? w _ hw213_6)).trans hw213_6), ((HB.out.cell (World.block_lt_of_cell? w _ hw214_0)).trans hw214_0), ((HB.out.cell (World.block_lt_of_cell? w _ hw214_1)).trans hw214_1), ((HB.out.cell (World.block_lt_of_cell? w _ hw214_2)).trans hw214_2), ((HB.out.cell (World.block_lt_of_cell? w _ hw214_3)).trans hw214_3), ((HB.out.cell (World.block_lt_of_cell? w _ hw214_4)).trans hw214_4), ((HB.out.cell (World.block_lt_of_cell? w _ hw214_5)).trans hw214_5), ((HB.out.cell (World.block_lt_of_cell? w _ hw214_6)).trans hw214_6)⟩ (fun hHeld => ?_)
           clear hK K
           refine norm_ (a' := ?_) ?_ ?_
           rotate_left
           · show Act.put _ (some 49) _ = _
             simp only [Act.put, List.setIfInBounds_toArray, List.set_cons_zero, List.set_cons_succ, i64_w, i32_w]
             rfl
           refine pure_ (i := 21) (N := some 8) (v := ?_) (a' := ?_) (mS 22 4194303) rfl rfl (any_of HT_.out (by kernel_rfl)) (fun _ _ _ h => h) (Or.inl ⟨by rfl, ?_⟩) ?_ ?_
           rotate_left
           · intro w'
             go_simp
             with_reducible rfl
           rotate_left
           · simp only [Act.put, List.setIfInBounds_toArray, List.set_cons_zero, List.set_cons_succ, i64_w, i32_w]
             rfl
           refine done_ (done_of HT_.out (by kernel_rfl)) ?_
           try go_wp2
           go_loopg [8, 9] kj2 (fun kq v8 v9 w' => ∃ (x8_2 : List (S27)) (x9_2 : Int), v9 = .int .i64 x9_2 ∧ Aside0 (masterdiscref10_Entries.l0 kq l0 a1 x8_2 x9_2 = some (r1, r2)) ∧ Aside0 (kq ≤ kj2) ∧ Aside0 (Kd.R k27 27 w' w.heap.size (fun _ => True) v8 x8_2) ∧ Aside0 (w'.heap[gb212]? = some (.cells #[.int .i64 t208, .int .i64 t209, .int .i64 t210] 25 (0, 0))) ∧ Aside0 (Below w.heap.size w w'))
           case atStart => exact ⟨(y215), (0), (by first | rfl | (simp; done) | (simp [*]; done)), H', ⟨Nat.le_refl _⟩, ⟨by (with_reducible repeat (first | apply Kd.R_alloc | apply Kd.R_drewN | apply Kd.R_drew)); exact HO217.out⟩, ⟨by (with_reducible repeat (first | refine blk_drewN ?_ _ | refine blk_drew ?_ | refine blk_alloc ?_ _)); exact BK212.out⟩, ⟨by repeat (first | (with_reducible first | exact HB.out | apply below_alloc | apply pw_below_drewN | apply below_drew1 | refine below_set ?_ GE212.out) | exact HB.out)⟩⟩
           case round =>
            clear H'
            try clear c1
            try clear p2
            try clear q2
            try clear hx2
            try clear qi2
            try clear c3
            try clear c5
            try clear c6
            try clear c6b0
            try clear p6
            try clear c9
            try clear c10
            try clear c13
            try clear c13b0
            try clear c13b1
            try clear c14
            try clear c15
            try clear c15b0
            try clear c16
            try clear c16b0
            try clear p21
            try clear q21
            try clear hx21
            try clear qi21
            try clear hcz19_0
            try clear hcz19_1
            try clear hcz19_2
            try clear hfz19_0
            try clear hfz19_1
            try clear hfz19_2
            try clear hx213_0
            try clear hx213_1
            try clear hx213_2
            try clear hx213_3
            try clear hx213_4
            try clear hx213_5
            try clear hx213_6
            try clear hx214_0
            try clear hx214_1
            try clear hx214_2
            try clear hx214_3
            try clear hx214_4
            try clear hx214_5
            try clear hx214_6
            try clear p2
            try clear p213
            try clear p214
            try clear q213
            try clear q214
            obtain ⟨x8_2, x9_2, rfl, HA, HK2, HO_8, BK212, HB⟩ := hrel
            cases gk with
            | zero => exact absurd HA.out (by simp [masterdiscref10_Entries.l0])
            | succ k2 =>
             have H := HA.out
             clear HA
             simp only [masterdiscref10_Entries.l0] at H
             by_cases c24 : x9_2 < (l0.length : Int)
             · rw [if_pos c24] at H
               have c24b0 : decide (x9_2 < (l0.length : Int)) = true := decide_eq_true c24
               clear c24
               by_cases c25 : 0 ≤ x9_2
               · rw [if_pos c25] at H
                 have c25b0 : decide (0 ≤ x9_2) = true := decide_eq_true c25
                 clear c25
                 replace H := Option.bind_eq_some_iff.mp H
                 obtain ⟨⟨t219, t220, t221, t222⟩, A260, H⟩ := H
                 replace H : (if x8_2.length < 1954687338268 then (masterdiscref10_Entries.l0 k2 l0 a1 (x8_2 ++ [(⟨a1, 0, (rd_T53 l0 x9_2).f0, (⟨0, 0, 0⟩ : S25), (⟨t219, t220, t221⟩ : S25)⟩ : S27)]) (wrap64 (x9_2 + 1))) else (none)) = some (r1, r2) := H
                 have A26 := Aside0.mk A260
                 clear A260
                 by_cases c27 : x8_2.length < 1954687338268
                 · rw [if_pos c27] at H
                   have LMc27 := Aside0.mk c27
                   clear c27
                   obtain ⟨y225, hy225⟩ : ∃ y_ : List (S27), y_ = (x8_2 ++ [(⟨a1, 0, (rd_T53 l0 x9_2).f0, (⟨0, 0, 0⟩ : S25), (⟨t219, t220, t221⟩ : S25)⟩ : S27)]) := ⟨_, rfl⟩
                   replace H : (masterdiscref10_Entries.l0 k2 l0 a1 y225 (wrap64 (x9_2 + 1))) = some (r1, r2) := by first | (rw [hy225]; with_reducible exact H) | (have H2_ := (Option.bind_some _ _).symm.trans H; rw [hy225]; with_reducible exact H2_) | (have H2_ := (Option.bind_some _ _).symm.trans H; with_reducible exact H2_) | with_reducible exact H | (rw [hy225]; exact H) | exact H
                   have Ny225 := Aside0.mk hy225
                   clear hy225
                   have H' := Aside0.mk H
                   clear H
                   have p218 : 0 ≤ (x9_2 : Int) := of_decide_eq_true (by first | (with_reducible assumption) | assumption)
                   have q218 : x9_2 < (l0.length : Int) := of_decide_eq_true (by first | (with_reducible assumption) | assumption)
                   obtain ⟨ad218, e218, hx218_0, hx218_1, hx218_2, hx218_3, hx218_4, hx218_5, hx218_6⟩ := at_T53 HR0.out x9_2 p218 q218
                   obtain rfl : ad213 = ad218 := (by injection e218)
                   replace hx218_0 := upc HB.out hx218_0
                   replace hx218_1 := upc HB.out hx218_1
                   replace hx218_2 := upc HB.out hx218_2
                   replace hx218_3 := upc HB.out hx218_3
                   replace hx218_4 := upc HB.out hx218_4
                   replace hx218_5 := upc HB.out hx218_5
                   replace hx218_6 := upc HB.out hx218_6
                   replace p218 := eq_true p218
                   replace q218 := eq_true q218
                   try go_wp2_with (first | ((with_reducible refine gate_callee (f := 33) rfl ?_); refine goesL_ (some 62) rfl rfl Try.func33 (by kernel_rfl) rfl #[.int .i64 ((rd_T53 l0 x9_2).f2)] rfl (by (try simp only [List.map_toArray, List.map_cons, List.map_nil]); first | done | rfl | (simp only [List.length_drop, List.length_take]; rfl)) ?_; (with_reducible refine (masterdiscref06_ToMSF.calls ((rd_T53 l0 x9_2).f2) t219 t220 t221 t222 _ A26.out).mono ?_); rintro e w28 ⟨rfl, hb⟩; refine ⟨_, rfl, ?_⟩; have n0_ := Aside0.mk (Kd.R_below (by (with_reducible repeat (first | apply Kd.R_alloc | apply Kd.R_drewN | apply Kd.R_drew)); exact HO_8.out) hb); have n1_ := Aside0.mk (blk_below (g := gb212) (o := .cells #[.int .i64 t208, .int .i64 t209, .int .i64 t210] 25 (0, 0)) (by (with_reducible repeat (first | refine blk_drewN ?_ _ | refine blk_drew ?_ | refine blk_alloc ?_ _)); exact BK212.out) hb); have n2_ := Aside0.mk (below_step (by repeat (first | (with_reducible first | exact HB.out | apply below_alloc | apply pw_below_drewN | apply below_drew1 | refine below_set ?_ GE212.out) | exact HB.out)) hb); clear HO_8; clear BK212; clear HB; have HO_8 := n0_; have BK212 := n1_; have HB := n2_; clear n0_ n1_ n2_; (try clear hb); (try clear hb2); (try clear hk); (try clear hi)) | ((with_reducible refine gate_dst (N := 10) rfl ?_); refine box_event ?hg (N := 10) ?hd (cs := #[.int .i64 0, .int .i64 0, .int .i64 0]) (t := 25) ?hr ?_; (case hd => rfl); (case hg => rfl); (case hr => first | (go_simp; done) | (go_simp; rfl)); intro gb223 hg w29 hbox hb; have n0_ := Aside0.mk (Kd.R_below (by (with_reducible repeat (first | apply Kd.R_alloc | apply Kd.R_drewN | apply Kd.R_drew)); exact HO_8.out) hb); have n1_ := Aside0.mk (blk_below (g := gb212) (o := .cells #[.int .i64 t208, .int .i64 t209, .int .i64 t210] 25 (0, 0)) (by (with_reducible repeat (first | refine blk_drewN ?_ _ | refine blk_drew ?_ | refine blk_alloc ?_ _)); exact BK212.out) hb); have n2_ := Aside0.mk (below_step (by repeat (first | (with_reducible first | exact HB.out | apply below_alloc | apply pw_below_drewN | apply below_drew1 | refine below_set ?_ GE212.out) | exact HB.out)) hb); have n3_ := Aside0.mk (hbox); have n4_ := Aside0.mk ((by rw [hg]; exact (below_size (by repeat (first | (with_reducible first | exact HB.out | apply below_alloc | apply pw_below_drewN | apply below_drew1 | refine below_set ?_ GE212.out) | exact HB.out))) : w.heap.size ≤ gb223)); have n5_ := Aside0.mk ((by rw [hg]; exact (below_size (by repeat (first | (with_reducible first | exact HB.out | apply below_alloc | apply pw_below_drewN | apply below_drew1 | refine below_set ?_ GE212.out) | exact HB.out))) : w.heap.size ≤ gb223)); have n6_ := Aside0.mk ((by rw [hg]; exact Nat.ne_of_lt (blk_lt (g := gb212) (o := .cells #[.int .i64 t208, .int .i64 t209, .int .i64 t210] 25 (0, 0)) (by (with_reducible repeat (first | refine blk_drewN ?_ _ | refine blk_drew ?_ | refine blk_alloc ?_ _)); exact BK212.out)) : gb212 ≠ gb223)); have n7_ := Aside0.mk ((by rw [hg]; exact Nat.ne_of_gt (blk_lt (g := gb212) (o := .cells #[.int .i64 t208, .int .i64 t209, .int .i64 t210] 25 (0, 0)) (by (with_reducible repeat (first | refine blk_drewN ?_ _ | refine blk_drew ?_ | refine blk_alloc ?_ _)); exact BK212.out)) : gb223 ≠ gb212)); clear HO_8; clear BK212; clear HB; have HO_8 := n0_; have BK212 := n1_; have HB := n2_; have BK223 := n3_; have GW223 := n4_; have GE223 := n5_; have NB212_223 := n6_; have NB223_212 := n7_; clear n0_ n1_ n2_ n3_ n4_ n5_ n6_ n7_; clear hb hbox hg; have hnb30 := NB223_212.out; have hnc30 := NB212_223.out; obtain ⟨hcz31_0, hcz31_1, hcz31_2⟩ := cel3 BK223.out; obtain ⟨hfz31_0, hfz31_1, hfz31_2⟩ := frz3 BK223.out))
                   have n0_ : Aside0 (Kd.R k27 27 (((w29.setCell ⟨gb223, 0, none⟩ (.int .i64 t219)).setCell ⟨gb223, 1, none⟩ (.int .i64 t220)).setCell ⟨gb223, 2, none⟩ (.int .i64 t221)) w.heap.size (fun _ => True) u8 x8_2) := ⟨by (with_reducible repeat (first | apply Kd.R_alloc | apply Kd.R_drewN | apply Kd.R_drew)); exact Kd.R_mono (Kd.R_far (p := ⟨gb223, 2, none⟩) (Kd.R_far (p := ⟨gb223, 1, none⟩) (Kd.R_far (p := ⟨gb223, 0, none⟩) (Kd.R_types HO_8.out BK223.out (by decide)) (fun _ hk => hk.2) (.int .i64 t219)) (fun _ hk => hk.2) (.int .i64 t220)) (fun _ hk => hk.2) (.int .i64 t221)) (fun _ hk => trivial)⟩
                   have n1_ : Aside0 ((((w29.setCell ⟨gb223, 0, none⟩ (.int .i64 t219)).setCell ⟨gb223, 1, none⟩ (.int .i64 t220)).setCell ⟨gb223, 2, none⟩ (.int .i64 t221)).heap[gb212]? = some (.cells #[.int .i64 t208, .int .i64 t209, .int .i64 t210] 25 (0, 0))) := ⟨by (with_reducible repeat (first | refine blk_drewN ?_ _ | refine blk_drew ?_ | refine blk_alloc ?_ _)); refine blk_far ?_ NB212_223.out _; (with_reducible repeat (first | refine blk_drewN ?_ _ | refine blk_drew ?_ | refine blk_alloc ?_ _)); refine blk_far ?_ NB212_223.out _; (with_reducible repeat (first | refine blk_drewN ?_ _ | refine blk_drew ?_ | refine blk_alloc ?_ _)); refine blk_far ?_ NB212_223.out _; (with_reducible repeat (first | refine blk_drewN ?_ _ | refine blk_drew ?_ | refine blk_alloc ?_ _)); exact BK212.out⟩
                   have n2_ : Aside0 ((((w29.setCell ⟨gb223, 0, none⟩ (.int .i64 t219)).setCell ⟨gb223, 1, none⟩ (.int .i64 t220)).setCell ⟨gb223, 2, none⟩ (.int .i64 t221)).heap[gb223]? = some (.cells #[.int .i64 t219, .int .i64 t220, .int .i64 t221] 25 (0, 0))) := ⟨by (with_reducible repeat (first | refine blk_drewN ?_ _ | refine blk_drew ?_ | refine blk_alloc ?_ _)); refine blk_put (cs := #[.int .i64 t219, .int .i64 t220, .int .i64 0]) ?_ 2 _ rfl; (with_reducible repeat (first | refine blk_drewN ?_ _ | refine blk_drew ?_ | refine blk_alloc ?_ _)); refine blk_put (cs := #[.int .i64 t219, .int .i64 0, .int .i64 0]) ?_ 1 _ rfl; (with_reducible repeat (first | refine blk_drewN ?_ _ | refine blk_drew ?_ | refine blk_alloc ?_ _)); refine blk_put (cs := #[.int .i64 0, .int .i64 0, .int .i64 0]) ?_ 0 _ rfl; (with_reducible repeat (first | refine blk_drewN ?_ _ | refine blk_drew ?_ | refine blk_alloc ?_ _)); exact BK223.out⟩
                   have n3_ : Aside0 (Below w.heap.size w (((w29.setCell ⟨gb223, 0, none⟩ (.int .i64 t219)).setCell ⟨gb223, 1, none⟩ (.int .i64 t220)).setCell ⟨gb223, 2, none⟩ (.int .i64 t221))) := ⟨by repeat (first | (with_reducible first | exact HB.out | apply below_alloc | apply pw_below_drewN | apply below_drew1 | refine below_set ?_ GE212.out | refine below_set ?_ GE223.out) | exact HB.out)⟩
                   (try clear HO_8)
                   (try clear BK212)
                   (try clear BK223)
                   (try clear HB)
                   generalize (((w29.setCell ⟨gb223, 0, none⟩ (.int .i64 t219)).setCell ⟨gb223, 1, none⟩ (.int .i64 t220)).setCell ⟨gb223, 2, none⟩ (.int .i64 t221)) = w32 at n0_ n1_ n2_ n3_ ⊢
                   have HO_8 := n0_
                   have BK212 := n1_
                   have BK223 := n2_
                   have HB := n3_
                   clear n0_ n1_ n2_ n3_
                   have n0_ := Aside0.mk (Kd.R_drew HO_8.out)
                   have n1_ := Aside0.mk (blk_drew BK212.out)
                   have n2_ := Aside0.mk (blk_drew BK223.out)
                   have n3_ := Aside0.mk (below_drew1 HB.out)
                   clear HO_8
                   clear BK212
                   clear BK223
                   clear HB
                   have HO_8 := n0_
                   have BK212 := n1_
                   have BK223 := n2_
                   have HB := n3_
                   clear n0_ n1_ n2_ n3_
                   have p224 : 0 ≤ (x9_2 : Int) := of_decide_eq_true (by first | (with_reducible assumption) | assumption)
                   have q224 : x9_2 < (l0.length : Int) := of_decide_eq_true (by first | (with_reducible assumption) | assumption)
                   obtain ⟨ad224, e224, hx224_0, hx224_1, hx224_2, hx224_3, hx224_4, hx224_5, hx224_6⟩ := at_T53 HR0.out x9_2 p224 q224
                   have hw224_6 := hx224_6
                   have hw224_5 := hx224_5
                   have hw224_4 := hx224_4
                   have hw224_3 := hx224_3
                   have hw224_2 := hx224_2
                   have hw224_1 := hx224_1
                   have hw224_0 := hx224_0
                   obtain rfl : ad213 = ad224 := (by injection e224)
                   replace hx224_0 := upc HB.out hx224_0
                   replace hx224_1 := upc HB.out hx224_1
                   replace hx224_2 := upc HB.out hx224_2
                   replace hx224_3 := upc HB.out hx224_3
                   replace hx224_4 := upc HB.out hx224_4
                   replace hx224_5 := upc HB.out hx224_5
                   replace hx224_6 := upc HB.out hx224_6
                   replace p224 := eq_true p224
                   replace q224 := eq_true q224
                   refine start_ (n := 12) (S := fun w' => w'.cell? ⟨gb223, 0, none⟩ = some (.int .i64 t219) ∧ w'.cell? ⟨gb223, 1, none⟩ = some (.int .i64 t220) ∧ w'.cell? ⟨gb223, 2, none⟩ = some (.int .i64 t221) ∧ w'.cell? (ad213.add ((x9_2).toNat * 7)) = some (.int .i64 ((rd_T53 l0 x9_2).f0)) ∧ w'.cell? ⟨(ad213.add ((x9_2).toNat * 7)).block, (ad213.add ((x9_2).toNat * 7)).off + 1, none⟩ = some (.int .i64 ((rd_T53 l0 x9_2).f1)) ∧ w'.cell? ⟨(ad213.add ((x9_2).toNat * 7)).block, (ad213.add ((x9_2).toNat * 7)).off + 2, none⟩ = some (.int .i64 ((rd_T53 l0 x9_2).f2)) ∧ w'.cell? ⟨(ad213.add ((x9_2).toNat * 7)).block, (ad213.add ((x9_2).toNat * 7)).off + 3, none⟩ = some (.int .i64 ((rd_T53 l0 x9_2).f3)) ∧ w'.cell? ⟨(ad213.add ((x9_2).toNat * 7)).block, (ad213.add ((x9_2).toNat * 7)).off + 4, none⟩ = some (.int .i64 ((rd_T53 l0 x9_2).f4)) ∧ w'.cell? ⟨(ad213.add ((x9_2).toNat * 7)).block, (ad213.add ((x9_2).toNat * 7)).off + 5, none⟩ = some (.int .i64 ((rd_T53 l0 x9_2).f5)) ∧ w'.cell? ⟨(ad213.add ((x9_2).toNat * 7)).block, (ad213.add ((x9_2).toNat * 7)).off + 6, none⟩ = some (.int .i64 ((rd_T53 l0 x9_2).f6))) (ds := []) #[false, false, false, false, false, false, false, false, false, false, false, false] (by kernel_rfl) rfl rfl ⟨(blk_cell BK223.out 0).trans rfl, (blk_cell BK223.out 1).trans rfl, (blk_cell BK223.out 2).trans rfl, ((HB.out.cell (World.block_lt_of_cell? w _ hw224_0)).trans hw224_0), ((HB.out.cell (World.block_lt_of_cell? w _ hw224_1)).trans hw224_1), ((HB.out.cell (World.block_lt_of_cell? w _ hw224_2)).trans hw224_2), ((HB.out.cell (World.block_lt_of_cell? w _ hw224_3)).trans hw224_3), ((HB.out.cell (World.block_lt_of_cell? w _ hw224_4)).trans hw224_4), ((HB.out.cell (World.block_lt_of_cell? w _ hw224_5)).trans hw224_5), ((HB.out.cell (World.block_lt_of_cell? w _ hw224_6)).trans hw224_6)⟩ (fun hHeld => ?_); refine with_tabW masterdiscref10_Entries.tab9 masterdiscref10_Entries.bits9 (fun HT_ HW_ => ?_)
                   generalize w32.drew = w33 at HO_8 BK212 BK223 HB hx224_0 hx224_1 hx224_2 hx224_3 hx224_4 hx224_5 hx224_6 hHeld ⊢
                   refine pure_ (i := 0) (N := some 65) (v := ?_) (a' := ?_) (mS 12 1) rfl rfl (any_of HT_.out (by kernel_rfl)) (fun _ _ _ h => h) (Or.inl ⟨by rfl, ?_⟩) ?_ ?_
                   rotate_left
                   · intro w'
                     go_simp
                     with_reducible rfl
                   rotate_left
                   · simp only [Act.put, List.setIfInBounds_toArray, List.set_cons_zero, List.set_cons_succ, i64_w, i32_w]
                     rfl
                   refine pure_ (i := 1) (N := some 66) (v := ?_) (a' := ?_) (mS 12 3) rfl rfl (any_of HT_.out (by kernel_rfl)) (fun _ _ _ h => h) (Or.inl ⟨by rfl, ?_⟩) ?_ ?_
                   rotate_left
                   · intro w'
                     go_simp
                     with_reducible rfl
                   rotate_left
                   · simp only [Act.put, List.setIfInBounds_toArray, List.set_cons_zero, List.set_cons_succ, i64_w, i32_w]
                     rfl
                   refine pure_ (i := 2) (N := some 67) (v := ?_) (a' := ?_) (mS 12 7) rfl rfl (any_of HT_.out (by kernel_rfl)) (fun _ _ _ h => h) (Or.inl ⟨by rfl, ?_⟩) ?_ ?_
                   rotate_left
                   · intro w'
                     go_simp
                     with_reducible rfl
                   rotate_left
                   · simp only [Act.put, List.setIfInBounds_toArray, List.set_cons_zero, List.set_cons_succ, i64_w, i32_w]
                     rfl
                   refine pure_ (i := 3) (N := some 68) (v := ?_) (a' := ?_) (mS 12 15) rfl rfl (any_of HT_.out (by kernel_rfl)) (fun _ _ _ h => h) (Or.inl ⟨by rfl, ?_⟩) ?_ ?_
                   rotate_left
                   · intro w'
                     go_simp
                     with_reducible rfl
                   rotate_left
                   · simp only [Act.put, List.setIfInBounds_toArray, List.set_cons_zero, List.set_cons_succ, i64_w, i32_w]
                     rfl
                   refine pure_ (i := 4) (N := some 69) (v := ?_) (a' := ?_) (mS 12 31) rfl rfl (any_of HT_.out (by kernel_rfl)) (fun _ _ _ h => h) (Or.inl ⟨by rfl, ?_⟩) ?_ ?_
                   rotate_left
                   · intro w'
                     go_simp
                     with_reducible rfl
                   rotate_left
                   · simp only [Act.put, List.setIfInBounds_toArray, List.set_cons_zero, List.set_cons_succ, i64_w, i32_w]
                     rfl
                   refine pure_ (i := 5) (N := some 70) (v := ?_) (a' := ?_) (mS 12 63) rfl rfl (any_of HT_.out (by kernel_rfl)) (fun _ _ _ h => h) (Or.inl ⟨by rfl, ?_⟩) ?_ ?_
                   rotate_left
                   · intro w'
                     go_simp
                     with_reducible rfl
                   rotate_left
                   · simp only [Act.put, List.setIfInBounds_toArray, List.set_cons_zero, List.set_cons_succ, i64_w, i32_w]
                     rfl
                   refine take_ (i := 6) (N := some 71) (v := ?_) (a' := ?_) (mS 12 127) rfl rfl (take_ofW HT_.out HW_.out (by kernel_rfl)) (fun _ _ _ h => h) (Or.inl ⟨by rfl, ?_⟩) hHeld ?_ ?_
                   rotate_left
                   · rintro w' ⟨s0, s1, s2, s3, s4, s5, s6, s7, s8, s9⟩
                     go_simp
                     with_reducible rfl
                   rotate_left
                   · simp only [Act.put, List.setIfInBounds_toArray, List.set_cons_zero, List.set_cons_succ, i64_w, i32_w]
                     rfl
                   refine take_ (i := 7) (N := some 72) (v := ?_) (a' := ?_) (mS 12 255) rfl rfl (take_ofW HT_.out HW_.out (by kernel_rfl)) (fun _ _ _ h => h) (Or.inl ⟨by rfl, ?_⟩) hHeld ?_ ?_
                   rotate_left
                   · rintro w' ⟨s0, s1, s2, s3, s4, s5, s6, s7, s8, s9⟩
                     go_simp
                     with_reducible rfl
                   rotate_left
                   · simp only [Act.put, List.setIfInBounds_toArray, List.set_cons_zero, List.set_cons_succ, i64_w, i32_w]
                     rfl
                   refine pure_ (i := 8) (N := some 73) (v := ?_) (a' := ?_) (mS 12 511) rfl rfl (any_of HT_.out (by kernel_rfl)) (fun _ _ _ h => h) (Or.inl ⟨by rfl, ?_⟩) ?_ ?_
                   rotate_left
                   · intro w'
                     go_simp
                     with_reducible rfl
                   rotate_left
                   · simp only [Act.put, List.setIfInBounds_toArray, List.set_cons_zero, List.set_cons_succ, i64_w, i32_w]
                     rfl
                   refine one_ (i := 9) (N := some 74) (mS 12 1023) rfl rfl (one_of HT_.out (by kernel_rfl)) (by decide) (fun K hK => ?_)
                   refine value_ (w1 := ?_) (v := ?_) (by rfl) rfl ?_ ?_
                   rotate_left 2
                   · go_simp
                     constructor
                     · rfl
                     · rfl
                   refine hK.out _ _ ⟨(blk_cell (blk_alloc BK223.out _) 0).trans rfl, (blk_cell (blk_alloc BK223.out _) 1).trans rfl, (blk_cell (blk_alloc BK223.out _) 2).trans rfl, (World.cell?_alloc_lt _ _ _ (World.block_lt_of_cell? _ _ (((HB.out.cell (World.block_lt_of_cell? w _ hw224_0)).trans hw224_0)))).trans (((HB.out.cell (World.block_lt_of_cell? w _ hw224_0)).trans hw224_0)), (World.cell?_alloc_lt _ _ _ (World.block_lt_of_cell? _ _ (((HB.out.cell (World.block_lt_of_cell? w _ hw224_1)).trans hw224_1)))).trans (((HB.out.cell (World.block_lt_of_cell? w _ hw224_1)).trans hw224_1)), (World.cell?_alloc_lt _ _ _ (World.block_lt_of_cell? _ _ (((HB.out.cell (World.block_lt_of_cell? w _ hw224_2)).trans hw224_2)))).trans (((HB.out.cell (World.block_lt_of_cell? w _ hw224_2)).trans hw224_2)), (World.cell?_alloc_lt _ _ _ (World.block_lt_of_cell? _ _ (((HB.out.cell (World.block_lt_of_cell? w _ hw224_3)).trans hw224_3)))).trans (((HB.out.cell (World.block_lt_of_cell? w _ hw224_3)).trans hw224_3)), (World.cell?_alloc_lt _ _ _ (World.block_lt_of_cell? _ _ (((HB.out.cell (World.block_lt_of_cell? w _ hw224_4)).trans hw224_4)))).trans (((HB.out.cell (World.block_lt_of_cell? w _ hw224_4)).trans hw224_4)), (World.cell?_alloc_lt _ _ _ (World.block_lt_of_cell? _ _ (((HB.out.cell (World.block_lt_of_cell? w _ hw224_5)).trans hw224_5)))).trans (((HB.out.cell (World.block_lt_of_cell? w _ hw224_5)).trans hw224_5)), (World.cell?_alloc_lt _ _ _ (World.block_lt_of_cell? _ _ (((HB.out.cell (World.block_lt_of_cell? w _ hw224_6)).trans hw224_6)))).trans (((HB.out.cell (World.block_lt_of_cell? w _ hw224_6)).trans hw224_6))⟩ (fun hHeld => ?_)
                   clear hK K
                   refine norm_ (a' := ?_) ?_ ?_
                   rotate_left
                   · show Act.put _ (some 74) _ = _
                     simp only [Act.put, List.setIfInBounds_toArray, List.set_cons_zero, List.set_cons_succ, i64_w, i32_w]
                     rfl
                   refine one_ (i := 10) (N := some 75) (mS 12 2047) rfl rfl (one_of HT_.out (by kernel_rfl)) (by decide) (fun K hK => ?_)
                   refine Kd.R_append_step k27 (w0 := w) w.heap.size (by rfl) (.tmp 65) (.tmp 74) 31 27 (.agg #[(.int .i64 0), (.int .i64 0), (.int .i64 0), (.int .i64 0), (.int .i64 0), (.int .i64 0), (.int .i64 0), (.int .i64 0), (.int .i64 0)]) 72 rfl Try.underlying31 info27 rfl (by decide) (by omega) u8 x8_2 (⟨a1, 0, (rd_T53 l0 x9_2).f0, (⟨0, 0, 0⟩ : S25), (⟨t219, t220, t221⟩ : S25)⟩ : S27) [.int .i64 a1, .int .i64 0, .int .i64 ((rd_T53 l0 x9_2).f0), .int .i64 0, .int .i64 0, .int .i64 0, .int .i64 t219, .int .i64 t220, .int .i64 t221] (fun _ => True) (fun _ => False) rfl rfl ?aP (fun _ hk => hk.elim) ?aF ?aO ?aB ?aS ?aL ?_
                   (case aP => exact k27_mkM _ _ _ (⟨a1, 0, (rd_T53 l0 x9_2).f0, (⟨0, 0, 0⟩ : S25), (⟨t219, t220, t221⟩ : S25)⟩ : S27))
                   (case aB => exact (by repeat (first | (with_reducible first | exact HB.out | apply below_alloc | apply pw_below_drewN | apply below_drew1 | refine below_set ?_ GE212.out | refine below_set ?_ GE223.out) | exact HB.out)))
                   (case aF => exact (fun _ _ => trivial))
                   (case aO => exact (by (with_reducible repeat (first | apply Kd.R_alloc | apply Kd.R_drewN | apply Kd.R_drew)); exact HO_8.out))
                   (case aS => exact (below_size (by repeat (first | (with_reducible first | exact HB.out | apply below_alloc | apply pw_below_drewN | apply below_drew1 | refine below_set ?_ GE212.out | refine below_set ?_ GE223.out) | exact HB.out))))
                   (case aL => have := LMc27.out; omega)
                   intro v226 w34 ho hb hg hat
                   rw [← Ny225.out] at ho
                   have n0_ := Aside0.mk (blk_grown (g := gb212) (o := .cells #[.int .i64 t208, .int .i64 t209, .int .i64 t210] 25 (0, 0)) (by (with_reducible repeat (first | refine blk_drewN ?_ _ | refine blk_drew ?_ | refine blk_alloc ?_ _)); exact BK212.out) hg (Kd.R_ne HO_8.out BK212.out (by decide)))
                   have n1_ := Aside0.mk (blk_grown (g := gb223) (o := .cells #[.int .i64 t219, .int .i64 t220, .int .i64 t221] 25 (0, 0)) (by (with_reducible repeat (first | refine blk_drewN ?_ _ | refine blk_drew ?_ | refine blk_alloc ?_ _)); exact BK223.out) hg (Kd.R_ne HO_8.out BK223.out (by decide)))
                   have n2_ := Aside0.mk (hb)
                   have n3_ := Aside0.mk (ho)
                   clear BK212
                   clear BK223
                   clear HB
                   clear HO_8
                   have BK212 := n0_
                   have BK223 := n1_
                   have HB := n2_
                   have HO227 := n3_
                   clear n0_ n1_ n2_ n3_
                   clear ho hb hg hat
                   refine hK.out _ _ ⟨(blk_cell BK223.out 0).trans rfl, (blk_cell BK223.out 1).trans rfl, (blk_cell BK223.out 2).trans rfl, ((HB.out.cell (World.block_lt_of_cell? w _ hw224_0)).trans hw224_0), ((HB.out.cell (World.block_lt_of_cell? w _ hw224_1)).trans hw224_1), ((HB.out.cell (World.block_lt_of_cell? w _ hw224_2)).trans hw224_2), ((HB.out.cell (World.block_lt_of_cell? w _ hw224_3)).trans hw224_3), ((HB.out.cell (World.block_lt_of_cell? w _ hw224_4)).trans hw224_4), ((HB.out.cell (World.block_lt_of_cell? w _ hw224_5)).trans hw224_5), ((HB.out.cell (World.block_lt_of_cell? w _ hw224_6)).trans hw224_6)⟩ (fun hHeld => ?_)
                   clear hK K
                   refine norm_ (a' := ?_) ?_ ?_
                   rotate_left
                   · show Act.put _ (some 75) _ = _
                     simp only [Act.put, List.setIfInBounds_toArray, List.set_cons_zero, List.set_cons_succ, i64_w, i32_w]
                     rfl
                   refine pure_ (i := 11) (N := some 8) (v := ?_) (a' := ?_) (mS 12 4095) rfl rfl (any_of HT_.out (by kernel_rfl)) (fun _ _ _ h => h) (Or.inl ⟨by rfl, ?_⟩) ?_ ?_
                   rotate_left
                   · intro w'
                     go_simp
                     with_reducible rfl
                   rotate_left
                   · simp only [Act.put, List.setIfInBounds_toArray, List.set_cons_zero, List.set_cons_succ, i64_w, i32_w]
                     rfl
                   refine done_ (done_of HT_.out (by kernel_rfl)) ?_
                   try go_wp2
                   go_roundg k2
                   case measure => have := HJ2.out; have := HK2.out; omega
                   case rel => exact ⟨(y225), (wrap64 (x9_2 + 1)), (by first | rfl | (simp; done) | (simp [*]; done)), H', ⟨by have := HJ2.out; have := HK2.out; omega⟩, ⟨by (with_reducible repeat (first | apply Kd.R_alloc | apply Kd.R_drewN | apply Kd.R_drew)); exact HO227.out⟩, ⟨by (with_reducible repeat (first | refine blk_drewN ?_ _ | refine blk_drew ?_ | refine blk_alloc ?_ _)); exact BK212.out⟩, ⟨by repeat (first | (with_reducible first | exact HB.out | apply below_alloc | apply pw_below_drewN | apply below_drew1 | refine below_set ?_ GE212.out | refine below_set ?_ GE223.out) | exact HB.out)⟩⟩
                 · rw [if_neg c27] at H
                   exact absurd H (by simp)
               · rw [if_neg c25] at H
                 exact absurd H (by simp)
             · rw [if_neg c24] at H
               have c24b0 : decide (x9_2 < (l0.length : Int)) = false := decide_eq_false c24
               clear c24
               simp only [Option.some.injEq, Prod.mk.injEq] at H
               obtain ⟨rfl, rfl⟩ := H
               go_wp2
               go_ret2
               exact ⟨_, by first | rfl | (simp [errW_none, errW_some] <;> rfl) | (simp only [← hji14]; first | rfl | (simp [errW_none, errW_some] <;> rfl)) | (simp [*, errW_none, errW_some] <;> rfl), by (with_reducible repeat (first | apply Kd.R_alloc | apply Kd.R_drewN | apply Kd.R_drew)); exact HO_8.out, by repeat (first | (with_reducible first | exact HB.out | apply below_alloc | apply pw_below_drewN | apply below_drew1 | refine below_set ?_ GE212.out) | exact HB.out)⟩
         · rw [if_neg c16] at H
           exact absurd H (by simp)
       · rw [if_neg c15] at H
         exact absurd H (by simp)
     · rw [if_neg c13] at H
       exact absurd H (by simp)
end Go.Proofs.Ytpmkibggmkibeaa.G
namespace Go.Proofs.Ytpmkibggmkibeaa.G
open Go.RowKit Go.Proofs.YtpmkibggmkibeaaW.PrintWords Go.Proofs.YtpmkibggmkibeaaW.PrintLast Go.Proofs.YtpmkibggmkibeaaW.PrintMore
set_option linter.unusedVariables false
theorem refToMSF_plain {n : Int} (h0 : -150 ≤ n) (h1 : n ≤ 449849) : masterdiscref06_ToMSF.f n = some (msfM n, msfS n, msfF n, 0) := by
 unfold masterdiscref06_ToMSF.f msfM msfS msfF
 rw [if_neg (by omega), if_neg (by omega)]
 have e0 : wrap64 (n + 150) = n + 150 := by unfold wrap64; omega
 rw [e0]
 have e1 : Int.tdiv (n + 150) 4500 = (n + 150) / 4500 := Int.tdiv_eq_ediv_of_nonneg (by omega)
 have e3 : Int.tdiv (n + 150) 75 = (n + 150) / 75 := Int.tdiv_eq_ediv_of_nonneg (by omega)
 rw [e1, e3]
 have e2 : wrap64 ((n + 150) / 4500) = (n + 150) / 4500 := by unfold wrap64; omega
 have e4 : wrap64 ((n + 150) / 75) = (n + 150) / 75 := by unfold wrap64; omega
 rw [e2, e4]
 have e5 : Int.tmod ((n + 150) / 75) 60 = (n + 150) / 75 % 60 := Int.tmod_eq_emod_of_nonneg (by omega)
 have e6 : Int.tmod (n + 150) 75 = (n + 150) % 75 := Int.tmod_eq_emod_of_nonneg (by omega)
 rw [e5, e6, show (n + 150) / 4500 = (n + 150) / 75 / 60 by omega]
theorem refToMSF_out {n : Int} (h : ¬ (-150 ≤ n ∧ n ≤ 449849)) : masterdiscref06_ToMSF.f n = some (0, 0, 0, 2) := by
 unfold masterdiscref06_ToMSF.f
 by_cases h1 : n < -150
 · rw [if_pos h1]
 · rw [if_neg h1, if_pos (by omega)]
theorem refEnd_plain {l : List (S53)} (hs : Ses l) : masterdiscref10_end.f l = some (lastE l) := by
 have h1 := hs.one
 have h9 := hs.most
 have hst := hs.start (l.length - 1) (by omega)
 have hle := hs.len (l.length - 1) (by omega)
 rw [show ((l.length - 1 : Nat) : Int) = (l.length : Int) - 1 by omega] at hst hle
 unfold masterdiscref10_end.f lastE
 have e0 : wrap64 ((l.length : Int) - 1) = (l.length : Int) - 1 := by unfold wrap64; omega
 rw [e0, if_pos (by omega), if_pos (by omega)]
 generalize rd_T53 l ((l.length : Int) - 1) = x at *
 rw [show wrap64 (x.f2 + x.f3) = x.f2 + x.f3 by unfold wrap64; omega]
theorem lastE_range {l : List (S53)} (hs : Ses l) : 1 ≤ lastE l ∧ lastE l ≤ 449849 := by
 have h1 := hs.one
 have hst := hs.start (l.length - 1) (by omega)
 have hle := hs.len (l.length - 1) (by omega)
 rw [show ((l.length - 1 : Nat) : Int) = (l.length : Int) - 1 by omega] at hst hle
 unfold lastE
 omega
theorem refent_rounds {l : List (S53)} (hs : Ses l) (a1 : Int) (d : Nat) : ∀ (i K : Nat), l.length - i = d → i ≤ l.length → d < K →
 masterdiscref10_Entries.l0 K l a1 (entL l a1 i) (i : Int) = some (entL l a1 l.length, 0) := by
 induction d with
 | zero =>
  intro i K hd hi hK
  obtain ⟨K, rfl⟩ : ∃ m, K = m + 1 := ⟨K - 1, by omega⟩
  rw [masterdiscref10_Entries.l0.eq_def]
  dsimp only
  rw [if_neg (by omega), show i = l.length by omega]
 | succ d ih =>
  intro i K hd hi hK
  obtain ⟨K, rfl⟩ : ∃ m, K = m + 1 := ⟨K - 1, by omega⟩
  have h9 := hs.most
  have hst := hs.start i (by omega)
  rw [masterdiscref10_Entries.l0.eq_def]
  dsimp only
  rw [if_pos (by omega), if_pos (by omega), refToMSF_plain (by omega) hst.2]
  simp only [Option.bind_some]
  rw [if_pos (by rw [entL_length]; omega), show wrap64 ((i : Int) + 1) = ((i + 1 : Nat) : Int) by unfold wrap64; omega]
  have := ih (i + 1) K (by omega) (by omega) (by omega)
  rw [entL_succ] at this
  exact this
theorem refent_plain (l : List (S53)) (a1 : Int) : ∃ k, masterdiscref10_Entries.f k l a1 = subchannel_Entries.f l a1 := by
 have j0t : ∀ k, masterdiscref10_Entries.j0 (k + 1) l a1 true = some ([], 1) := fun k => by simp only [masterdiscref10_Entries.j0]; rw [if_pos trivial]
 refine ⟨l.length + 1 + 1, ?_⟩
 unfold masterdiscref10_Entries.f subchannel_Entries.f masterdiscref10_Session.f
 simp only [Option.bind_some]
 cases hb : sesB l with
 | false => rw [if_neg (by decide), if_neg (by simp), j0t]
 | true =>
  rw [if_pos rfl]
  by_cases h1 : a1 < 0
  · rw [if_pos h1, j0t, if_neg (by omega)]
  · rw [if_neg h1]
    by_cases h2 : a1 > 15
    · rw [decide_eq_true h2, j0t, if_neg (by omega)]
    · rw [decide_eq_false h2, if_pos ⟨rfl, by omega, by omega⟩]
      have hs := ses_of hb
      have h9 := hs.most
      have h0 := hs.one
      have hL := lastE_range hs
      simp only [masterdiscref10_Entries.j0]
      rw [if_neg (by decide), refEnd_plain hs]
      simp only [Option.bind_some]
      rw [refToMSF_plain (by omega) (by omega)]
      simp only [Option.bind_some]
      have e0 : wrap64 ((l.length : Int) - 1) = (l.length : Int) - 1 := by unfold wrap64; omega
      rw [e0, if_pos (by omega), if_pos (by omega), if_pos (by omega)]
      exact refent_rounds hs a1 l.length 0 (l.length + 1) (by omega) (by omega) (by omega)
end Go.Proofs.Ytpmkibggmkibeaa.G
namespace Go.Proofs.Ytpmkibggmkibeaa.G
open Go.RowKit Go.Proofs.YtpmkibggmkibeaaW.PrintWords Go.Proofs.YtpmkibggmkibeaaW.PrintLast Go.Proofs.YtpmkibggmkibeaaW.PrintMore
attribute [local go_sem] max2_int min2_int max_two min_two max_three min_three max_four min_four   -- for this text's walks alone
set_option linter.unusedVariables false
set_option linter.unusedSimpArgs false
attribute [local go_sem high] eqA27
def masterdisclaw10_awake.f  : Option (Bool) := (subchannel_Encode.f 4 1 1 0 0 0 0 2 0).bind fun bt169 => ((subchannel_Entries.f (([(⟨1, 0, 0, 300, 0, 0, 0⟩ : S53)] : List (S53))) 4).bind fun bt174 => (if bt169.2 = 0 then (if (bt169.1.size : Int) = 12 then (if 0 ≤ 10 then (if 10 ≤ (bt169.1.size : Int) then (if (bt169.1.extract 0 10).toList = ([65, 1, 1, 0, 0, 0, 0, 0, 2, 0] : List UInt8) then (if bt174.2 = 0 then (if (bt174.1.length : Int) = 4 then (if 2 < (bt174.1.length : Int) then (some (((rd_T27 bt174.1 2).f0) == 4 && (((rd_T27 bt174.1 2).f1) == 0 && (((rd_T27 bt174.1 2).f2) == 162 && ((((rd_T27 bt174.1 2).f3.f0) == 0 && (((rd_T27 bt174.1 2).f3.f1) == 0 && (((rd_T27 bt174.1 2).f3.f2) == 0))) && ((((rd_T27 bt174.1 2).f4.f0) == 0 && (((rd_T27 bt174.1 2).f4.f1) == 6 && (((rd_T27 bt174.1 2).f4.f2) == 0))))))))) else (none)) else (none)) else (none)) else (none)) else (none)) else (none)) else (none)) else (none)))
set_option maxHeartbeats 8000000 in
set_option maxRecDepth 100000 in
theorem masterdisclaw10_awake.calls  (r : Bool) (w : World) (h : masterdisclaw10_awake.f  = some r) :
 Calls Try.prog 10 #[] w fun e w' => e = .returned (.bool r) ∧ Below w.heap.size w w' := by
 have hu25 := Try.underlying25
 have hu27 := Try.underlying27
 have hu53 := Try.underlying53
 have HB := Aside0.mk (Below.refl w.heap.size w)
 have H : ((subchannel_Encode.f 4 1 1 0 0 0 0 2 0).bind fun bt169 => ((subchannel_Entries.f (([(⟨1, 0, 0, 300, 0, 0, 0⟩ : S53)] : List (S53))) 4).bind fun bt174 => (if bt169.2 = 0 then (if (bt169.1.size : Int) = 12 then (if 0 ≤ 10 then (if 10 ≤ (bt169.1.size : Int) then (if (bt169.1.extract 0 10).toList = ([65, 1, 1, 0, 0, 0, 0, 0, 2, 0] : List UInt8) then (if bt174.2 = 0 then (if (bt174.1.length : Int) = 4 then (if 2 < (bt174.1.length : Int) then (some (((rd_T27 bt174.1 2).f0) == 4 && (((rd_T27 bt174.1 2).f1) == 0 && (((rd_T27 bt174.1 2).f2) == 162 && ((((rd_T27 bt174.1 2).f3.f0) == 0 && (((rd_T27 bt174.1 2).f3.f1) == 0 && (((rd_T27 bt174.1 2).f3.f2) == 0))) && ((((rd_T27 bt174.1 2).f4.f0) == 0 && (((rd_T27 bt174.1 2).f4.f1) == 6 && (((rd_T27 bt174.1 2).f4.f2) == 0))))))))) else (none)) else (none)) else (none)) else (none)) else (none)) else (none)) else (none)) else (none)))) = some r := h
 clear h
 replace H := Option.bind_eq_some_iff.mp H
 obtain ⟨⟨t169, t170⟩, A10, H⟩ := H
 replace H : ((subchannel_Entries.f (([(⟨1, 0, 0, 300, 0, 0, 0⟩ : S53)] : List (S53))) 4).bind fun bt174 => (if t170 = 0 then (if (t169.size : Int) = 12 then (if 0 ≤ 10 then (if 10 ≤ (t169.size : Int) then (if (t169.extract 0 10).toList = ([65, 1, 1, 0, 0, 0, 0, 0, 2, 0] : List UInt8) then (if bt174.2 = 0 then (if (bt174.1.length : Int) = 4 then (if 2 < (bt174.1.length : Int) then (some (((rd_T27 bt174.1 2).f0) == 4 && (((rd_T27 bt174.1 2).f1) == 0 && (((rd_T27 bt174.1 2).f2) == 162 && ((((rd_T27 bt174.1 2).f3.f0) == 0 && (((rd_T27 bt174.1 2).f3.f1) == 0 && (((rd_T27 bt174.1 2).f3.f2) == 0))) && ((((rd_T27 bt174.1 2).f4.f0) == 0 && (((rd_T27 bt174.1 2).f4.f1) == 6 && (((rd_T27 bt174.1 2).f4.f2) == 0))))))))) else (none)) else (none)) else (none)) else (none)) else (none)) else (none)) else (none)) else (none))) = some r := H
 have A1 := Aside0.mk A10
 clear A10
 obtain ⟨y171, hy171⟩ : ∃ y_ : List (S53), y_ = (([(⟨1, 0, 0, 300, 0, 0, 0⟩ : S53)] : List (S53))) := ⟨_, rfl⟩
 replace H : ((subchannel_Entries.f y171 4).bind fun bt174 => (if t170 = 0 then (if (t169.size : Int) = 12 then (if 0 ≤ 10 then (if 10 ≤ (t169.size : Int) then (if (t169.extract 0 10).toList = ([65, 1, 1, 0, 0, 0, 0, 0, 2, 0] : List UInt8) then (if bt174.2 = 0 then (if (bt174.1.length : Int) = 4 then (if 2 < (bt174.1.length : Int) then (some (((rd_T27 bt174.1 2).f0) == 4 && (((rd_T27 bt174.1 2).f1) == 0 && (((rd_T27 bt174.1 2).f2) == 162 && ((((rd_T27 bt174.1 2).f3.f0) == 0 && (((rd_T27 bt174.1 2).f3.f1) == 0 && (((rd_T27 bt174.1 2).f3.f2) == 0))) && ((((rd_T27 bt174.1 2).f4.f0) == 0 && (((rd_T27 bt174.1 2).f4.f1) == 6 && (((rd_T27 bt174.1 2).f4.f2) == 0))))))))) else (none)) else (none)) else (none)) else (none)) else (none)) else (none)) else (none)) else (none))) = some r := by first | (rw [hy171]; with_reducible exact H) | (have H2_ := (Option.bind_some _ _).symm.trans H; rw [hy171]; with_reducible exact H2_) | (have H2_ := (Option.bind_some _ _).symm.trans H; with_reducible exact H2_) | with_reducible exact H | (rw [hy171]; exact H) | exact H
 have Ny171 := Aside0.mk hy171
 clear hy171
 replace H := Option.bind_eq_some_iff.mp H
 obtain ⟨⟨t174, t175⟩, A20, H⟩ := H
 replace H : (if t170 = 0 then (if (t169.size : Int) = 12 then (if 0 ≤ 10 then (if 10 ≤ (t169.size : Int) then (if (t169.extract 0 10).toList = ([65, 1, 1, 0, 0, 0, 0, 0, 2, 0] : List UInt8) then (if t175 = 0 then (if (t174.length : Int) = 4 then (if 2 < (t174.length : Int) then (some (((rd_T27 t174 2).f0) == 4 && (((rd_T27 t174 2).f1) == 0 && (((rd_T27 t174 2).f2) == 162 && ((((rd_T27 t174 2).f3.f0) == 0 && (((rd_T27 t174 2).f3.f1) == 0 && (((rd_T27 t174 2).f3.f2) == 0))) && ((((rd_T27 t174 2).f4.f0) == 0 && (((rd_T27 t174 2).f4.f1) == 6 && (((rd_T27 t174 2).f4.f2) == 0))))))))) else (none)) else (none)) else (none)) else (none)) else (none)) else (none)) else (none)) else (none)) = some r := H
 have A2 := Aside0.mk A20
 clear A20
 by_cases c3 : t170 = 0
 · rw [if_pos c3] at H
   have c3b0 : (t170 == 0) = true := beq_iff_eq.mpr c3
   have c3b1 : (t170 != 0) = false := bne_eq_false_iff_eq.mpr c3
   clear c3
   by_cases c4 : (t169.size : Int) = 12
   · rw [if_pos c4] at H
     have c4b0 : ((t169.size : Int) == 12) = true := beq_iff_eq.mpr c4
     have c4b1 : ((t169.size : Int) != 12) = false := bne_eq_false_iff_eq.mpr c4
     clear c4
     by_cases c5 : 0 ≤ 10
     · rw [if_pos c5] at H
       have c5b0 := eq_true c5
       have c5b1 : decide (0 ≤ 10) = true := decide_eq_true c5
       clear c5
       by_cases c6 : 10 ≤ (t169.size : Int)
       · rw [if_pos c6] at H
         have c6b0 := eq_true c6
         have c6b1 : decide (10 ≤ (t169.size : Int)) = true := decide_eq_true c6
         clear c6
         by_cases c7 : (t169.extract 0 10).toList = ([65, 1, 1, 0, 0, 0, 0, 0, 2, 0] : List UInt8)
         · rw [if_pos c7] at H
           have c7b0 : ((t169.extract 0 10).toList == ([65, 1, 1, 0, 0, 0, 0, 0, 2, 0] : List UInt8)) = true := beq_iff_eq.mpr c7
           have c7b1 : ((t169.extract 0 10).toList != ([65, 1, 1, 0, 0, 0, 0, 0, 2, 0] : List UInt8)) = false := bne_eq_false_iff_eq.mpr c7
           clear c7
           by_cases c8 : t175 = 0
           · rw [if_pos c8] at H
             have c8b0 : (t175 == 0) = true := beq_iff_eq.mpr c8
             have c8b1 : (t175 != 0) = false := bne_eq_false_iff_eq.mpr c8
             clear c8
             by_cases c9 : (t174.length : Int) = 4
             · rw [if_pos c9] at H
               have c9b0 : ((t174.length : Int) == 4) = true := beq_iff_eq.mpr c9
               have c9b1 : ((t174.length : Int) != 4) = false := bne_eq_false_iff_eq.mpr c9
               clear c9
               by_cases c10 : 2 < (t174.length : Int)
               · rw [if_pos c10] at H
                 have c10b0 : decide (2 < (t174.length : Int)) = true := decide_eq_true c10
                 have c10b1 : decide (2 < t174.length) = true := decide_eq_true (by omega)
                 clear c10
                 obtain rfl := Option.some.inj H
                 go_enter Try.func10, Try.ntmps10
                 go_wp2_with (first | ((with_reducible refine gate_callee (f := 18) rfl ?_); refine goesL_ (some 8) rfl rfl Try.func18 (by kernel_rfl) rfl #[.agg #[.int .i64 4, .int .i64 1, .int .i64 1, .int .i64 0, .int .i64 0, .int .i64 0, .int .i64 0, .int .i64 2, .int .i64 0]] rfl (by (try simp only [List.map_toArray, List.map_cons, List.map_nil]); first | done | rfl | (simp only [List.length_drop, List.length_take]; rfl)) ?_; (with_reducible refine (subchannel_Encode.calls 4 1 1 0 0 0 0 2 0 t169 t170 _ A1.out).mono ?_); rintro e w11 ⟨rfl, hb⟩; refine ⟨_, rfl, ?_⟩; have n0_ := Aside0.mk (below_step (by repeat (first | (with_reducible first | exact HB.out | apply below_alloc | apply pw_below_drewN | apply below_drew1) | exact HB.out)) hb); clear HB; have HB := n0_; clear n0_; (try clear hb); (try clear hb2); (try clear hk); (try clear hi)) | ((with_reducible refine gate_dst (N := 13) rfl ?_); (try (refine gate_guard (by rfl) ?_; dsimp only)); refine Kd.R_lit k53 _ 53 ?hg (N := 13) ?hd (xs := ([(⟨1, 0, 0, 300, 0, 0, 0⟩ : S53)] : List (S53))) (inner := [.int .i64 1, .int .i64 0, .int .i64 0, .int .i64 300, .int .i64 0, .int .i64 0, .int .i64 0]) (ok := fun _ => True) (okp := fun _ => True) ?hr ?hp (fun _ hk => hk) trivial (Below.refl _ _) (Nat.le_refl _) (by simp) ?_; (case hd => rfl); (case hg => rfl); (case hr => first | (go_simp; done) | (go_simp; rfl)); (case hp => exact (Reps.c7 (show Kd.M k53 _ _ _ (⟨1, 0, 0, 300, 0, 0, 0⟩ : S53) [.int .i64 1, .int .i64 0, .int .i64 0, .int .i64 300, .int .i64 0, .int .i64 0, .int .i64 0] from (k53_mkM _ _ _ (⟨1, 0, 0, 300, 0, 0, 0⟩ : S53) )) (Reps.none _ _))); intro v172 w12 ho13 hb hg_ hnew_; clear hg_ hnew_; (first | rw [← Ny171.out] at ho13 | (simp only [Int.reduceToNat] at ho13; rw [← Ny171.out] at ho13)); have n0_ := Aside0.mk (Kd.R_lower ho13 (below_size (by repeat (first | (with_reducible first | exact HB.out | apply below_alloc | apply pw_below_drewN | apply below_drew1) | exact HB.out)))); have n1_ := Aside0.mk (below_step (by repeat (first | (with_reducible first | exact HB.out | apply below_alloc | apply pw_below_drewN | apply below_drew1) | exact HB.out)) hb); clear HB; have HO173 := n0_; have HB := n1_; clear n0_ n1_; clear hb ho13; obtain ⟨Ao14, co14, eo14⟩ := Kd.R_slice HO173.out; subst eo14) | ((with_reducible refine gate_callee (f := 13) rfl ?_); refine goesL_ (some 14) rfl rfl Try.func13 (by kernel_rfl) rfl #[.slice Ao14 y171.length co14, .int .i64 4] rfl (by (try simp only [List.map_toArray, List.map_cons, List.map_nil]); first | done | rfl | (simp only [List.length_drop, List.length_take]; rfl)) ?_; (with_reducible refine (subchannel_Entries.calls _ _ y171 4 t174 t175 _ ?side1 ?side2 A2.out).mono ?_); (case side1 => repeat (first | exact (Kd.R_reads' HO173.out).2.2 | (with_reducible refine Kd.C_alloc ?_ _) | (with_reducible refine Kd.C_drewN ?_ _) | (with_reducible refine Kd.C_drew ?_))); (case side2 => exact (Kd.R_reads' HO173.out).2.1); rintro e w15 ⟨v176, rfl, ho0, hb⟩; refine ⟨_, rfl, ?_⟩; have n0_ := Aside0.mk (Kd.R_below (by (with_reducible repeat (first | apply Kd.R_alloc | apply Kd.R_drewN | apply Kd.R_drew)); exact HO173.out) hb); have n1_ := Aside0.mk (Kd.R_lower ho0 (below_size (by repeat (first | (with_reducible first | exact HB.out | apply below_alloc | apply pw_below_drewN | apply below_drew1) | exact HB.out)))); have n2_ := Aside0.mk (below_step (by repeat (first | (with_reducible first | exact HB.out | apply below_alloc | apply pw_below_drewN | apply below_drew1) | exact HB.out)) hb); clear HO173; clear HB; have HO173 := n0_; have HO177 := n1_; have HB := n2_; clear n0_ n1_ n2_; (try clear hb); (try clear hb2); (try clear hk); (try clear hi); (try clear ho0); obtain ⟨Ao16, co16, eo16⟩ := Kd.R_slice HO177.out; subst eo16; have p178 : 0 ≤ (2 : Int) := (by omega); have q178 : 2 < (t174.length : Int) := of_decide_eq_true (by first | (with_reducible assumption) | assumption); obtain ⟨ad178, e178, hx178_0, hx178_1, hx178_2, hx178_3, hx178_4, hx178_5, hx178_6, hx178_7, hx178_8⟩ := at_T27 (Kd.R_reads' HO177.out).2.2 2 p178 q178; cases e178; (try simp only [show (2 : Int).toNat = 2 from rfl, Nat.reduceMul, Nat.reduceEqDiff, Go.Addr.add, ↓reduceIte] at hx178_0); (try simp only [show (2 : Int).toNat = 2 from rfl, Nat.reduceMul, Nat.reduceEqDiff, Go.Addr.add, ↓reduceIte] at hx178_1); (try simp only [show (2 : Int).toNat = 2 from rfl, Nat.reduceMul, Nat.reduceEqDiff, Go.Addr.add, ↓reduceIte] at hx178_2); (try simp only [show (2 : Int).toNat = 2 from rfl, Nat.reduceMul, Nat.reduceEqDiff, Go.Addr.add, ↓reduceIte] at hx178_3); (try simp only [show (2 : Int).toNat = 2 from rfl, Nat.reduceMul, Nat.reduceEqDiff, Go.Addr.add, ↓reduceIte] at hx178_4); (try simp only [show (2 : Int).toNat = 2 from rfl, Nat.reduceMul, Nat.reduceEqDiff, Go.Addr.add, ↓reduceIte] at hx178_5); (try simp only [show (2 : Int).toNat = 2 from rfl, Nat.reduceMul, Nat.reduceEqDiff, Go.Addr.add, ↓reduceIte] at hx178_6); (try simp only [show (2 : Int).toNat = 2 from rfl, Nat.reduceMul, Nat.reduceEqDiff, Go.Addr.add, ↓reduceIte] at hx178_7); (try simp only [show (2 : Int).toNat = 2 from rfl, Nat.reduceMul, Nat.reduceEqDiff, Go.Addr.add, ↓reduceIte] at hx178_8); have qi178 : (2 < t174.length) = True := eq_true (by omega); (try rw [show ((2 : Int)).toNat = 2 from rfl] at hx178_0); (try rw [show 2 * 9 = 18 from rfl] at hx178_0); (try rw [show ((2 : Int)).toNat = 2 from rfl] at hx178_1); (try rw [show 2 * 9 = 18 from rfl] at hx178_1); (try rw [show ((2 : Int)).toNat = 2 from rfl] at hx178_2); (try rw [show 2 * 9 = 18 from rfl] at hx178_2); (try rw [show ((2 : Int)).toNat = 2 from rfl] at hx178_3); (try rw [show 2 * 9 = 18 from rfl] at hx178_3); (try rw [show ((2 : Int)).toNat = 2 from rfl] at hx178_4); (try rw [show 2 * 9 = 18 from rfl] at hx178_4); (try rw [show ((2 : Int)).toNat = 2 from rfl] at hx178_5); (try rw [show 2 * 9 = 18 from rfl] at hx178_5); (try rw [show ((2 : Int)).toNat = 2 from rfl] at hx178_6); (try rw [show 2 * 9 = 18 from rfl] at hx178_6); (try rw [show ((2 : Int)).toNat = 2 from rfl] at hx178_7); (try rw [show 2 * 9 = 18 from rfl] at hx178_7); (try rw [show ((2 : Int)).toNat = 2 from rfl] at hx178_8); (try rw [show 2 * 9 = 18 from rfl] at hx178_8); replace p178 := eq_true p178; replace q178 := eq_true q178))
                 go_ret
                 exact ⟨by first | rfl | (simp [errW_none, errW_some] <;> rfl) | (simp [*, errW_none, errW_some] <;> rfl), by repeat (first | (with_reducible first | exact HB.out | apply below_alloc | apply pw_below_drewN | apply below_drew1) | exact HB.out)⟩
               · rw [if_neg c10] at H
                 exact absurd H (by simp)
             · rw [if_neg c9] at H
               exact absurd H (by simp)
           · rw [if_neg c8] at H
             exact absurd H (by simp)
         · rw [if_neg c7] at H
           exact absurd H (by simp)
       · rw [if_neg c6] at H
         exact absurd H (by simp)
     · rw [if_neg c5] at H
       exact absurd H (by simp)
   · rw [if_neg c4] at H
     exact absurd H (by simp)
 · rw [if_neg c3] at H
   exact absurd H (by simp)
end Go.Proofs.Ytpmkibggmkibeaa.G
namespace Go.Proofs.Ytpmkibggmkibeaa.G
open Go.RowKit
set_option maxRecDepth 100000 in
theorem awake_plain : masterdisclaw10_awake.f = some true := by decide +kernel
end Go.Proofs.Ytpmkibggmkibeaa.G
namespace Go.Proofs.Ytpmkibggmkibeaa.G
open Go.RowKit Go.Proofs.YtpmkibggmkibeaaW.PrintWords Go.Proofs.YtpmkibggmkibeaaW.PrintLast Go.Proofs.YtpmkibggmkibeaaW.PrintMore
attribute [local go_sem] max2_int min2_int max_two min_two max_three min_three max_four min_four   -- for this text's walks alone
set_option linter.unusedVariables false
set_option linter.unusedSimpArgs false
def masterdiscref06_Valid.f (a0_0 : Int) (a0_1 : Int) (a0_2 : Int) : Option (Bool) := if a0_0 ≥ 0 then (if a0_0 ≤ 99 then (if a0_1 ≥ 0 then (if a0_1 ≤ 59 then (if a0_2 ≥ 0 then (some (decide (a0_2 ≤ 74))) else (some false)) else (some false)) else (some false)) else (some false)) else (some false)
set_option maxHeartbeats 8000000 in
set_option maxRecDepth 100000 in
theorem masterdiscref06_Valid.calls (a0_0 : Int) (a0_1 : Int) (a0_2 : Int) (r : Bool) (w : World) (h : masterdiscref06_Valid.f a0_0 a0_1 a0_2 = some r) :
 Calls Try.prog 63 #[.agg #[.int .i64 a0_0, .int .i64 a0_1, .int .i64 a0_2]] w fun e w' => e = .returned (.bool r) ∧ Below w.heap.size w w' := by
 have hu25 := Try.underlying25
 have HB := Aside0.mk (Below.refl w.heap.size w)
 have H : (if a0_0 ≥ 0 then (if a0_0 ≤ 99 then (if a0_1 ≥ 0 then (if a0_1 ≤ 59 then (if a0_2 ≥ 0 then (some (decide (a0_2 ≤ 74))) else (some false)) else (some false)) else (some false)) else (some false)) else (some false)) = some r := h
 clear h
 by_cases c2 : a0_0 ≥ 0
 · rw [if_pos c2] at H
   have c2b0 : decide (0 ≤ a0_0) = true := decide_eq_true c2
   clear c2
   by_cases c3 : a0_0 ≤ 99
   · rw [if_pos c3] at H
     have c3b0 : decide (a0_0 ≤ 99) = true := decide_eq_true c3
     clear c3
     by_cases c4 : a0_1 ≥ 0
     · rw [if_pos c4] at H
       have c4b0 : decide (0 ≤ a0_1) = true := decide_eq_true c4
       clear c4
       by_cases c5 : a0_1 ≤ 59
       · rw [if_pos c5] at H
         have c5b0 : decide (a0_1 ≤ 59) = true := decide_eq_true c5
         clear c5
         by_cases c6 : a0_2 ≥ 0
         · rw [if_pos c6] at H
           have c6b0 : decide (0 ≤ a0_2) = true := decide_eq_true c6
           clear c6
           obtain rfl := Option.some.inj H
           go_enter Try.func63, Try.ntmps63
           go_wp2_with (first | ((with_reducible refine gate_dst (N := 1) rfl ?_); refine box_event ?hg (N := 1) ?hd (cs := #[.int .i64 a0_0, .int .i64 a0_1, .int .i64 a0_2]) (t := 25) ?hr ?_; (case hd => rfl); (case hg => rfl); (case hr => first | (go_simp; done) | (go_simp; rfl)); intro gb330 hg w7 hbox hb; have n0_ := Aside0.mk (below_step (by repeat (first | (with_reducible first | exact HB.out | apply below_alloc | apply pw_below_drewN | apply below_drew1) | exact HB.out)) hb); have n1_ := Aside0.mk (hbox); have n2_ := Aside0.mk ((by rw [hg]; exact (below_size (by repeat (first | (with_reducible first | exact HB.out | apply below_alloc | apply pw_below_drewN | apply below_drew1) | exact HB.out))) : w.heap.size ≤ gb330)); have n3_ := Aside0.mk ((by rw [hg]; exact (below_size (by repeat (first | (with_reducible first | exact HB.out | apply below_alloc | apply pw_below_drewN | apply below_drew1) | exact HB.out))) : w.heap.size ≤ gb330)); clear HB; have HB := n0_; have BK330 := n1_; have GW330 := n2_; have GE330 := n3_; clear n0_ n1_ n2_ n3_; clear hb hbox hg; obtain ⟨hcz8_0, hcz8_1, hcz8_2⟩ := cel3 BK330.out; obtain ⟨hfz8_0, hfz8_1, hfz8_2⟩ := frz3 BK330.out))
           go_ret
           exact ⟨by first | rfl | (simp [errW_none, errW_some] <;> rfl) | (simp [*, errW_none, errW_some] <;> rfl), by repeat (first | (with_reducible first | exact HB.out | apply below_alloc | apply pw_below_drewN | apply below_drew1 | refine below_set ?_ GE330.out) | exact HB.out)⟩
         · rw [if_neg c6] at H
           have c6b0 : decide (0 ≤ a0_2) = false := decide_eq_false c6
           clear c6
           obtain rfl := Option.some.inj H
           go_enter Try.func63, Try.ntmps63
           go_wp2_with (first | ((with_reducible refine gate_dst (N := 1) rfl ?_); refine box_event ?hg (N := 1) ?hd (cs := #[.int .i64 a0_0, .int .i64 a0_1, .int .i64 a0_2]) (t := 25) ?hr ?_; (case hd => rfl); (case hg => rfl); (case hr => first | (go_simp; done) | (go_simp; rfl)); intro gb330 hg w9 hbox hb; have n0_ := Aside0.mk (below_step (by repeat (first | (with_reducible first | exact HB.out | apply below_alloc | apply pw_below_drewN | apply below_drew1) | exact HB.out)) hb); have n1_ := Aside0.mk (hbox); have n2_ := Aside0.mk ((by rw [hg]; exact (below_size (by repeat (first | (with_reducible first | exact HB.out | apply below_alloc | apply pw_below_drewN | apply below_drew1) | exact HB.out))) : w.heap.size ≤ gb330)); have n3_ := Aside0.mk ((by rw [hg]; exact (below_size (by repeat (first | (with_reducible first | exact HB.out | apply below_alloc | apply pw_below_drewN | apply below_drew1) | exact HB.out))) : w.heap.size ≤ gb330)); clear HB; have HB := n0_; have BK330 := n1_; have GW330 := n2_; have GE330 := n3_; clear n0_ n1_ n2_ n3_; clear hb hbox hg; obtain ⟨hcz10_0, hcz10_1, hcz10_2⟩ := cel3 BK330.out; obtain ⟨hfz10_0, hfz10_1, hfz10_2⟩ := frz3 BK330.out))
           go_ret
           exact ⟨by first | rfl | (simp [errW_none, errW_some] <;> rfl) | (simp [*, errW_none, errW_some] <;> rfl), by repeat (first | (with_reducible first | exact HB.out | apply below_alloc | apply pw_below_drewN | apply below_drew1 | refine below_set ?_ GE330.out) | exact HB.out)⟩
       · rw [if_neg c5] at H
         have c5b0 : decide (a0_1 ≤ 59) = false := decide_eq_false c5
         clear c5
         obtain rfl := Option.some.inj H
         go_enter Try.func63, Try.ntmps63
         go_wp2_with (first | ((with_reducible refine gate_dst (N := 1) rfl ?_); refine box_event ?hg (N := 1) ?hd (cs := #[.int .i64 a0_0, .int .i64 a0_1, .int .i64 a0_2]) (t := 25) ?hr ?_; (case hd => rfl); (case hg => rfl); (case hr => first | (go_simp; done) | (go_simp; rfl)); intro gb330 hg w11 hbox hb; have n0_ := Aside0.mk (below_step (by repeat (first | (with_reducible first | exact HB.out | apply below_alloc | apply pw_below_drewN | apply below_drew1) | exact HB.out)) hb); have n1_ := Aside0.mk (hbox); have n2_ := Aside0.mk ((by rw [hg]; exact (below_size (by repeat (first | (with_reducible first | exact HB.out | apply below_alloc | apply pw_below_drewN | apply below_drew1) | exact HB.out))) : w.heap.size ≤ gb330)); have n3_ := Aside0.mk ((by rw [hg]; exact (below_size (by repeat (first | (with_reducible first | exact HB.out | apply below_alloc | apply pw_below_drewN | apply below_drew1) | exact HB.out))) : w.heap.size ≤ gb330)); clear HB; have HB := n0_; have BK330 := n1_; have GW330 := n2_; have GE330 := n3_; clear n0_ n1_ n2_ n3_; clear hb hbox hg; obtain ⟨hcz12_0, hcz12_1, hcz12_2⟩ := cel3 BK330.out; obtain ⟨hfz12_0, hfz12_1, hfz12_2⟩ := frz3 BK330.out))
         go_ret
         exact ⟨by first | rfl | (simp [errW_none, errW_some] <;> rfl) | (simp [*, errW_none, errW_some] <;> rfl), by repeat (first | (with_reducible first | exact HB.out | apply below_alloc | apply pw_below_drewN | apply below_drew1 | refine below_set ?_ GE330.out) | exact HB.out)⟩
     · rw [if_neg c4] at H
       have c4b0 : decide (0 ≤ a0_1) = false := decide_eq_false c4
       clear c4
       obtain rfl := Option.some.inj H
       go_enter Try.func63, Try.ntmps63
       go_wp2_with (first | ((with_reducible refine gate_dst (N := 1) rfl ?_); refine box_event ?hg (N := 1) ?hd (cs := #[.int .i64 a0_0, .int .i64 a0_1, .int .i64 a0_2]) (t := 25) ?hr ?_; (case hd => rfl); (case hg => rfl); (case hr => first | (go_simp; done) | (go_simp; rfl)); intro gb330 hg w13 hbox hb; have n0_ := Aside0.mk (below_step (by repeat (first | (with_reducible first | exact HB.out | apply below_alloc | apply pw_below_drewN | apply below_drew1) | exact HB.out)) hb); have n1_ := Aside0.mk (hbox); have n2_ := Aside0.mk ((by rw [hg]; exact (below_size (by repeat (first | (with_reducible first | exact HB.out | apply below_alloc | apply pw_below_drewN | apply below_drew1) | exact HB.out))) : w.heap.size ≤ gb330)); have n3_ := Aside0.mk ((by rw [hg]; exact (below_size (by repeat (first | (with_reducible first | exact HB.out | apply below_alloc | apply pw_below_drewN | apply below_drew1) | exact HB.out))) : w.heap.size ≤ gb330)); clear HB; have HB := n0_; have BK330 := n1_; have GW330 := n2_; have GE330 := n3_; clear n0_ n1_ n2_ n3_; clear hb hbox hg; obtain ⟨hcz14_0, hcz14_1, hcz14_2⟩ := cel3 BK330.out; obtain ⟨hfz14_0, hfz14_1, hfz14_2⟩ := frz3 BK330.out))
       go_ret
       exact ⟨by first | rfl | (simp [errW_none, errW_some] <;> rfl) | (simp [*, errW_none, errW_some] <;> rfl), by repeat (first | (with_reducible first | exact HB.out | apply below_alloc | apply pw_below_drewN | apply below_drew1 | refine below_set ?_ GE330.out) | exact HB.out)⟩
   · rw [if_neg c3] at H
     have c3b0 : decide (a0_0 ≤ 99) = false := decide_eq_false c3
     clear c3
     obtain rfl := Option.some.inj H
     go_enter Try.func63, Try.ntmps63
     go_wp2_with (first | ((with_reducible refine gate_dst (N := 1) rfl ?_); refine box_event ?hg (N := 1) ?hd (cs := #[.int .i64 a0_0, .int .i64 a0_1, .int .i64 a0_2]) (t := 25) ?hr ?_; (case hd => rfl); (case hg => rfl); (case hr => first | (go_simp; done) | (go_simp; rfl)); intro gb330 hg w15 hbox hb; have n0_ := Aside0.mk (below_step (by repeat (first | (with_reducible first | exact HB.out | apply below_alloc | apply pw_below_drewN | apply below_drew1) | exact HB.out)) hb); have n1_ := Aside0.mk (hbox); have n2_ := Aside0.mk ((by rw [hg]; exact (below_size (by repeat (first | (with_reducible first | exact HB.out | apply below_alloc | apply pw_below_drewN | apply below_drew1) | exact HB.out))) : w.heap.size ≤ gb330)); have n3_ := Aside0.mk ((by rw [hg]; exact (below_size (by repeat (first | (with_reducible first | exact HB.out | apply below_alloc | apply pw_below_drewN | apply below_drew1) | exact HB.out))) : w.heap.size ≤ gb330)); clear HB; have HB := n0_; have BK330 := n1_; have GW330 := n2_; have GE330 := n3_; clear n0_ n1_ n2_ n3_; clear hb hbox hg; obtain ⟨hcz16_0, hcz16_1, hcz16_2⟩ := cel3 BK330.out; obtain ⟨hfz16_0, hfz16_1, hfz16_2⟩ := frz3 BK330.out))
     go_ret
     exact ⟨by first | rfl | (simp [errW_none, errW_some] <;> rfl) | (simp [*, errW_none, errW_some] <;> rfl), by repeat (first | (with_reducible first | exact HB.out | apply below_alloc | apply pw_below_drewN | apply below_drew1 | refine below_set ?_ GE330.out) | exact HB.out)⟩
 · rw [if_neg c2] at H
   have c2b0 : decide (0 ≤ a0_0) = false := decide_eq_false c2
   clear c2
   obtain rfl := Option.some.inj H
   go_enter Try.func63, Try.ntmps63
   go_wp2_with (first | ((with_reducible refine gate_dst (N := 1) rfl ?_); refine box_event ?hg (N := 1) ?hd (cs := #[.int .i64 a0_0, .int .i64 a0_1, .int .i64 a0_2]) (t := 25) ?hr ?_; (case hd => rfl); (case hg => rfl); (case hr => first | (go_simp; done) | (go_simp; rfl)); intro gb330 hg w17 hbox hb; have n0_ := Aside0.mk (below_step (by repeat (first | (with_reducible first | exact HB.out | apply below_alloc | apply pw_below_drewN | apply below_drew1) | exact HB.out)) hb); have n1_ := Aside0.mk (hbox); have n2_ := Aside0.mk ((by rw [hg]; exact (below_size (by repeat (first | (with_reducible first | exact HB.out | apply below_alloc | apply pw_below_drewN | apply below_drew1) | exact HB.out))) : w.heap.size ≤ gb330)); have n3_ := Aside0.mk ((by rw [hg]; exact (below_size (by repeat (first | (with_reducible first | exact HB.out | apply below_alloc | apply pw_below_drewN | apply below_drew1) | exact HB.out))) : w.heap.size ≤ gb330)); clear HB; have HB := n0_; have BK330 := n1_; have GW330 := n2_; have GE330 := n3_; clear n0_ n1_ n2_ n3_; clear hb hbox hg; obtain ⟨hcz18_0, hcz18_1, hcz18_2⟩ := cel3 BK330.out; obtain ⟨hfz18_0, hfz18_1, hfz18_2⟩ := frz3 BK330.out))
   go_ret
   exact ⟨by first | rfl | (simp [errW_none, errW_some] <;> rfl) | (simp [*, errW_none, errW_some] <;> rfl), by repeat (first | (with_reducible first | exact HB.out | apply below_alloc | apply pw_below_drewN | apply below_drew1 | refine below_set ?_ GE330.out) | exact HB.out)⟩
end Go.Proofs.Ytpmkibggmkibeaa.G
namespace Go.Proofs.Ytpmkibggmkibeaa.G
open Go.RowKit Go.Proofs.YtpmkibggmkibeaaW.PrintWords Go.Proofs.YtpmkibggmkibeaaW.PrintLast Go.Proofs.YtpmkibggmkibeaaW.PrintMore
attribute [local go_sem] max2_int min2_int max_two min_two max_three min_three max_four min_four   -- for this text's walks alone
set_option linter.unusedVariables false
set_option linter.unusedSimpArgs false
def masterdiscref06_number.f (a0_0 : Int) (a0_1 : Int) (a0_2 : Int) : Option (Int) := some (wrap64 ((wrap64 ((wrap64 ((wrap64 (60 * a0_0)) + a0_1)) * 75)) + a0_2))
set_option maxHeartbeats 8000000 in
set_option maxRecDepth 100000 in
theorem masterdiscref06_number.calls (a0_0 : Int) (a0_1 : Int) (a0_2 : Int) (r : Int) (w : World) (h : masterdiscref06_number.f a0_0 a0_1 a0_2 = some r) :
 Calls Try.prog 64 #[.agg #[.int .i64 a0_0, .int .i64 a0_1, .int .i64 a0_2]] w fun e w' => e = .returned (.int .i64 r) ∧ Below w.heap.size w w' := by
 have hu25 := Try.underlying25
 have HB := Aside0.mk (Below.refl w.heap.size w)
 have H : (some (wrap64 ((wrap64 ((wrap64 ((wrap64 (60 * a0_0)) + a0_1)) * 75)) + a0_2))) = some r := h
 clear h
 obtain rfl := Option.some.inj H
 go_enter Try.func64, Try.ntmps64
 go_wp2_with (first | ((with_reducible refine gate_dst (N := 1) rfl ?_); refine box_event ?hg (N := 1) ?hd (cs := #[.int .i64 a0_0, .int .i64 a0_1, .int .i64 a0_2]) (t := 25) ?hr ?_; (case hd => rfl); (case hg => rfl); (case hr => first | (go_simp; done) | (go_simp; rfl)); intro gb331 hg w2 hbox hb; have n0_ := Aside0.mk (below_step (by repeat (first | (with_reducible first | exact HB.out | apply below_alloc | apply pw_below_drewN | apply below_drew1) | exact HB.out)) hb); have n1_ := Aside0.mk (hbox); have n2_ := Aside0.mk ((by rw [hg]; exact (below_size (by repeat (first | (with_reducible first | exact HB.out | apply below_alloc | apply pw_below_drewN | apply below_drew1) | exact HB.out))) : w.heap.size ≤ gb331)); have n3_ := Aside0.mk ((by rw [hg]; exact (below_size (by repeat (first | (with_reducible first | exact HB.out | apply below_alloc | apply pw_below_drewN | apply below_drew1) | exact HB.out))) : w.heap.size ≤ gb331)); clear HB; have HB := n0_; have BK331 := n1_; have GW331 := n2_; have GE331 := n3_; clear n0_ n1_ n2_ n3_; clear hb hbox hg; obtain ⟨hcz3_0, hcz3_1, hcz3_2⟩ := cel3 BK331.out; obtain ⟨hfz3_0, hfz3_1, hfz3_2⟩ := frz3 BK331.out))
 go_ret
 exact ⟨by first | rfl | (simp [errW_none, errW_some] <;> rfl) | (simp [*, errW_none, errW_some] <;> rfl), by repeat (first | (with_reducible first | exact HB.out | apply below_alloc | apply pw_below_drewN | apply below_drew1 | refine below_set ?_ GE331.out) | exact HB.out)⟩
end Go.Proofs.Ytpmkibggmkibeaa.G
namespace Go.Proofs.Ytpmkibggmkibeaa.G
open Go.RowKit Go.Proofs.YtpmkibggmkibeaaW.PrintWords Go.Proofs.YtpmkibggmkibeaaW.PrintLast Go.Proofs.YtpmkibggmkibeaaW.PrintMore
attribute [local go_sem] max2_int min2_int max_two min_two max_three min_three max_four min_four   -- for this text's walks alone
set_option linter.unusedVariables false
set_option linter.unusedSimpArgs false
def masterdiscref06_ToLBA.f (a0_0 : Int) (a0_1 : Int) (a0_2 : Int) : Option (Int × Int) := (masterdiscref06_Valid.f a0_0 a0_1 a0_2).bind fun t333 => (if t333 = true then ((masterdiscref06_number.f a0_0 a0_1 a0_2).bind fun t334 => (some (wrap64 (t334 - 150), 0))) else (some (0, 1)))
set_option maxHeartbeats 8000000 in
set_option maxRecDepth 100000 in
theorem masterdiscref06_ToLBA.calls (a0_0 : Int) (a0_1 : Int) (a0_2 : Int) (r1 : Int) (r2 : Int) (w : World) (h : masterdiscref06_ToLBA.f a0_0 a0_1 a0_2 = some (r1, r2)) :
 Calls Try.prog 45 #[.agg #[.int .i64 a0_0, .int .i64 a0_1, .int .i64 a0_2]] w fun e w' => e = .returned (.tuple #[.int .i64 r1, .int .i64 r2]) ∧ Below w.heap.size w w' := by
 have hu25 := Try.underlying25
 have HB := Aside0.mk (Below.refl w.heap.size w)
 have H : ((masterdiscref06_Valid.f a0_0 a0_1 a0_2).bind fun t333 => (if t333 = true then ((masterdiscref06_number.f a0_0 a0_1 a0_2).bind fun t334 => (some (wrap64 (t334 - 150), 0))) else (some (0, 1)))) = some (r1, r2) := h
 clear h
 replace H := Option.bind_eq_some_iff.mp H
 obtain ⟨t333, A20, H⟩ := H
 replace H : (if t333 = true then ((masterdiscref06_number.f a0_0 a0_1 a0_2).bind fun t334 => (some (wrap64 (t334 - 150), 0))) else (some (0, 1))) = some (r1, r2) := H
 have A2 := Aside0.mk A20
 clear A20
 by_cases c3 : t333 = true
 · subst c3
   have H1 : ((masterdiscref06_number.f a0_0 a0_1 a0_2).bind fun t334 => (some (wrap64 (t334 - 150), 0))) = some (r1, r2) := by rw [if_pos rfl] at H; exact H
   clear H
   have H := H1
   clear H1
   replace H := Option.bind_eq_some_iff.mp H
   obtain ⟨t334, A40, H⟩ := H
   replace H : (some (wrap64 (t334 - 150), 0)) = some (r1, r2) := H
   have A4 := Aside0.mk A40
   clear A40
   simp only [Option.some.injEq, Prod.mk.injEq] at H
   obtain ⟨rfl, rfl⟩ := H
   go_enter Try.func45, Try.ntmps45
   go_wp2_with (first | ((with_reducible refine gate_dst (N := 1) rfl ?_); refine box_event ?hg (N := 1) ?hd (cs := #[.int .i64 a0_0, .int .i64 a0_1, .int .i64 a0_2]) (t := 25) ?hr ?_; (case hd => rfl); (case hg => rfl); (case hr => first | (go_simp; done) | (go_simp; rfl)); intro gb332 hg w5 hbox hb; have n0_ := Aside0.mk (below_step (by repeat (first | (with_reducible first | exact HB.out | apply below_alloc | apply pw_below_drewN | apply below_drew1) | exact HB.out)) hb); have n1_ := Aside0.mk (hbox); have n2_ := Aside0.mk ((by rw [hg]; exact (below_size (by repeat (first | (with_reducible first | exact HB.out | apply below_alloc | apply pw_below_drewN | apply below_drew1) | exact HB.out))) : w.heap.size ≤ gb332)); have n3_ := Aside0.mk ((by rw [hg]; exact (below_size (by repeat (first | (with_reducible first | exact HB.out | apply below_alloc | apply pw_below_drewN | apply below_drew1) | exact HB.out))) : w.heap.size ≤ gb332)); clear HB; have HB := n0_; have BK332 := n1_; have GW332 := n2_; have GE332 := n3_; clear n0_ n1_ n2_ n3_; clear hb hbox hg; obtain ⟨hcz6_0, hcz6_1, hcz6_2⟩ := cel3 BK332.out; obtain ⟨hfz6_0, hfz6_1, hfz6_2⟩ := frz3 BK332.out) | ((with_reducible refine gate_callee (f := 63) rfl ?_); refine goesL_ (some 5) rfl rfl Try.func63 (by kernel_rfl) rfl #[.agg #[.int .i64 a0_0, .int .i64 a0_1, .int .i64 a0_2]] rfl (by (try simp only [List.map_toArray, List.map_cons, List.map_nil]); first | done | rfl | (simp only [List.length_drop, List.length_take]; rfl)) ?_; (with_reducible refine (masterdiscref06_Valid.calls a0_0 a0_1 a0_2 true _ A2.out).mono ?_); rintro e w7 ⟨rfl, hb⟩; refine ⟨_, rfl, ?_⟩; have n0_ := Aside0.mk (blk_below (g := gb332) (o := .cells #[.int .i64 a0_0, .int .i64 a0_1, .int .i64 a0_2] 25 (0, 0)) (by (with_reducible repeat (first | refine blk_drewN ?_ _ | refine blk_drew ?_ | refine blk_alloc ?_ _)); exact BK332.out) hb); have n1_ := Aside0.mk (below_step (by repeat (first | (with_reducible first | exact HB.out | apply below_alloc | apply pw_below_drewN | apply below_drew1 | refine below_set ?_ GE332.out) | exact HB.out)) hb); clear BK332; clear HB; have BK332 := n0_; have HB := n1_; clear n0_ n1_; (try clear hb); (try clear hb2); (try clear hk); (try clear hi); obtain ⟨hcz8_0, hcz8_1, hcz8_2⟩ := cel3 BK332.out; obtain ⟨hfz8_0, hfz8_1, hfz8_2⟩ := frz3 BK332.out) | ((with_reducible refine gate_callee (f := 64) rfl ?_); refine goesL_ (some 8) rfl rfl Try.func64 (by kernel_rfl) rfl #[.agg #[.int .i64 a0_0, .int .i64 a0_1, .int .i64 a0_2]] rfl (by (try simp only [List.map_toArray, List.map_cons, List.map_nil]); first | done | rfl | (simp only [List.length_drop, List.length_take]; rfl)) ?_; (with_reducible refine (masterdiscref06_number.calls a0_0 a0_1 a0_2 t334 _ A4.out).mono ?_); rintro e w9 ⟨rfl, hb⟩; refine ⟨_, rfl, ?_⟩; have n0_ := Aside0.mk (blk_below (g := gb332) (o := .cells #[.int .i64 a0_0, .int .i64 a0_1, .int .i64 a0_2] 25 (0, 0)) (by (with_reducible repeat (first | refine blk_drewN ?_ _ | refine blk_drew ?_ | refine blk_alloc ?_ _)); exact BK332.out) hb); have n1_ := Aside0.mk (below_step (by repeat (first | (with_reducible first | exact HB.out | apply below_alloc | apply pw_below_drewN | apply below_drew1 | refine below_set ?_ GE332.out) | exact HB.out)) hb); clear BK332; clear HB; have BK332 := n0_; have HB := n1_; clear n0_ n1_; (try clear hb); (try clear hb2); (try clear hk); (try clear hi)))
   go_ret2
   exact ⟨by first | rfl | (simp [errW_none, errW_some] <;> rfl) | (simp [*, errW_none, errW_some] <;> rfl), by repeat (first | (with_reducible first | exact HB.out | apply below_alloc | apply pw_below_drewN | apply below_drew1 | refine below_set ?_ GE332.out) | exact HB.out)⟩
 · replace c3 := Bool.eq_false_iff.mpr c3
   subst c3
   have H1 : (some (0, 1)) = some (r1, r2) := by rw [if_neg (show ¬ (false = true) by decide)] at H; exact H
   clear H
   have H := H1
   clear H1
   simp only [Option.some.injEq, Prod.mk.injEq] at H
   obtain ⟨rfl, rfl⟩ := H
   go_enter Try.func45, Try.ntmps45
   go_wp2_with (first | ((with_reducible refine gate_dst (N := 1) rfl ?_); refine box_event ?hg (N := 1) ?hd (cs := #[.int .i64 a0_0, .int .i64 a0_1, .int .i64 a0_2]) (t := 25) ?hr ?_; (case hd => rfl); (case hg => rfl); (case hr => first | (go_simp; done) | (go_simp; rfl)); intro gb332 hg w10 hbox hb; have n0_ := Aside0.mk (below_step (by repeat (first | (with_reducible first | exact HB.out | apply below_alloc | apply pw_below_drewN | apply below_drew1) | exact HB.out)) hb); have n1_ := Aside0.mk (hbox); have n2_ := Aside0.mk ((by rw [hg]; exact (below_size (by repeat (first | (with_reducible first | exact HB.out | apply below_alloc | apply pw_below_drewN | apply below_drew1) | exact HB.out))) : w.heap.size ≤ gb332)); have n3_ := Aside0.mk ((by rw [hg]; exact (below_size (by repeat (first | (with_reducible first | exact HB.out | apply below_alloc | apply pw_below_drewN | apply below_drew1) | exact HB.out))) : w.heap.size ≤ gb332)); clear HB; have HB := n0_; have BK332 := n1_; have GW332 := n2_; have GE332 := n3_; clear n0_ n1_ n2_ n3_; clear hb hbox hg; obtain ⟨hcz11_0, hcz11_1, hcz11_2⟩ := cel3 BK332.out; obtain ⟨hfz11_0, hfz11_1, hfz11_2⟩ := frz3 BK332.out) | ((with_reducible refine gate_callee (f := 63) rfl ?_); refine goesL_ (some 5) rfl rfl Try.func63 (by kernel_rfl) rfl #[.agg #[.int .i64 a0_0, .int .i64 a0_1, .int .i64 a0_2]] rfl (by (try simp only [List.map_toArray, List.map_cons, List.map_nil]); first | done | rfl | (simp only [List.length_drop, List.length_take]; rfl)) ?_; (with_reducible refine (masterdiscref06_Valid.calls a0_0 a0_1 a0_2 false _ A2.out).mono ?_); rintro e w12 ⟨rfl, hb⟩; refine ⟨_, rfl, ?_⟩; have n0_ := Aside0.mk (blk_below (g := gb332) (o := .cells #[.int .i64 a0_0, .int .i64 a0_1, .int .i64 a0_2] 25 (0, 0)) (by (with_reducible repeat (first | refine blk_drewN ?_ _ | refine blk_drew ?_ | refine blk_alloc ?_ _)); exact BK332.out) hb); have n1_ := Aside0.mk (below_step (by repeat (first | (with_reducible first | exact HB.out | apply below_alloc | apply pw_below_drewN | apply below_drew1 | refine below_set ?_ GE332.out) | exact HB.out)) hb); clear BK332; clear HB; have BK332 := n0_; have HB := n1_; clear n0_ n1_; (try clear hb); (try clear hb2); (try clear hk); (try clear hi)))
   go_ret2
   exact ⟨by first | rfl | (simp [errW_none, errW_some] <;> rfl) | (simp [*, errW_none, errW_some] <;> rfl), by repeat (first | (with_reducible first | exact HB.out | apply below_alloc | apply pw_below_drewN | apply below_drew1 | refine below_set ?_ GE332.out) | exact HB.out)⟩
end Go.Proofs.Ytpmkibggmkibeaa.G
namespace Go.Proofs.Ytpmkibggmkibeaa.G
open Go.RowKit Go.Proofs.YtpmkibggmkibeaaW.PrintWords Go.Proofs.YtpmkibggmkibeaaW.PrintLast Go.Proofs.YtpmkibggmkibeaaW.PrintMore
attribute [local go_sem] max2_int min2_int max_two min_two max_three min_three max_four min_four   -- for this text's walks alone
set_option linter.unusedVariables false
set_option linter.unusedSimpArgs false
attribute [local go_sem high] eqA27
mutual
def masterdiscref10_Collect.j0 : Nat → List (S27) → Bool → Option (List Int × Int × Int)
 | 0, _, _ => none
 | k + 1, x0, x24 => if x24 = true then (some (([] : List Int), 0, 10)) else (if 2 < (x0.length : Int) then ((masterdiscref06_ToLBA.f ((rd_T27 x0 2).f4.f0) ((rd_T27 x0 2).f4.f1) ((rd_T27 x0 2).f4.f2)).bind fun bt336 => (masterdiscref10_Collect.l0 k x0 bt336.1 (([] : List Int)) 3)) else (none))
def masterdiscref10_Collect.l0 : Nat → List (S27) → Int → List Int → Int → Option (List Int × Int × Int)
 | 0, _, _, _, _ => none
 | k + 1, x0, x5, x7, x8 => if x8 < (x0.length : Int) then (if 0 ≤ x8 then ((masterdiscref06_ToLBA.f ((rd_T27 x0 x8).f4.f0) ((rd_T27 x0 x8).f4.f1) ((rd_T27 x0 x8).f4.f2)).bind fun bt342 => (if x7.length < 17592186044416 then (masterdiscref10_Collect.l0 k x0 x5 (x7 ++ [bt342.1]) (wrap64 (x8 + 1))) else (none))) else (none)) else (masterdiscref10_Collect.l1 k x0 x5 x7 (([] : List (S53))) 0)
def masterdiscref10_Collect.l1 : Nat → List (S27) → Int → List Int → List (S53) → Int → Option (List Int × Int × Int)
 | 0, _, _, _, _, _ => none
 | k + 1, x0, x5, x7, x11, x12 => if x12 < (x7.length : Int) then (if (wrap64 (x12 + 1)) < (x7.length : Int) then (if 0 ≤ (wrap64 (x12 + 1)) then (if 0 < (x0.length : Int) then (if 0 ≤ x12 then (if x11.length < 2513169434916 then (masterdiscref10_Collect.l1 k x0 x5 x7 (x11 ++ [(⟨wrap64 (((rd_T27 x0 0).f4.f0) + x12), 0, rd x7 x12, wrap64 ((rd x7 (wrap64 (x12 + 1))) - (rd x7 x12)), 0, 0, 0⟩ : S53)]) (wrap64 (x12 + 1))) else (none)) else (none)) else (none)) else (none)) else (if 0 < (x0.length : Int) then (if 0 ≤ x12 then (if x11.length < 2513169434916 then (masterdiscref10_Collect.l1 k x0 x5 x7 (x11 ++ [(⟨wrap64 (((rd_T27 x0 0).f4.f0) + x12), 0, rd x7 x12, wrap64 (x5 - (rd x7 x12)), 0, 0, 0⟩ : S53)]) (wrap64 (x12 + 1))) else (none)) else (none)) else (none))) else (if 0 < (x0.length : Int) then ((masterdiscref10_Entries.f k x11 ((rd_T27 x0 0).f0)).bind fun bt364 => (if bt364.2 = 0 then (masterdiscref10_Collect.j3 k x0 x5 x7 bt364.1 ((bt364.1.length : Int) != (x0.length : Int))) else (masterdiscref10_Collect.j3 k x0 x5 x7 bt364.1 true))) else (none))
def masterdiscref10_Collect.j3 : Nat → List (S27) → Int → List Int → List (S27) → Bool → Option (List Int × Int × Int)
 | 0, _, _, _, _, _ => none
 | k + 1, x0, x5, x7, x14, x109 => if x109 = true then (some (([] : List Int), 0, 10)) else (masterdiscref10_Collect.l2 k x0 x5 x7 x14 0)
def masterdiscref10_Collect.l2 : Nat → List (S27) → Int → List Int → List (S27) → Int → Option (List Int × Int × Int)
 | 0, _, _, _, _, _ => none
 | k + 1, x0, x5, x7, x14, x16 => if x16 < (x0.length : Int) then (if 0 ≤ x16 then (if x16 < (x14.length : Int) then (if (!(((rd_T27 x14 x16).f0) == ((rd_T27 x0 x16).f0)) || (!(((rd_T27 x14 x16).f1) == ((rd_T27 x0 x16).f1)) || (!(((rd_T27 x14 x16).f2) == ((rd_T27 x0 x16).f2)) || ((!(((rd_T27 x14 x16).f3.f0) == ((rd_T27 x0 x16).f3.f0)) || (!(((rd_T27 x14 x16).f3.f1) == ((rd_T27 x0 x16).f3.f1)) || (!(((rd_T27 x14 x16).f3.f2) == ((rd_T27 x0 x16).f3.f2))))) || ((!(((rd_T27 x14 x16).f4.f0) == ((rd_T27 x0 x16).f4.f0)) || (!(((rd_T27 x14 x16).f4.f1) == ((rd_T27 x0 x16).f4.f1)) || (!(((rd_T27 x14 x16).f4.f2) == ((rd_T27 x0 x16).f4.f2)))))))))) = true then (some (([] : List Int), 0, 10)) else (masterdiscref10_Collect.l2 k x0 x5 x7 x14 (wrap64 (x16 + 1)))) else (none)) else (none)) else (some (x7, x5, 0))
end
def masterdiscref10_Collect.f (k : Nat) (l0 : List (S27)) : Option (List Int × Int × Int) := if (l0.length : Int) < 4 then (masterdiscref10_Collect.j0 k l0 true) else (masterdiscref10_Collect.j0 k l0 (decide ((l0.length : Int) > 102)))
theorem masterdiscref10_Collect.mono_l : ∀ k, (∀ y0 y1, LeO (masterdiscref10_Collect.j0 k y0 y1) (masterdiscref10_Collect.j0 (k + 1) y0 y1)) ∧ (∀ y0 y1 y2 y3, LeO (masterdiscref10_Collect.l0 k y0 y1 y2 y3) (masterdiscref10_Collect.l0 (k + 1) y0 y1 y2 y3)) ∧ (∀ y0 y1 y2 y3 y4, LeO (masterdiscref10_Collect.l1 k y0 y1 y2 y3 y4) (masterdiscref10_Collect.l1 (k + 1) y0 y1 y2 y3 y4)) ∧ (∀ y0 y1 y2 y3 y4, LeO (masterdiscref10_Collect.j3 k y0 y1 y2 y3 y4) (masterdiscref10_Collect.j3 (k + 1) y0 y1 y2 y3 y4)) ∧ (∀ y0 y1 y2 y3 y4, LeO (masterdiscref10_Collect.l2 k y0 y1 y2 y3 y4) (masterdiscref10_Collect.l2 (k + 1) y0 y1 y2 y3 y4))
 | 0 => ⟨fun _ _ r h => by simp [masterdiscref10_Collect.j0] at h, fun _ _ _ _ r h => by simp [masterdiscref10_Collect.l0] at h, fun _ _ _ _ _ r h => by simp [masterdiscref10_Collect.l1] at h, fun _ _ _ _ _ r h => by simp [masterdiscref10_Collect.j3] at h, fun _ _ _ _ _ r h => by simp [masterdiscref10_Collect.l2] at h⟩
 | k + 1 => by
  obtain ⟨ih0, ih1, ih2, ih3, ih4⟩ := masterdiscref10_Collect.mono_l k
  refine ⟨?_, ?_, ?_, ?_, ?_⟩
  · intro y0 y1
    unfold masterdiscref10_Collect.j0
    repeat' first
    | (with_reducible exact ih0 _ _)
    | (with_reducible exact ih1 _ _ _ _)
    | (with_reducible exact ih2 _ _ _ _ _)
    | (with_reducible exact ih3 _ _ _ _ _)
    | (with_reducible exact ih4 _ _ _ _ _)
    | (with_reducible exact masterdiscref10_Entries.mono _ _ _)
    | (with_reducible exact LeO.refl _)
    | (with_reducible exact LeO.none _)
    | (with_reducible refine LeO.ite ?_ ?_)
    | (with_reducible refine LeO.bind ?_ (fun _ => ?_))
    | exact ih0 _ _
    | exact ih1 _ _ _ _
    | exact ih2 _ _ _ _ _
    | exact ih3 _ _ _ _ _
    | exact ih4 _ _ _ _ _
    | exact masterdiscref10_Entries.mono _ _ _
    | exact LeO.none _
    | refine LeO.ite ?_ ?_
    | refine LeO.bind ?_ (fun _ => ?_)
  · intro y0 y1 y2 y3
    unfold masterdiscref10_Collect.l0
    repeat' first
    | (with_reducible exact ih0 _ _)
    | (with_reducible exact ih1 _ _ _ _)
    | (with_reducible exact ih2 _ _ _ _ _)
    | (with_reducible exact ih3 _ _ _ _ _)
    | (with_reducible exact ih4 _ _ _ _ _)
    | (with_reducible exact masterdiscref10_Entries.mono _ _ _)
    | (with_reducible exact LeO.refl _)
    | (with_reducible exact LeO.none _)
    | (with_reducible refine LeO.ite ?_ ?_)
    | (with_reducible refine LeO.bind ?_ (fun _ => ?_))
    | exact ih0 _ _
    | exact ih1 _ _ _ _
    | exact ih2 _ _ _ _ _
    | exact ih3 _ _ _ _ _
    | exact ih4 _ _ _ _ _
    | exact masterdiscref10_Entries.mono _ _ _
    | exact LeO.none _
    | refine LeO.ite ?_ ?_
    | refine LeO.bind ?_ (fun _ => ?_)
  · intro y0 y1 y2 y3 y4
    unfold masterdiscref10_Collect.l1
    repeat' first
    | (with_reducible exact ih0 _ _)
    | (with_reducible exact ih1 _ _ _ _)
    | (with_reducible exact ih2 _ _ _ _ _)
    | (with_reducible exact ih3 _ _ _ _ _)
    | (with_reducible exact ih4 _ _ _ _ _)
    | (with_reducible exact masterdiscref10_Entries.mono _ _ _)
    | (with_reducible exact LeO.refl _)
    | (with_reducible exact LeO.none _)
    | (with_reducible refine LeO.ite ?_ ?_)
    | (with_reducible refine LeO.bind ?_ (fun _ => ?_))
    | exact ih0 _ _
    | exact ih1 _ _ _ _
    | exact ih2 _ _ _ _ _
    | exact ih3 _ _ _ _ _
    | exact ih4 _ _ _ _ _
    | exact masterdiscref10_Entries.mono _ _ _
    | exact LeO.none _
    | refine LeO.ite ?_ ?_
    | refine LeO.bind ?_ (fun _ => ?_)
  · intro y0 y1 y2 y3 y4
    unfold masterdiscref10_Collect.j3
    repeat' first
    | (with_reducible exact ih0 _ _)
    | (with_reducible exact ih1 _ _ _ _)
    | (with_reducible exact ih2 _ _ _ _ _)
    | (with_reducible exact ih3 _ _ _ _ _)
    | (with_reducible exact ih4 _ _ _ _ _)
    | (with_reducible exact masterdiscref10_Entries.mono _ _ _)
    | (with_reducible exact LeO.refl _)
    | (with_reducible exact LeO.none _)
    | (with_reducible refine LeO.ite ?_ ?_)
    | (with_reducible refine LeO.bind ?_ (fun _ => ?_))
    | exact ih0 _ _
    | exact ih1 _ _ _ _
    | exact ih2 _ _ _ _ _
    | exact ih3 _ _ _ _ _
    | exact ih4 _ _ _ _ _
    | exact masterdiscref10_Entries.mono _ _ _
    | exact LeO.none _
    | refine LeO.ite ?_ ?_
    | refine LeO.bind ?_ (fun _ => ?_)
  · intro y0 y1 y2 y3 y4
    unfold masterdiscref10_Collect.l2
    repeat' first
    | (with_reducible exact ih0 _ _)
    | (with_reducible exact ih1 _ _ _ _)
    | (with_reducible exact ih2 _ _ _ _ _)
    | (with_reducible exact ih3 _ _ _ _ _)
    | (with_reducible exact ih4 _ _ _ _ _)
    | (with_reducible exact masterdiscref10_Entries.mono _ _ _)
    | (with_reducible exact LeO.refl _)
    | (with_reducible exact LeO.none _)
    | (with_reducible refine LeO.ite ?_ ?_)
    | (with_reducible refine LeO.bind ?_ (fun _ => ?_))
    | exact ih0 _ _
    | exact ih1 _ _ _ _
    | exact ih2 _ _ _ _ _
    | exact ih3 _ _ _ _ _
    | exact ih4 _ _ _ _ _
    | exact masterdiscref10_Entries.mono _ _ _
    | exact LeO.none _
    | refine LeO.ite ?_ ?_
    | refine LeO.bind ?_ (fun _ => ?_)
theorem masterdiscref10_Collect.mono : ∀ a0 k, LeO (masterdiscref10_Collect.f k a0) (masterdiscref10_Collect.f (k + 1) a0) := by
 intro a0 k
 obtain ⟨ih0, ih1, ih2, ih3, ih4⟩ := masterdiscref10_Collect.mono_l k
 unfold masterdiscref10_Collect.f
 repeat' first
  | (with_reducible exact ih0 _ _)
  | (with_reducible exact ih1 _ _ _ _)
  | (with_reducible exact ih2 _ _ _ _ _)
  | (with_reducible exact ih3 _ _ _ _ _)
  | (with_reducible exact ih4 _ _ _ _ _)
  | (with_reducible exact masterdiscref10_Entries.mono _ _ _)
  | (with_reducible exact LeO.refl _)
  | (with_reducible exact LeO.none _)
  | (with_reducible refine LeO.ite ?_ ?_)
  | (with_reducible refine LeO.bind ?_ (fun _ => ?_))
  | exact ih0 _ _
  | exact ih1 _ _ _ _
  | exact ih2 _ _ _ _ _
  | exact ih3 _ _ _ _ _
  | exact ih4 _ _ _ _ _
  | exact masterdiscref10_Entries.mono _ _ _
  | exact LeO.none _
  | refine LeO.ite ?_ ?_
  | refine LeO.bind ?_ (fun _ => ?_)
def masterdiscref10_Collect.T17 : Bool × List (List Nat × List Nat) := (true, [([], []), ([], []), ([1], [1]), ([2], [2]), ([3], [3]), ([4], [4]), ([], []), ([5, 6], [5, 6]), ([], []), ([], []), ([8, 9], [8, 9]), ([10], [10]), ([], []), ([], []), ([], []), ([13, 14], [13, 14]), ([15], [15]), ([12, 16], [12, 16]), ([7, 11, 17], [7, 11, 17]), ([18], [18]), ([0, 19], [0, 19]), ([20, 20, 0, 1, 2, 3, 4, 5, 6, 7, 8, 9, 10, 11, 12, 13, 14, 15, 16, 17, 18, 19, 20], [0, 20])])
def masterdiscref10_Collect.B17 : List Nat := [0, 0, 2, 6, 14, 30, 0, 126, 0, 0, 768, 1792, 0, 0, 0, 24576, 57344, 126976, 262142, 524286, 1048575, 2097151]
theorem masterdiscref10_Collect.tab17 : rtab .any (opsOf Try.f20 17) = masterdiscref10_Collect.T17 := by kernel_rfl
theorem masterdiscref10_Collect.bits17 : waitsOk masterdiscref10_Collect.T17.2 masterdiscref10_Collect.B17 = true := by kernel_rfl
def masterdiscref10_Collect.T24 : Bool × List (List Nat × List Nat) := (true, [([], []), ([], []), ([0, 1], [0, 1]), ([2], [2]), ([], []), ([], []), ([4, 5], [4, 5]), ([6], [6]), ([3, 7], [3, 7])])
def masterdiscref10_Collect.B24 : List Nat := [0, 0, 3, 7, 0, 0, 48, 112, 255]
theorem masterdiscref10_Collect.tab24 : rtab .any (opsOf Try.f20 24) = masterdiscref10_Collect.T24 := by kernel_rfl
theorem masterdiscref10_Collect.bits24 : waitsOk masterdiscref10_Collect.T24.2 masterdiscref10_Collect.B24 = true := by kernel_rfl
set_option maxHeartbeats 8000000 in
set_option maxRecDepth 100000 in
theorem masterdiscref10_Collect.calls (k : Nat) (A0 : Option Addr) (c0 : Nat) (l0 : List (S27)) (r1 : List Int) (r2 : Int) (r3 : Int) (w : World) (hr0 : Kd.C k27 w A0 l0.length l0) (hc0 : l0.length ≤ c0) (h : masterdiscref10_Collect.f k l0 = some (r1, r2, r3)) :
 Calls Try.prog 20 #[.slice A0 l0.length c0] w fun e w' => ∃ v0_ : Value, e = .returned (.tuple #[v0_, .int .i64 r2, .int .i64 r3]) ∧ Kd.R (Kd.int .i64) 3 w' w.heap.size (fun _ => True) v0_ r1 ∧ Below w.heap.size w w' := by
 have hu25 := Try.underlying25
 have hu53 := Try.underlying53
 have hu27 := Try.underlying27
 have HR0 := Aside0.mk hr0
 have HC0 := Aside0.mk hc0
 clear hr0 hc0
 have HB := Aside0.mk (Below.refl w.heap.size w)
 have H : (if (l0.length : Int) < 4 then (masterdiscref10_Collect.j0 k l0 true) else (masterdiscref10_Collect.j0 k l0 (decide ((l0.length : Int) > 102)))) = some (r1, r2, r3) := h
 clear h
 have HC2 := Aside0.mk H
 clear H
 go_enter Try.func20, Try.ntmps20
 go_upto_region 1 with (fail)
 go_cut [24] (fun v24 wc => ∃ (kq : Nat) (x24_1 : Bool), v24 = .bool x24_1 ∧ Aside0 (masterdiscref10_Collect.j0 kq l0 x24_1 = some (r1, r2, r3)) ∧ Aside0 (kq ≤ k) ∧ Aside0 (Below w.heap.size w wc))
 case first =>
  have H := HC2.out
  clear HC2
  by_cases c3 : (l0.length : Int) < 4
  · rw [if_pos c3] at H
    have c3b0 : decide ((l0.length : Int) < 4) = true := decide_eq_true c3
    have c3b1 : decide (l0.length < 4) = true := decide_eq_true (by omega)
    clear c3
    (first | rw [c3b0] | (simp only [i64_w, i32_w]; rw [c3b0]) | skip)
    have H' := Aside0.mk H
    clear H
    go_wp2
    go_meet
    case rel => exact ⟨_, (true), (by first | rfl | (simp; done) | (simp [*]; done)), H', ⟨by first | omega | exact Nat.le_refl _⟩, ⟨by repeat (first | (with_reducible first | exact HB.out | apply below_alloc | apply pw_below_drewN | apply below_drew1) | exact HB.out)⟩⟩
  · rw [if_neg c3] at H
    have c3b0 : decide ((l0.length : Int) < 4) = false := decide_eq_false c3
    have c3b1 : decide (l0.length < 4) = false := decide_eq_false (by omega)
    clear c3
    (first | rw [c3b0] | (simp only [i64_w, i32_w]; rw [c3b0]) | skip)
    have H' := Aside0.mk H
    clear H
    go_wp2
    go_meet
    case rel => exact ⟨_, (decide ((l0.length : Int) > 102)), (by first | rfl | (simp; done) | (simp [*]; done)), H', ⟨by first | omega | exact Nat.le_refl _⟩, ⟨by repeat (first | (with_reducible first | exact HB.out | apply below_alloc | apply pw_below_drewN | apply below_drew1) | exact HB.out)⟩⟩
 case rest =>
  clear HC2
  try clear c2
  try clear p2
  try clear c3
  try clear c3b0
  try clear c3b1
  obtain ⟨kq, x24_1, rfl, HA, HJ1, HB⟩ := hcut
  cases kq with
  | zero => exact absurd HA.out (by simp [masterdiscref10_Collect.j0])
  | succ kj1 =>
   have H := HA.out
   clear HA
   simp only [masterdiscref10_Collect.j0] at H
   by_cases c4 : x24_1 = true
   · subst c4
     have H1 : (some (([] : List Int), 0, 10)) = some (r1, r2, r3) := by rw [if_pos rfl] at H; exact H
     clear H
     have H := H1
     clear H1
     simp only [Option.some.injEq, Prod.mk.injEq] at H
     obtain ⟨rfl, rfl, rfl⟩ := H
     go_wp2
     go_ret3
     exact ⟨_, by first | rfl | (simp [errW_none, errW_some] <;> rfl) | (simp [*, errW_none, errW_some] <;> rfl), by first | exact Kd.R_nil _ _ _ _ _ | exact Kd.N_nil _ _ _ _ _ | exact Kd.V_nil _ _ _ _ _ | exact Kd.Q_nil _ _ _ _ _ | exact Kd.S_nil _ _ _ _ _, by repeat (first | (with_reducible first | exact HB.out | apply below_alloc | apply pw_below_drewN | apply below_drew1) | exact HB.out)⟩
   · replace c4 := Bool.eq_false_iff.mpr c4
     subst c4
     have H1 : (if 2 < (l0.length : Int) then ((masterdiscref06_ToLBA.f ((rd_T27 l0 2).f4.f0) ((rd_T27 l0 2).f4.f1) ((rd_T27 l0 2).f4.f2)).bind fun bt336 => (masterdiscref10_Collect.l0 kj1 l0 bt336.1 (([] : List Int)) 3)) else (none)) = some (r1, r2, r3) := by rw [if_neg (show ¬ (false = true) by decide)] at H; exact H
     clear H
     have H := H1
     clear H1
     by_cases c5 : 2 < (l0.length : Int)
     · rw [if_pos c5] at H
       have c5b0 : decide (2 < (l0.length : Int)) = true := decide_eq_true c5
       have c5b1 : decide (2 < l0.length) = true := decide_eq_true (by omega)
       clear c5
       replace H := Option.bind_eq_some_iff.mp H
       obtain ⟨⟨t336, t337⟩, A60, H⟩ := H
       replace H : (masterdiscref10_Collect.l0 kj1 l0 t336 (([] : List Int)) 3) = some (r1, r2, r3) := H
       have A6 := Aside0.mk A60
       clear A60
       obtain ⟨y338, hy338⟩ : ∃ y_ : List Int, y_ = (([] : List Int)) := ⟨_, rfl⟩
       replace H : (masterdiscref10_Collect.l0 kj1 l0 t336 y338 3) = some (r1, r2, r3) := by first | (rw [hy338]; with_reducible exact H) | (have H2_ := (Option.bind_some _ _).symm.trans H; rw [hy338]; with_reducible exact H2_) | (have H2_ := (Option.bind_some _ _).symm.trans H; with_reducible exact H2_) | with_reducible exact H | (rw [hy338]; exact H) | exact H
       have Ny338 := Aside0.mk hy338
       clear hy338
       have H' := Aside0.mk H
       clear H
       have p335 : 0 ≤ (2 : Int) := (by omega)
       have q335 : 2 < (l0.length : Int) := of_decide_eq_true (by first | (with_reducible assumption) | assumption)
       obtain ⟨ad335, e335, hx335_0, hx335_1, hx335_2, hx335_3, hx335_4, hx335_5, hx335_6, hx335_7, hx335_8⟩ := at_T27 HR0.out 2 p335 q335
       cases e335
       (try simp only [show (2 : Int).toNat = 2 from rfl, Nat.reduceMul, Nat.reduceEqDiff, Go.Addr.add, ↓reduceIte] at hx335_0)
       (try simp only [show (2 : Int).toNat = 2 from rfl, Nat.reduceMul, Nat.reduceEqDiff, Go.Addr.add, ↓reduceIte] at hx335_1)
       (try simp only [show (2 : Int).toNat = 2 from rfl, Nat.reduceMul, Nat.reduceEqDiff, Go.Addr.add, ↓reduceIte] at hx335_2)
       (try simp only [show (2 : Int).toNat = 2 from rfl, Nat.reduceMul, Nat.reduceEqDiff, Go.Addr.add, ↓reduceIte] at hx335_3)
       (try simp only [show (2 : Int).toNat = 2 from rfl, Nat.reduceMul, Nat.reduceEqDiff, Go.Addr.add, ↓reduceIte] at hx335_4)
       (try simp only [show (2 : Int).toNat = 2 from rfl, Nat.reduceMul, Nat.reduceEqDiff, Go.Addr.add, ↓reduceIte] at hx335_5)
       (try simp only [show (2 : Int).toNat = 2 from rfl, Nat.reduceMul, Nat.reduceEqDiff, Go.Addr.add, ↓reduceIte] at hx335_6)
       (try simp only [show (2 : Int).toNat = 2 from rfl, Nat.reduceMul, Nat.reduceEqDiff, Go.Addr.add, ↓reduceIte] at hx335_7)
       (try simp only [show (2 : Int).toNat = 2 from rfl, Nat.reduceMul, Nat.reduceEqDiff, Go.Addr.add, ↓reduceIte] at hx335_8)
       have qi335 : (2 < l0.length) = True := eq_true (by omega)
       (try rw [show ((2 : Int)).toNat = 2 from rfl] at hx335_0)
       (try rw [show 2 * 9 = 18 from rfl] at hx335_0)
       (try rw [show ((2 : Int)).toNat = 2 from rfl] at hx335_1)
       (try rw [show 2 * 9 = 18 from rfl] at hx335_1)
       (try rw [show ((2 : Int)).toNat = 2 from rfl] at hx335_2)
       (try rw [show 2 * 9 = 18 from rfl] at hx335_2)
       (try rw [show ((2 : Int)).toNat = 2 from rfl] at hx335_3)
       (try rw [show 2 * 9 = 18 from rfl] at hx335_3)
       (try rw [show ((2 : Int)).toNat = 2 from rfl] at hx335_4)
       (try rw [show 2 * 9 = 18 from rfl] at hx335_4)
       (try rw [show ((2 : Int)).toNat = 2 from rfl] at hx335_5)
       (try rw [show 2 * 9 = 18 from rfl] at hx335_5)
       (try rw [show ((2 : Int)).toNat = 2 from rfl] at hx335_6)
       (try rw [show 2 * 9 = 18 from rfl] at hx335_6)
       (try rw [show ((2 : Int)).toNat = 2 from rfl] at hx335_7)
       (try rw [show 2 * 9 = 18 from rfl] at hx335_7)
       (try rw [show ((2 : Int)).toNat = 2 from rfl] at hx335_8)
       (try rw [show 2 * 9 = 18 from rfl] at hx335_8)
       replace hx335_0 := upc HB.out hx335_0
       replace hx335_1 := upc HB.out hx335_1
       replace hx335_2 := upc HB.out hx335_2
       replace hx335_3 := upc HB.out hx335_3
       replace hx335_4 := upc HB.out hx335_4
       replace hx335_5 := upc HB.out hx335_5
       replace hx335_6 := upc HB.out hx335_6
       replace hx335_7 := upc HB.out hx335_7
       replace hx335_8 := upc HB.out hx335_8
       replace p335 := eq_true p335
       replace q335 := eq_true q335
       go_wp2_with (first | ((with_reducible refine gate_callee (f := 45) rfl ?_); refine goesL_ (some 30) rfl rfl Try.func45 (by kernel_rfl) rfl #[.agg #[.int .i64 ((rd_T27 l0 2).f4.f0), .int .i64 ((rd_T27 l0 2).f4.f1), .int .i64 ((rd_T27 l0 2).f4.f2)]] rfl (by (try simp only [List.map_toArray, List.map_cons, List.map_nil]); first | done | rfl | (simp only [List.length_drop, List.length_take]; rfl)) ?_; (with_reducible refine (masterdiscref06_ToLBA.calls ((rd_T27 l0 2).f4.f0) ((rd_T27 l0 2).f4.f1) ((rd_T27 l0 2).f4.f2) t336 t337 _ A6.out).mono ?_); rintro e w7 ⟨rfl, hb⟩; refine ⟨_, rfl, ?_⟩; have n0_ := Aside0.mk (below_step (by repeat (first | (with_reducible first | exact HB.out | apply below_alloc | apply pw_below_drewN | apply below_drew1) | exact HB.out)) hb); clear HB; have HB := n0_; clear n0_; (try clear hb); (try clear hb2); (try clear hk); (try clear hi)) | ((with_reducible refine gate_dst (N := 33) rfl ?_); (try (refine gate_guard (by rfl) ?_; dsimp only)); refine Kd.R_lit (Kd.int .i64) _ 3 ?hg (N := 33) ?hd (xs := ([] : List Int)) (inner := []) (ok := fun _ => True) (okp := fun _ => True) ?hr ?hp (fun _ hk => hk) trivial (Below.refl _ _) (Nat.le_refl _) (by simp) ?_; (case hd => rfl); (case hg => rfl); (case hr => first | (go_simp; done) | (go_simp; rfl)); (case hp => exact (Reps.none _ _)); intro v339 w8 ho9 hb hg_ hnew_; clear hg_ hnew_; (first | rw [← Ny338.out] at ho9 | (simp only [Int.reduceToNat] at ho9; rw [← Ny338.out] at ho9)); have n0_ := Aside0.mk (Kd.R_lower ho9 (below_size (by repeat (first | (with_reducible first | exact HB.out | apply below_alloc | apply pw_below_drewN | apply below_drew1) | exact HB.out)))); have n1_ := Aside0.mk (below_step (by repeat (first | (with_reducible first | exact HB.out | apply below_alloc | apply pw_below_drewN | apply below_drew1) | exact HB.out)) hb); clear HB; have HO340 := n0_; have HB := n1_; clear n0_ n1_; clear hb ho9))
       go_loopg [7, 8] kj1 (fun kq v7 v8 w' => ∃ (x7_2 : List Int) (x8_2 : Int), v8 = .int .i64 x8_2 ∧ Aside0 (masterdiscref10_Collect.l0 kq l0 t336 x7_2 x8_2 = some (r1, r2, r3)) ∧ Aside0 (kq ≤ kj1) ∧ Aside0 (Kd.R (Kd.int .i64) 3 w' w.heap.size (fun _ => True) v7 x7_2) ∧ Aside0 (Below w.heap.size w w'))
       case atStart => exact ⟨(y338), (3), (by first | rfl | (simp; done) | (simp [*]; done)), H', ⟨Nat.le_refl _⟩, ⟨by (with_reducible repeat (first | apply Kd.R_alloc | apply Kd.R_drewN | apply Kd.R_drew)); exact HO340.out⟩, ⟨by repeat (first | (with_reducible first | exact HB.out | apply below_alloc | apply pw_below_drewN | apply below_drew1) | exact HB.out)⟩⟩
       case round =>
        clear H'
        try clear c2
        try clear p2
        try clear c3
        try clear c3b0
        try clear c3b1
        try clear p3
        try clear q3
        try clear hx3
        try clear qi3
        try clear c4
        try clear c5
        try clear c5b0
        try clear c5b1
        try clear hx335_0
        try clear hx335_1
        try clear hx335_2
        try clear hx335_3
        try clear hx335_4
        try clear hx335_5
        try clear hx335_6
        try clear hx335_7
        try clear hx335_8
        try clear p2
        try clear p335
        try clear q335
        obtain ⟨x7_2, x8_2, rfl, HA, HK2, HO_7, HB⟩ := hrel
        cases gk with
        | zero => exact absurd HA.out (by simp [masterdiscref10_Collect.l0])
        | succ k2 =>
         have H := HA.out
         clear HA
         simp only [masterdiscref10_Collect.l0] at H
         by_cases c10 : x8_2 < (l0.length : Int)
         · rw [if_pos c10] at H
           have c10b0 : decide (x8_2 < (l0.length : Int)) = true := decide_eq_true c10
           clear c10
           by_cases c11 : 0 ≤ x8_2
           · rw [if_pos c11] at H
             have c11b0 : decide (0 ≤ x8_2) = true := decide_eq_true c11
             clear c11
             replace H := Option.bind_eq_some_iff.mp H
             obtain ⟨⟨t342, t343⟩, A120, H⟩ := H
             replace H : (if x7_2.length < 17592186044416 then (masterdiscref10_Collect.l0 k2 l0 t336 (x7_2 ++ [t342]) (wrap64 (x8_2 + 1))) else (none)) = some (r1, r2, r3) := H
             have A12 := Aside0.mk A120
             clear A120
             by_cases c13 : x7_2.length < 17592186044416
             · rw [if_pos c13] at H
               have LMc13 := Aside0.mk c13
               clear c13
               obtain ⟨y344, hy344⟩ : ∃ y_ : List Int, y_ = (x7_2 ++ [t342]) := ⟨_, rfl⟩
               replace H : (masterdiscref10_Collect.l0 k2 l0 t336 y344 (wrap64 (x8_2 + 1))) = some (r1, r2, r3) := by first | (rw [hy344]; with_reducible exact H) | (have H2_ := (Option.bind_some _ _).symm.trans H; rw [hy344]; with_reducible exact H2_) | (have H2_ := (Option.bind_some _ _).symm.trans H; with_reducible exact H2_) | with_reducible exact H | (rw [hy344]; exact H) | exact H
               have Ny344 := Aside0.mk hy344
               clear hy344
               have H' := Aside0.mk H
               clear H
               have p341 : 0 ≤ (x8_2 : Int) := of_decide_eq_true (by first | (with_reducible assumption) | assumption)
               have q341 : x8_2 < (l0.length : Int) := of_decide_eq_true (by first | (with_reducible assumption) | assumption)
               obtain ⟨ad341, e341, hx341_0, hx341_1, hx341_2, hx341_3, hx341_4, hx341_5, hx341_6, hx341_7, hx341_8⟩ := at_T27 HR0.out x8_2 p341 q341
               obtain rfl : ad335 = ad341 := (by injection e341)
               replace hx341_0 := upc HB.out hx341_0
               replace hx341_1 := upc HB.out hx341_1
               replace hx341_2 := upc HB.out hx341_2
               replace hx341_3 := upc HB.out hx341_3
               replace hx341_4 := upc HB.out hx341_4
               replace hx341_5 := upc HB.out hx341_5
               replace hx341_6 := upc HB.out hx341_6
               replace hx341_7 := upc HB.out hx341_7
               replace hx341_8 := upc HB.out hx341_8
               replace p341 := eq_true p341
               replace q341 := eq_true q341
               go_wp2_with (first | ((with_reducible refine gate_callee (f := 45) rfl ?_); refine goesL_ (some 46) rfl rfl Try.func45 (by kernel_rfl) rfl #[.agg #[.int .i64 ((rd_T27 l0 x8_2).f4.f0), .int .i64 ((rd_T27 l0 x8_2).f4.f1), .int .i64 ((rd_T27 l0 x8_2).f4.f2)]] rfl (by (try simp only [List.map_toArray, List.map_cons, List.map_nil]); first | done | rfl | (simp only [List.length_drop, List.length_take]; rfl)) ?_; (with_reducible refine (masterdiscref06_ToLBA.calls ((rd_T27 l0 x8_2).f4.f0) ((rd_T27 l0 x8_2).f4.f1) ((rd_T27 l0 x8_2).f4.f2) t342 t343 _ A12.out).mono ?_); rintro e w14 ⟨rfl, hb⟩; refine ⟨_, rfl, ?_⟩; have n0_ := Aside0.mk (Kd.R_below (by (with_reducible repeat (first | apply Kd.R_alloc | apply Kd.R_drewN | apply Kd.R_drew)); exact HO_7.out) hb); have n1_ := Aside0.mk (below_step (by repeat (first | (with_reducible first | exact HB.out | apply below_alloc | apply pw_below_drewN | apply below_drew1) | exact HB.out)) hb); clear HO_7; clear HB; have HO_7 := n0_; have HB := n1_; clear n0_ n1_; (try clear hb); (try clear hb2); (try clear hk); (try clear hi)) | ((with_reducible refine gate_builtin (b := .append) (xs := #[.tmp 49, .tmp 51]) rfl ?_); (try (refine gate_guard (by rfl) ?_; dsimp only)); at_builtin; refine Kd.R_append (Kd.int .i64) (w0 := w) w.heap.size rfl (.tmp 49) (.tmp 51) 41 3 (.int .i64 0) 8 rfl Try.underlying41 info3 rfl (by decide) (by omega) u7 x7_2 t342 [.int .i64 t342] (fun _ => True) (fun _ => False) rfl rfl ?aP (fun _ hk => hk.elim) ?aF ?aO ?aB ?aS ?aL ?_; (case aP => exact rfl); (case aB => exact (by repeat (first | (with_reducible first | exact HB.out | apply below_alloc | apply pw_below_drewN | apply below_drew1) | exact HB.out))); (case aF => exact (fun _ _ => trivial)); (case aO => exact (by (with_reducible repeat (first | apply Kd.R_alloc | apply Kd.R_drewN | apply Kd.R_drew)); exact HO_7.out)); (case aS => exact (below_size (by repeat (first | (with_reducible first | exact HB.out | apply below_alloc | apply pw_below_drewN | apply below_drew1) | exact HB.out)))); (case aL => have := LMc13.out; omega); intro v345 w15 ho hb hg hat; rw [← Ny344.out] at ho; have n0_ := Aside0.mk (hb); have n1_ := Aside0.mk (ho); clear HB; clear HO_7; have HB := n0_; have HO346 := n1_; clear n0_ n1_; clear ho hb hg hat))
               go_roundg k2
               case measure => have := HJ1.out; have := HK2.out; omega
               case rel => exact ⟨(y344), (wrap64 (x8_2 + 1)), (by first | rfl | (simp; done) | (simp [*]; done)), H', ⟨by have := HJ1.out; have := HK2.out; omega⟩, ⟨by (with_reducible repeat (first | apply Kd.R_alloc | apply Kd.R_drewN | apply Kd.R_drew)); exact HO346.out⟩, ⟨by repeat (first | (with_reducible first | exact HB.out | apply below_alloc | apply pw_below_drewN | apply below_drew1) | exact HB.out)⟩⟩
             · rw [if_neg c13] at H
               exact absurd H (by simp)
           · rw [if_neg c11] at H
             exact absurd H (by simp)
         · rw [if_neg c10] at H
           have c10b0 : decide (x8_2 < (l0.length : Int)) = false := decide_eq_false c10
           clear c10
           obtain ⟨y347, hy347⟩ : ∃ y_ : List (S53), y_ = (([] : List (S53))) := ⟨_, rfl⟩
           replace H : (masterdiscref10_Collect.l1 k2 l0 t336 x7_2 y347 0) = some (r1, r2, r3) := by first | (rw [hy347]; with_reducible exact H) | (have H2_ := (Option.bind_some _ _).symm.trans H; rw [hy347]; with_reducible exact H2_) | (have H2_ := (Option.bind_some _ _).symm.trans H; with_reducible exact H2_) | with_reducible exact H | (rw [hy347]; exact H) | exact H
           have Ny347 := Aside0.mk hy347
           clear hy347
           have H' := Aside0.mk H
           clear H
           go_wp2_with (first | ((with_reducible refine gate_dst (N := 53) rfl ?_); (try (refine gate_guard (by rfl) ?_; dsimp only)); refine Kd.R_lit k53 _ 53 ?hg (N := 53) ?hd (xs := ([] : List (S53))) (inner := []) (ok := fun _ => True) (okp := fun _ => True) ?hr ?hp (fun _ hk => hk) trivial (Below.refl _ _) (Nat.le_refl _) (by simp) ?_; (case hd => rfl); (case hg => rfl); (case hr => first | (go_simp; done) | (go_simp; rfl)); (case hp => exact (Reps.none _ _)); intro v348 w16 ho17 hb hg_ hnew_; clear hg_ hnew_; (first | rw [← Ny347.out] at ho17 | (simp only [Int.reduceToNat] at ho17; rw [← Ny347.out] at ho17)); have n0_ := Aside0.mk (Kd.R_below (by (with_reducible repeat (first | apply Kd.R_alloc | apply Kd.R_drewN | apply Kd.R_drew)); exact HO_7.out) hb); have n1_ := Aside0.mk (Kd.R_lower ho17 (below_size (by repeat (first | (with_reducible first | exact HB.out | apply below_alloc | apply pw_below_drewN | apply below_drew1) | exact HB.out)))); have n2_ := Aside0.mk (below_step (by repeat (first | (with_reducible first | exact HB.out | apply below_alloc | apply pw_below_drewN | apply below_drew1) | exact HB.out)) hb); clear HO_7; clear HB; have HO_7 := n0_; have HO349 := n1_; have HB := n2_; clear n0_ n1_ n2_; clear hb ho17))
           go_loopg [11, 12] k2 (fun kq v11 v12 w' => ∃ (x11_3 : List (S53)) (x12_3 : Int), v12 = .int .i64 x12_3 ∧ Aside0 (masterdiscref10_Collect.l1 kq l0 t336 x7_2 x11_3 x12_3 = some (r1, r2, r3)) ∧ Aside0 (kq ≤ k2) ∧ Aside0 (Kd.R (Kd.int .i64) 3 w' w.heap.size (fun _ => True) u7 x7_2) ∧ Aside0 (Kd.R k53 53 w' w.heap.size (fun _ => True) v11 x11_3) ∧ Aside0 (Below w.heap.size w w'))
           case atStart => exact ⟨(y347), (0), (by first | rfl | (simp; done) | (simp [*]; done)), H', ⟨Nat.le_refl _⟩, ⟨by (with_reducible repeat (first | apply Kd.R_alloc | apply Kd.R_drewN | apply Kd.R_drew)); exact HO_7.out⟩, ⟨by (with_reducible repeat (first | apply Kd.R_alloc | apply Kd.R_drewN | apply Kd.R_drew)); exact HO349.out⟩, ⟨by repeat (first | (with_reducible first | exact HB.out | apply below_alloc | apply pw_below_drewN | apply below_drew1) | exact HB.out)⟩⟩
           case round =>
            clear H'
            try clear c1
            try clear c2
            try clear p2
            try clear c3
            try clear c3b0
            try clear c3b1
            try clear p3
            try clear q3
            try clear hx3
            try clear qi3
            try clear c4
            try clear c5
            try clear c5b0
            try clear c5b1
            try clear p6
            try clear c10
            try clear c10b0
            try clear c11
            try clear c11b0
            try clear c13
            try clear hx335_0
            try clear hx335_1
            try clear hx335_2
            try clear hx335_3
            try clear hx335_4
            try clear hx335_5
            try clear hx335_6
            try clear hx335_7
            try clear hx335_8
            try clear hx341_0
            try clear hx341_1
            try clear hx341_2
            try clear hx341_3
            try clear hx341_4
            try clear hx341_5
            try clear hx341_6
            try clear hx341_7
            try clear hx341_8
            try clear p2
            try clear p3
            try clear p335
            try clear p341
            try clear q3
            try clear q335
            try clear q341
            obtain ⟨x11_3, x12_3, rfl, HA, HK3, HO_7, HO_11, HB⟩ := hrel
            cases gk with
            | zero => exact absurd HA.out (by simp [masterdiscref10_Collect.l1])
            | succ k3 =>
             have H := HA.out
             clear HA
             simp only [masterdiscref10_Collect.l1] at H
             by_cases c18 : x12_3 < (x7_2.length : Int)
             · rw [if_pos c18] at H
               have c18b0 : decide (x12_3 < (x7_2.length : Int)) = true := decide_eq_true c18
               clear c18
               by_cases c19 : (wrap64 (x12_3 + 1)) < (x7_2.length : Int)
               · rw [if_pos c19] at H
                 have c19b0 : decide ((wrap64 (x12_3 + 1)) < (x7_2.length : Int)) = true := decide_eq_true c19
                 clear c19
                 obtain ⟨ji20, hji20⟩ : ∃ j_ : Int, (wrap64 (x12_3 + 1)) = j_ := ⟨_, rfl⟩
                 replace H : (if 0 ≤ (ji20) then (if 0 < (l0.length : Int) then (if 0 ≤ x12_3 then (if x11_3.length < 2513169434916 then (masterdiscref10_Collect.l1 k3 l0 t336 x7_2 (x11_3 ++ [(⟨wrap64 (((rd_T27 l0 0).f4.f0) + x12_3), 0, rd x7_2 x12_3, wrap64 ((rd x7_2 (ji20)) - (rd x7_2 x12_3)), 0, 0, 0⟩ : S53)]) ji20) else (none)) else (none)) else (none)) else (none)) = some (r1, r2, r3) := by first | (rw [hji20] at H; exact H) | (simp only [hji20] at H ⊢; exact H)
                 (try rw [hji20] at c19b0)
                 have hji20w : (IntKind.i64.wrap (x12_3 + 1)) = ji20 := (i64_w _).trans hji20
                 by_cases c21 : 0 ≤ (ji20)
                 · rw [if_pos c21] at H
                   have c21b0 : decide (0 ≤ (ji20)) = true := decide_eq_true c21
                   clear c21
                   by_cases c22 : 0 < (l0.length : Int)
                   · rw [if_pos c22] at H
                     have c22b0 : decide (0 < (l0.length : Int)) = true := decide_eq_true c22
                     have c22b1 : decide (0 < l0.length) = true := decide_eq_true (by omega)
                     clear c22
                     by_cases c23 : 0 ≤ x12_3
                     · rw [if_pos c23] at H
                       have c23b0 : decide (0 ≤ x12_3) = true := decide_eq_true c23
                       clear c23
                       by_cases c24 : x11_3.length < 2513169434916
                       · rw [if_pos c24] at H
                         have LMc24 := Aside0.mk c24
                         clear c24
                         obtain ⟨y354, hy354⟩ : ∃ y_ : List (S53), y_ = (x11_3 ++ [(⟨wrap64 (((rd_T27 l0 0).f4.f0) + x12_3), 0, rd x7_2 x12_3, wrap64 ((rd x7_2 (ji20)) - (rd x7_2 x12_3)), 0, 0, 0⟩ : S53)]) := ⟨_, rfl⟩
                         replace H : (masterdiscref10_Collect.l1 k3 l0 t336 x7_2 y354 ji20) = some (r1, r2, r3) := by first | (rw [hy354]; with_reducible exact H) | (have H2_ := (Option.bind_some _ _).symm.trans H; rw [hy354]; with_reducible exact H2_) | (have H2_ := (Option.bind_some _ _).symm.trans H; with_reducible exact H2_) | with_reducible exact H | (rw [hy354]; exact H) | exact H
                         have Ny354 := Aside0.mk hy354
                         clear hy354
                         have H' := Aside0.mk H
                         clear H
                         obtain ⟨Ao25, co25, eo25⟩ := Kd.R_slice HO_7.out
                         subst eo25
                         have p350 : 0 ≤ ((ji20) : Int) := of_decide_eq_true (by first | (with_reducible assumption) | assumption)
                         have q350 : (ji20) < (x7_2.length : Int) := of_decide_eq_true (by first | (with_reducible assumption) | assumption)
                         obtain ⟨ad350, e350, hx350_0⟩ := Kd.at_int (Kd.R_reads' HO_7.out).2.2 (ji20) p350 q350
                         cases e350
                         replace p350 := eq_true p350
                         replace q350 := eq_true q350
                         try go_wp2
                         have n0_ := Aside0.mk (Kd.R_drew HO_7.out)
                         have n1_ := Aside0.mk (Kd.R_drew HO_11.out)
                         have n2_ := Aside0.mk (below_drew1 HB.out)
                         clear HO_7
                         clear HO_11
                         clear HB
                         have HO_7 := n0_
                         have HO_11 := n1_
                         have HB := n2_
                         clear n0_ n1_ n2_
                         have p351 : 0 ≤ (0 : Int) := (by omega)
                         have q351 : 0 < (l0.length : Int) := of_decide_eq_true (by first | (with_reducible assumption) | assumption)
                         obtain ⟨ad351, e351, hx351_0, hx351_1, hx351_2, hx351_3, hx351_4, hx351_5, hx351_6, hx351_7, hx351_8⟩ := at_T27 HR0.out 0 p351 q351
                         have hw351_8 := hx351_8
                         (try rw [show ((0 : Int)).toNat = 0 from rfl] at hw351_8)
                         (try rw [show 0 * 9 = 0 from rfl] at hw351_8)
                         (try rw [Addr.add_zero'] at hw351_8)
                         have hw351_7 := hx351_7
                         (try rw [show ((0 : Int)).toNat = 0 from rfl] at hw351_7)
                         (try rw [show 0 * 9 = 0 from rfl] at hw351_7)
                         (try rw [Addr.add_zero'] at hw351_7)
                         have hw351_6 := hx351_6
                         (try rw [show ((0 : Int)).toNat = 0 from rfl] at hw351_6)
                         (try rw [show 0 * 9 = 0 from rfl] at hw351_6)
                         (try rw [Addr.add_zero'] at hw351_6)
                         have hw351_5 := hx351_5
                         (try rw [show ((0 : Int)).toNat = 0 from rfl] at hw351_5)
                         (try rw [show 0 * 9 = 0 from rfl] at hw351_5)
                         (try rw [Addr.add_zero'] at hw351_5)
                         have hw351_4 := hx351_4
                         (try rw [show ((0 : Int)).toNat = 0 from rfl] at hw351_4)
                         (try rw [show 0 * 9 = 0 from rfl] at hw351_4)
                         (try rw [Addr.add_zero'] at hw351_4)
                         have hw351_3 := hx351_3
                         (try rw [show ((0 : Int)).toNat = 0 from rfl] at hw351_3)
                         (try rw [show 0 * 9 = 0 from rfl] at hw351_3)
                         (try rw [Addr.add_zero'] at hw351_3)
                         have hw351_2 := hx351_2
                         (try rw [show ((0 : Int)).toNat = 0 from rfl] at hw351_2)
                         (try rw [show 0 * 9 = 0 from rfl] at hw351_2)
                         (try rw [Addr.add_zero'] at hw351_2)
                         have hw351_1 := hx351_1
                         (try rw [show ((0 : Int)).toNat = 0 from rfl] at hw351_1)
                         (try rw [show 0 * 9 = 0 from rfl] at hw351_1)
                         (try rw [Addr.add_zero'] at hw351_1)
                         have hw351_0 := hx351_0
                         (try rw [show ((0 : Int)).toNat = 0 from rfl] at hw351_0)
                         (try rw [show 0 * 9 = 0 from rfl] at hw351_0)
                         (try rw [Addr.add_zero'] at hw351_0)
                         obtain rfl : ad335 = ad351 := (by injection e351)
                         have qi351 : (0 < l0.length) = True := eq_true (by omega)
                         (try rw [show ((0 : Int)).toNat = 0 from rfl] at hx351_0)
                         (try rw [show 0 * 9 = 0 from rfl] at hx351_0)
                         (try rw [Addr.add_zero'] at hx351_0)
                         (try rw [show ((0 : Int)).toNat = 0 from rfl] at hx351_1)
                         (try rw [show 0 * 9 = 0 from rfl] at hx351_1)
                         (try rw [Addr.add_zero'] at hx351_1)
                         (try rw [show ((0 : Int)).toNat = 0 from rfl] at hx351_2)
                         (try rw [show 0 * 9 = 0 from rfl] at hx351_2)
                         (try rw [Addr.add_zero'] at hx351_2)
                         (try rw [show ((0 : Int)).toNat = 0 from rfl] at hx351_3)
                         (try rw [show 0 * 9 = 0 from rfl] at hx351_3)
                         (try rw [Addr.add_zero'] at hx351_3)
                         (try rw [show ((0 : Int)).toNat = 0 from rfl] at hx351_4)
                         (try rw [show 0 * 9 = 0 from rfl] at hx351_4)
                         (try rw [Addr.add_zero'] at hx351_4)
                         (try rw [show ((0 : Int)).toNat = 0 from rfl] at hx351_5)
                         (try rw [show 0 * 9 = 0 from rfl] at hx351_5)
                         (try rw [Addr.add_zero'] at hx351_5)
                         (try rw [show ((0 : Int)).toNat = 0 from rfl] at hx351_6)
                         (try rw [show 0 * 9 = 0 from rfl] at hx351_6)
                         (try rw [Addr.add_zero'] at hx351_6)
                         (try rw [show ((0 : Int)).toNat = 0 from rfl] at hx351_7)
                         (try rw [show 0 * 9 = 0 from rfl] at hx351_7)
                         (try rw [Addr.add_zero'] at hx351_7)
                         (try rw [show ((0 : Int)).toNat = 0 from rfl] at hx351_8)
                         (try rw [show 0 * 9 = 0 from rfl] at hx351_8)
                         (try rw [Addr.add_zero'] at hx351_8)
                         replace hx351_0 := upc HB.out hx351_0
                         replace hx351_1 := upc HB.out hx351_1
                         replace hx351_2 := upc HB.out hx351_2
                         replace hx351_3 := upc HB.out hx351_3
                         replace hx351_4 := upc HB.out hx351_4
                         replace hx351_5 := upc HB.out hx351_5
                         replace hx351_6 := upc HB.out hx351_6
                         replace hx351_7 := upc HB.out hx351_7
                         replace hx351_8 := upc HB.out hx351_8
                         replace p351 := eq_true p351
                         replace q351 := eq_true q351
                         have p352 : 0 ≤ (x12_3 : Int) := of_decide_eq_true (by first | (with_reducible assumption) | assumption)
                         have q352 : x12_3 < (x7_2.length : Int) := of_decide_eq_true (by first | (with_reducible assumption) | assumption)
                         obtain ⟨ad352, e352, hx352_0⟩ := Kd.at_int (Kd.R_reads' HO_7.out).2.2 x12_3 p352 q352
                         obtain rfl : ad350 = ad352 := (by injection e352)
                         replace p352 := eq_true p352
                         replace q352 := eq_true q352
                         have p353 : 0 ≤ (x12_3 : Int) := of_decide_eq_true (by first | (with_reducible assumption) | assumption)
                         have q353 : x12_3 < (x7_2.length : Int) := of_decide_eq_true (by first | (with_reducible assumption) | assumption)
                         obtain ⟨ad353, e353, hx353_0⟩ := Kd.at_int (Kd.R_reads' HO_7.out).2.2 x12_3 p353 q353
                         obtain rfl : ad350 = ad353 := (by injection e353)
                         replace p353 := eq_true p353
                         replace q353 := eq_true q353
                         refine start_ (n := 22) (S := fun w' => w'.cell? ad335 = some (.int .i64 ((rd_T27 l0 0).f0)) ∧ w'.cell? ⟨ad335.block, ad335.off + 1, none⟩ = some (.int .i64 ((rd_T27 l0 0).f1)) ∧ w'.cell? ⟨ad335.block, ad335.off + 2, none⟩ = some (.int .i64 ((rd_T27 l0 0).f2)) ∧ w'.cell? ⟨ad335.block, ad335.off + 3, none⟩ = some (.int .i64 ((rd_T27 l0 0).f3.f0)) ∧ w'.cell? ⟨ad335.block, ad335.off + 4, none⟩ = some (.int .i64 ((rd_T27 l0 0).f3.f1)) ∧ w'.cell? ⟨ad335.block, ad335.off + 5, none⟩ = some (.int .i64 ((rd_T27 l0 0).f3.f2)) ∧ w'.cell? ⟨ad335.block, ad335.off + 6, none⟩ = some (.int .i64 ((rd_T27 l0 0).f4.f0)) ∧ w'.cell? ⟨ad335.block, ad335.off + 7, none⟩ = some (.int .i64 ((rd_T27 l0 0).f4.f1)) ∧ w'.cell? ⟨ad335.block, ad335.off + 8, none⟩ = some (.int .i64 ((rd_T27 l0 0).f4.f2)) ∧ w'.cell? (ad350.add (x12_3).toNat) = some (.int .i64 (rd x7_2 x12_3)) ∧ w'.cell? (ad350.add (x12_3).toNat) = some (.int .i64 (rd x7_2 x12_3))) (ds := [19, 20]) #[false, false, false, false, false, false, false, false, false, false, false, false, false, false, false, false, false, false, false, false, false, false] (by kernel_rfl) rfl rfl ⟨((HB.out.cell (World.block_lt_of_cell? w _ hw351_0)).trans hw351_0), ((HB.out.cell (World.block_lt_of_cell? w _ hw351_1)).trans hw351_1), ((HB.out.cell (World.block_lt_of_cell? w _ hw351_2)).trans hw351_2), ((HB.out.cell (World.block_lt_of_cell? w _ hw351_3)).trans hw351_3), ((HB.out.cell (World.block_lt_of_cell? w _ hw351_4)).trans hw351_4), ((HB.out.cell (World.block_lt_of_cell? w _ hw351_5)).trans hw351_5), ((HB.out.cell (World.block_lt_of_cell? w _ hw351_6)).trans hw351_6), ((HB.out.cell (World.block_lt_of_cell? w _ hw351_7)).trans hw351_7), ((HB.out.cell (World.block_lt_of_cell? w _ hw351_8)).trans hw351_8), hx352_0, hx353_0⟩ (fun hHeld => ?_); refine with_tabW masterdiscref10_Collect.tab17 masterdiscref10_Collect.bits17 (fun HT_ HW_ => ?_)
                         generalize wr.drew = w26 at HO_7 HO_11 HB hx351_0 hx351_1 hx351_2 hx351_3 hx351_4 hx351_5 hx351_6 hx351_7 hx351_8 hx352_0 hx353_0 hHeld ⊢
                         refine pure_ (i := 0) (N := some 71) (v := ?_) (a' := ?_) (mS 22 1) rfl rfl (any_of HT_.out (by kernel_rfl)) (fun _ _ _ h => h) (Or.inl ⟨by rfl, ?_⟩) ?_ ?_
                         rotate_left
                         · intro w'
                           go_simp
                           with_reducible rfl
                         rotate_left
                         · simp only [Act.put, List.setIfInBounds_toArray, List.set_cons_zero, List.set_cons_succ, i64_w, i32_w]
                           rfl
                         refine pure_ (i := 1) (N := some 72) (v := ?_) (a' := ?_) (mS 22 3) rfl rfl (any_of HT_.out (by kernel_rfl)) (fun _ _ _ h => h) (Or.inl ⟨by rfl, ?_⟩) ?_ ?_
                         rotate_left
                         · intro w'
                           go_simp
                           with_reducible rfl
                         rotate_left
                         · simp only [Act.put, List.setIfInBounds_toArray, List.set_cons_zero, List.set_cons_succ, i64_w, i32_w]
                           rfl
                         refine pure_ (i := 2) (N := some 73) (v := ?_) (a' := ?_) (mS 22 7) rfl rfl (any_of HT_.out (by kernel_rfl)) (fun _ _ _ h => h) (Or.inl ⟨by rfl, ?_⟩) ?_ ?_
                         rotate_left
                         · intro w'
                           go_simp
                           with_reducible rfl
                         rotate_left
                         · simp only [Act.put, List.setIfInBounds_toArray, List.set_cons_zero, List.set_cons_succ, i64_w, i32_w]
                           rfl
                         refine pure_ (i := 3) (N := some 74) (v := ?_) (a' := ?_) (mS 22 15) rfl rfl (any_of HT_.out (by kernel_rfl)) (fun _ _ _ h => h) (Or.inl ⟨by rfl, ?_⟩) ?_ ?_
                         rotate_left
                         · intro w'
                           go_simp
                           with_reducible rfl
                         rotate_left
                         · simp only [Act.put, List.setIfInBounds_toArray, List.set_cons_zero, List.set_cons_succ, i64_w, i32_w]
                           rfl
                         refine pure_ (i := 4) (N := some 75) (v := ?_) (a' := ?_) (mS 22 31) rfl rfl (any_of HT_.out (by kernel_rfl)) (fun _ _ _ h => h) (Or.inl ⟨by rfl, ?_⟩) ?_ ?_
                         rotate_left
                         · intro w'
                           go_simp
                           with_reducible rfl
                         rotate_left
                         · simp only [Act.put, List.setIfInBounds_toArray, List.set_cons_zero, List.set_cons_succ, i64_w, i32_w]
                           rfl
                         refine pure_ (i := 6) (N := some 77) (v := ?_) (a' := ?_) (mS 22 95) rfl rfl (any_of HT_.out (by kernel_rfl)) (fun _ _ _ h => h) (Or.inl ⟨by rfl, ?_⟩) ?_ ?_
                         rotate_left
                         · intro w'
                           go_simp
                           with_reducible rfl
                         rotate_left
                         · simp only [Act.put, List.setIfInBounds_toArray, List.set_cons_zero, List.set_cons_succ, i64_w, i32_w]
                           rfl
                         refine pure_ (i := 8) (N := some 79) (v := ?_) (a' := ?_) (mS 22 351) rfl rfl (any_of HT_.out (by kernel_rfl)) (fun _ _ _ h => h) (Or.inl ⟨by rfl, ?_⟩) ?_ ?_
                         rotate_left
                         · intro w'
                           go_simp
                           with_reducible rfl
                         rotate_left
                         · simp only [Act.put, List.setIfInBounds_toArray, List.set_cons_zero, List.set_cons_succ, i64_w, i32_w]
                           rfl
                         refine pure_ (i := 9) (N := some 80) (v := ?_) (a' := ?_) (mS 22 863) rfl rfl (any_of HT_.out (by kernel_rfl)) (fun _ _ _ h => h) (Or.inl ⟨by rfl, ?_⟩) ?_ ?_
                         rotate_left
                         · intro w'
                           go_simp
                           with_reducible rfl
                         rotate_left
                         · simp only [Act.put, List.setIfInBounds_toArray, List.set_cons_zero, List.set_cons_succ, i64_w, i32_w]
                           rfl
                         refine pure_ (i := 10) (N := some 81) (v := ?_) (a' := ?_) (mS 22 1887) rfl rfl (any_of HT_.out (by kernel_rfl)) (fun _ _ _ h => h) (Or.inl ⟨by rfl, ?_⟩) ?_ ?_
                         rotate_left
                         · intro w'
                           go_simp
                           with_reducible rfl
                         rotate_left
                         · simp only [Act.put, List.setIfInBounds_toArray, List.set_cons_zero, List.set_cons_succ, i64_w, i32_w]
                           rfl
                         refine pure_ (i := 12) (N := some 83) (v := ?_) (a' := ?_) (mS 22 5983) rfl rfl (any_of HT_.out (by kernel_rfl)) (fun _ _ _ h => h) (Or.inl ⟨by rfl, ?_⟩) ?_ ?_
                         rotate_left
                         · intro w'
                           go_simp
                           with_reducible rfl
                         rotate_left
                         · simp only [Act.put, List.setIfInBounds_toArray, List.set_cons_zero, List.set_cons_succ, i64_w, i32_w]
                           rfl
                         refine pure_ (i := 13) (N := some 84) (v := ?_) (a' := ?_) (mS 22 14175) rfl rfl (any_of HT_.out (by kernel_rfl)) (fun _ _ _ h => h) (Or.inl ⟨by rfl, ?_⟩) ?_ ?_
                         rotate_left
                         · intro w'
                           go_simp
                           with_reducible rfl
                         rotate_left
                         · simp only [Act.put, List.setIfInBounds_toArray, List.set_cons_zero, List.set_cons_succ, i64_w, i32_w]
                           rfl
                         refine pure_ (i := 14) (N := some 85) (v := ?_) (a' := ?_) (mS 22 30559) rfl rfl (any_of HT_.out (by kernel_rfl)) (fun _ _ _ h => h) (Or.inl ⟨by rfl, ?_⟩) ?_ ?_
                         rotate_left
                         · intro w'
                           go_simp
                           with_reducible rfl
                         rotate_left
                         · simp only [Act.put, List.setIfInBounds_toArray, List.set_cons_zero, List.set_cons_succ, i64_w, i32_w]
                           rfl
                         refine pure_ (i := 15) (N := some 86) (v := ?_) (a' := ?_) (mS 22 63327) rfl rfl (any_of HT_.out (by kernel_rfl)) (fun _ _ _ h => h) (Or.inl ⟨by rfl, ?_⟩) ?_ ?_
                         rotate_left
                         · intro w'
                           go_simp
                           with_reducible rfl
                         rotate_left
                         · simp only [Act.put, List.setIfInBounds_toArray, List.set_cons_zero, List.set_cons_succ, i64_w, i32_w]
                           rfl
                         refine take_ (i := 5) (N := some 76) (v := ?_) (a' := ?_) (mS 22 63359) rfl rfl (take_ofW HT_.out HW_.out (by kernel_rfl)) (fun _ _ _ h => h) (Or.inl ⟨by rfl, ?_⟩) hHeld ?_ ?_
                         rotate_left
                         · rintro w' ⟨s0, s1, s2, s3, s4, s5, s6, s7, s8, s9, s10⟩
                           go_simp
                           with_reducible rfl
                         rotate_left
                         · simp only [Act.put, List.setIfInBounds_toArray, List.set_cons_zero, List.set_cons_succ, i64_w, i32_w]
                           rfl
                         refine pure_ (i := 7) (N := some 78) (v := ?_) (a' := ?_) (mS 22 63487) rfl rfl (any_of HT_.out (by kernel_rfl)) (fun _ _ _ h => h) (Or.inl ⟨by rfl, ?_⟩) ?_ ?_
                         rotate_left
                         · intro w'
                           go_simp
                           with_reducible rfl
                         rotate_left
                         · simp only [Act.put, List.setIfInBounds_toArray, List.set_cons_zero, List.set_cons_succ, i64_w, i32_w]
                           rfl
                         refine take_ (i := 11) (N := some 82) (v := ?_) (a' := ?_) (mS 22 65535) rfl rfl (take_ofW HT_.out HW_.out (by kernel_rfl)) (fun _ _ _ h => h) (Or.inl ⟨by rfl, ?_⟩) hHeld ?_ ?_
                         rotate_left
                         · rintro w' ⟨s0, s1, s2, s3, s4, s5, s6, s7, s8, s9, s10⟩
                           go_simp
                           with_reducible rfl
                         rotate_left
                         · simp only [Act.put, List.setIfInBounds_toArray, List.set_cons_zero, List.set_cons_succ, i64_w, i32_w]
                           rfl
                         refine take_ (i := 16) (N := some 87) (v := ?_) (a' := ?_) (mS 22 131071) rfl rfl (take_ofW HT_.out HW_.out (by kernel_rfl)) (fun _ _ _ h => h) (Or.inl ⟨by rfl, ?_⟩) hHeld ?_ ?_
                         rotate_left
                         · rintro w' ⟨s0, s1, s2, s3, s4, s5, s6, s7, s8, s9, s10⟩
                           go_simp
                           with_reducible rfl
                         rotate_left
                         · simp only [Act.put, List.setIfInBounds_toArray, List.set_cons_zero, List.set_cons_succ, i64_w, i32_w]
                           rfl
                         refine pure_ (i := 17) (N := some 88) (v := ?_) (a' := ?_) (mS 22 262143) rfl rfl (any_of HT_.out (by kernel_rfl)) (fun _ _ _ h => h) (Or.inl ⟨by rfl, ?_⟩) ?_ ?_
                         rotate_left
                         · intro w'
                           go_simp
                           with_reducible rfl
                         rotate_left
                         · simp only [Act.put, List.setIfInBounds_toArray, List.set_cons_zero, List.set_cons_succ, i64_w, i32_w]
                           rfl
                         refine pure_ (i := 18) (N := some 89) (v := ?_) (a' := ?_) (mS 22 524287) rfl rfl (any_of HT_.out (by kernel_rfl)) (fun _ _ _ h => h) (Or.inl ⟨by rfl, ?_⟩) ?_ ?_
                         rotate_left
                         · intro w'
                           go_simp
                           with_reducible rfl
                         rotate_left
                         · simp only [Act.put, List.setIfInBounds_toArray, List.set_cons_zero, List.set_cons_succ, i64_w, i32_w]
                           rfl
                         refine last_ (i := 19) (N := some 90) (mS 22 1048575) rfl rfl (one_of HT_.out (by kernel_rfl)) (by decide) (fun K hK => ?_)
                         refine value_ (w1 := ?_) (v := ?_) (by rfl) rfl ?_ ?_
                         rotate_left 2
                         · go_simp
                           constructor
                           · rfl
                           · rfl
                         refine hK.out _ _ ?_
                         clear hK K
                         refine norm_ (a' := ?_) ?_ ?_
                         rotate_left
                         · show Act.put _ (some 90) _ = _
                           simp only [Act.put, List.setIfInBounds_toArray, List.set_cons_zero, List.set_cons_succ, i64_w, i32_w]
                           rfl
                         refine last_ (i := 20) (N := some 91) (mS 22 2097151) rfl rfl (one_of HT_.out (by kernel_rfl)) (by decide) (fun K hK => ?_)
                         refine Kd.R_append_step k53 (w0 := w) w.heap.size (by rfl) (.tmp 71) (.tmp 90) 22 53 (.agg #[(.int .i64 0), (.int .i64 0), (.int .i64 0), (.int .i64 0), (.int .i64 0), (.int .i64 0), (.int .i64 0)]) 56 rfl Try.underlying22 info53 rfl (by decide) (by omega) u11 x11_3 (⟨wrap64 (((rd_T27 l0 0).f4.f0) + x12_3), 0, rd x7_2 x12_3, wrap64 ((rd x7_2 (ji20)) - (rd x7_2 x12_3)), 0, 0, 0⟩ : S53) [.int .i64 (wrap64 (((rd_T27 l0 0).f4.f0) + x12_3)), .int .i64 0, .int .i64 (rd x7_2 x12_3), .int .i64 (wrap64 ((rd x7_2 (ji20)) - (rd x7_2 x12_3))), .int .i64 0, .int .i64 0, .int .i64 0] (fun _ => True) (fun _ => False) rfl rfl ?aP (fun _ hk => hk.elim) ?aF ?aO ?aB ?aS ?aL ?_
                         (case aP => exact k53_mkM _ _ _ (⟨wrap64 (((rd_T27 l0 0).f4.f0) + x12_3), 0, rd x7_2 x12_3, wrap64 ((rd x7_2 (ji20)) - (rd x7_2 x12_3)), 0, 0, 0⟩ : S53))
                         (case aB => exact (by repeat (first | (with_reducible first | exact HB.out | apply below_alloc | apply pw_below_drewN | apply below_drew1) | exact HB.out)))
                         (case aF => exact (fun _ _ => trivial))
                         (case aO => exact (by (with_reducible repeat (first | apply Kd.R_alloc | apply Kd.R_drewN | apply Kd.R_drew)); exact HO_11.out))
                         (case aS => exact (below_size (by repeat (first | (with_reducible first | exact HB.out | apply below_alloc | apply pw_below_drewN | apply below_drew1) | exact HB.out))))
                         (case aL => have := LMc24.out; omega)
                         intro v355 w27 ho hb hg hat
                         rw [← Ny354.out] at ho
                         have n0_ := Aside0.mk (Kd.R_over' (by (with_reducible repeat (first | apply Kd.R_alloc | apply Kd.R_drewN | apply Kd.R_drew)); exact HO_7.out) (Kd.R_typed (by (with_reducible repeat (first | apply Kd.R_alloc | apply Kd.R_drewN | apply Kd.R_drew)); exact HO_11.out)) (by decide) hg)
                         have n1_ := Aside0.mk (hb)
                         have n2_ := Aside0.mk (ho)
                         clear HO_7
                         clear HB
                         clear HO_11
                         have HO_7 := n0_
                         have HB := n1_
                         have HO356 := n2_
                         clear n0_ n1_ n2_
                         clear ho hb hg hat
                         refine hK.out _ _ ?_
                         clear hK K
                         refine norm_ (a' := ?_) ?_ ?_
                         rotate_left
                         · show Act.put _ (some 91) _ = _
                           simp only [Act.put, List.setIfInBounds_toArray, List.set_cons_zero, List.set_cons_succ, i64_w, i32_w]
                           rfl
                         refine pure_ (i := 21) (N := some 11) (v := ?_) (a' := ?_) (mS 22 4194303) rfl rfl (any_of HT_.out (by kernel_rfl)) (fun _ _ _ h => h) (Or.inl ⟨by rfl, ?_⟩) ?_ ?_
                         rotate_left
                         · intro w'
                           go_simp
                           with_reducible rfl
                         rotate_left
                         · simp only [Act.put, List.setIfInBounds_toArray, List.set_cons_zero, List.set_cons_succ, i64_w, i32_w]
                           rfl
                         refine done_ (done_of HT_.out (by kernel_rfl)) ?_
                         try go_wp2
                         go_roundg k3
                         case measure => have := HJ1.out; have := HK2.out; have := HK3.out; omega
                         case rel => exact ⟨(y354), (ji20), (by first | rfl | (simp; done) | (simp only [← hji20] <;> (first | rfl | simp)) | (simp [*]; done)), H', ⟨by have := HJ1.out; have := HK2.out; have := HK3.out; omega⟩, ⟨by (with_reducible repeat (first | apply Kd.R_alloc | apply Kd.R_drewN | apply Kd.R_drew)); exact HO_7.out⟩, ⟨by (with_reducible repeat (first | apply Kd.R_alloc | apply Kd.R_drewN | apply Kd.R_drew)); exact HO356.out⟩, ⟨by repeat (first | (with_reducible first | exact HB.out | apply below_alloc | apply pw_below_drewN | apply below_drew1) | exact HB.out)⟩⟩
                       · rw [if_neg c24] at H
                         exact absurd H (by simp)
                     · rw [if_neg c23] at H
                       exact absurd H (by simp)
                   · rw [if_neg c22] at H
                     exact absurd H (by simp)
                 · rw [if_neg c21] at H
                   exact absurd H (by simp)
               · rw [if_neg c19] at H
                 have c19b0 : decide ((wrap64 (x12_3 + 1)) < (x7_2.length : Int)) = false := decide_eq_false c19
                 clear c19
                 by_cases c28 : 0 < (l0.length : Int)
                 · rw [if_pos c28] at H
                   have c28b0 : decide (0 < (l0.length : Int)) = true := decide_eq_true c28
                   have c28b1 : decide (0 < l0.length) = true := decide_eq_true (by omega)
                   clear c28
                   by_cases c29 : 0 ≤ x12_3
                   · rw [if_pos c29] at H
                     have c29b0 : decide (0 ≤ x12_3) = true := decide_eq_true c29
                     clear c29
                     by_cases c30 : x11_3.length < 2513169434916
                     · rw [if_pos c30] at H
                       have LMc30 := Aside0.mk c30
                       clear c30
                       obtain ⟨y360, hy360⟩ : ∃ y_ : List (S53), y_ = (x11_3 ++ [(⟨wrap64 (((rd_T27 l0 0).f4.f0) + x12_3), 0, rd x7_2 x12_3, wrap64 (t336 - (rd x7_2 x12_3)), 0, 0, 0⟩ : S53)]) := ⟨_, rfl⟩
                       replace H : (masterdiscref10_Collect.l1 k3 l0 t336 x7_2 y360 (wrap64 (x12_3 + 1))) = some (r1, r2, r3) := by first | (rw [hy360]; with_reducible exact H) | (have H2_ := (Option.bind_some _ _).symm.trans H; rw [hy360]; with_reducible exact H2_) | (have H2_ := (Option.bind_some _ _).symm.trans H; with_reducible exact H2_) | with_reducible exact H | (rw [hy360]; exact H) | exact H
                       have Ny360 := Aside0.mk hy360
                       clear hy360
                       have H' := Aside0.mk H
                       clear H
                       obtain ⟨Ao31, co31, eo31⟩ := Kd.R_slice HO_7.out
                       subst eo31
                       try go_wp2
                       have n0_ := Aside0.mk (Kd.R_drew HO_7.out)
                       have n1_ := Aside0.mk (Kd.R_drew HO_11.out)
                       have n2_ := Aside0.mk (below_drew1 HB.out)
                       clear HO_7
                       clear HO_11
                       clear HB
                       have HO_7 := n0_
                       have HO_11 := n1_
                       have HB := n2_
                       clear n0_ n1_ n2_
                       have p357 : 0 ≤ (0 : Int) := (by omega)
                       have q357 : 0 < (l0.length : Int) := of_decide_eq_true (by first | (with_reducible assumption) | assumption)
                       obtain ⟨ad357, e357, hx357_0, hx357_1, hx357_2, hx357_3, hx357_4, hx357_5, hx357_6, hx357_7, hx357_8⟩ := at_T27 HR0.out 0 p357 q357
                       have hw357_8 := hx357_8
                       (try rw [show ((0 : Int)).toNat = 0 from rfl] at hw357_8)
                       (try rw [show 0 * 9 = 0 from rfl] at hw357_8)
                       (try rw [Addr.add_zero'] at hw357_8)
                       have hw357_7 := hx357_7
                       (try rw [show ((0 : Int)).toNat = 0 from rfl] at hw357_7)
                       (try rw [show 0 * 9 = 0 from rfl] at hw357_7)
                       (try rw [Addr.add_zero'] at hw357_7)
                       have hw357_6 := hx357_6
                       (try rw [show ((0 : Int)).toNat = 0 from rfl] at hw357_6)
                       (try rw [show 0 * 9 = 0 from rfl] at hw357_6)
                       (try rw [Addr.add_zero'] at hw357_6)
                       have hw357_5 := hx357_5
                       (try rw [show ((0 : Int)).toNat = 0 from rfl] at hw357_5)
                       (try rw [show 0 * 9 = 0 from rfl] at hw357_5)
                       (try rw [Addr.add_zero'] at hw357_5)
                       have hw357_4 := hx357_4
                       (try rw [show ((0 : Int)).toNat = 0 from rfl] at hw357_4)
                       (try rw [show 0 * 9 = 0 from rfl] at hw357_4)
                       (try rw [Addr.add_zero'] at hw357_4)
                       have hw357_3 := hx357_3
                       (try rw [show ((0 : Int)).toNat = 0 from rfl] at hw357_3)
                       (try rw [show 0 * 9 = 0 from rfl] at hw357_3)
                       (try rw [Addr.add_zero'] at hw357_3)
                       have hw357_2 := hx357_2
                       (try rw [show ((0 : Int)).toNat = 0 from rfl] at hw357_2)
                       (try rw [show 0 * 9 = 0 from rfl] at hw357_2)
                       (try rw [Addr.add_zero'] at hw357_2)
                       have hw357_1 := hx357_1
                       (try rw [show ((0 : Int)).toNat = 0 from rfl] at hw357_1)
                       (try rw [show 0 * 9 = 0 from rfl] at hw357_1)
                       (try rw [Addr.add_zero'] at hw357_1)
                       have hw357_0 := hx357_0
                       (try rw [show ((0 : Int)).toNat = 0 from rfl] at hw357_0)
                       (try rw [show 0 * 9 = 0 from rfl] at hw357_0)
                       (try rw [Addr.add_zero'] at hw357_0)
                       obtain rfl : ad335 = ad357 := (by injection e357)
                       have qi357 : (0 < l0.length) = True := eq_true (by omega)
                       (try rw [show ((0 : Int)).toNat = 0 from rfl] at hx357_0)
                       (try rw [show 0 * 9 = 0 from rfl] at hx357_0)
                       (try rw [Addr.add_zero'] at hx357_0)
                       (try rw [show ((0 : Int)).toNat = 0 from rfl] at hx357_1)
                       (try rw [show 0 * 9 = 0 from rfl] at hx357_1)
                       (try rw [Addr.add_zero'] at hx357_1)
                       (try rw [show ((0 : Int)).toNat = 0 from rfl] at hx357_2)
                       (try rw [show 0 * 9 = 0 from rfl] at hx357_2)
                       (try rw [Addr.add_zero'] at hx357_2)
                       (try rw [show ((0 : Int)).toNat = 0 from rfl] at hx357_3)
                       (try rw [show 0 * 9 = 0 from rfl] at hx357_3)
                       (try rw [Addr.add_zero'] at hx357_3)
                       (try rw [show ((0 : Int)).toNat = 0 from rfl] at hx357_4)
                       (try rw [show 0 * 9 = 0 from rfl] at hx357_4)
                       (try rw [Addr.add_zero'] at hx357_4)
                       (try rw [show ((0 : Int)).toNat = 0 from rfl] at hx357_5)
                       (try rw [show 0 * 9 = 0 from rfl] at hx357_5)
                       (try rw [Addr.add_zero'] at hx357_5)
                       (try rw [show ((0 : Int)).toNat = 0 from rfl] at hx357_6)
                       (try rw [show 0 * 9 = 0 from rfl] at hx357_6)
                       (try rw [Addr.add_zero'] at hx357_6)
                       (try rw [show ((0 : Int)).toNat = 0 from rfl] at hx357_7)
                       (try rw [show 0 * 9 = 0 from rfl] at hx357_7)
                       (try rw [Addr.add_zero'] at hx357_7)
                       (try rw [show ((0 : Int)).toNat = 0 from rfl] at hx357_8)
                       (try rw [show 0 * 9 = 0 from rfl] at hx357_8)
                       (try rw [Addr.add_zero'] at hx357_8)
                       replace hx357_0 := upc HB.out hx357_0
                       replace hx357_1 := upc HB.out hx357_1
                       replace hx357_2 := upc HB.out hx357_2
                       replace hx357_3 := upc HB.out hx357_3
                       replace hx357_4 := upc HB.out hx357_4
                       replace hx357_5 := upc HB.out hx357_5
                       replace hx357_6 := upc HB.out hx357_6
                       replace hx357_7 := upc HB.out hx357_7
                       replace hx357_8 := upc HB.out hx357_8
                       replace p357 := eq_true p357
                       replace q357 := eq_true q357
                       have p358 : 0 ≤ (x12_3 : Int) := of_decide_eq_true (by first | (with_reducible assumption) | assumption)
                       have q358 : x12_3 < (x7_2.length : Int) := of_decide_eq_true (by first | (with_reducible assumption) | assumption)
                       obtain ⟨ad358, e358, hx358_0⟩ := Kd.at_int (Kd.R_reads' HO_7.out).2.2 x12_3 p358 q358
                       cases e358
                       replace p358 := eq_true p358
                       replace q358 := eq_true q358
                       have p359 : 0 ≤ (x12_3 : Int) := of_decide_eq_true (by first | (with_reducible assumption) | assumption)
                       have q359 : x12_3 < (x7_2.length : Int) := of_decide_eq_true (by first | (with_reducible assumption) | assumption)
                       obtain ⟨ad359, e359, hx359_0⟩ := Kd.at_int (Kd.R_reads' HO_7.out).2.2 x12_3 p359 q359
                       obtain rfl : ad358 = ad359 := (by injection e359)
                       replace p359 := eq_true p359
                       replace q359 := eq_true q359
                       refine start_ (n := 22) (S := fun w' => w'.cell? ad335 = some (.int .i64 ((rd_T27 l0 0).f0)) ∧ w'.cell? ⟨ad335.block, ad335.off + 1, none⟩ = some (.int .i64 ((rd_T27 l0 0).f1)) ∧ w'.cell? ⟨ad335.block, ad335.off + 2, none⟩ = some (.int .i64 ((rd_T27 l0 0).f2)) ∧ w'.cell? ⟨ad335.block, ad335.off + 3, none⟩ = some (.int .i64 ((rd_T27 l0 0).f3.f0)) ∧ w'.cell? ⟨ad335.block, ad335.off + 4, none⟩ = some (.int .i64 ((rd_T27 l0 0).f3.f1)) ∧ w'.cell? ⟨ad335.block, ad335.off + 5, none⟩ = some (.int .i64 ((rd_T27 l0 0).f3.f2)) ∧ w'.cell? ⟨ad335.block, ad335.off + 6, none⟩ = some (.int .i64 ((rd_T27 l0 0).f4.f0)) ∧ w'.cell? ⟨ad335.block, ad335.off + 7, none⟩ = some (.int .i64 ((rd_T27 l0 0).f4.f1)) ∧ w'.cell? ⟨ad335.block, ad335.off + 8, none⟩ = some (.int .i64 ((rd_T27 l0 0).f4.f2)) ∧ w'.cell? (ad358.add (x12_3).toNat) = some (.int .i64 (rd x7_2 x12_3)) ∧ w'.cell? (ad358.add (x12_3).toNat) = some (.int .i64 (rd x7_2 x12_3))) (ds := [19, 20]) #[false, false, false, false, false, false, false, false, false, false, false, false, false, false, false, false, false, false, false, false, false, false] (by kernel_rfl) rfl rfl ⟨((HB.out.cell (World.block_lt_of_cell? w _ hw357_0)).trans hw357_0), ((HB.out.cell (World.block_lt_of_cell? w _ hw357_1)).trans hw357_1), ((HB.out.cell (World.block_lt_of_cell? w _ hw357_2)).trans hw357_2), ((HB.out.cell (World.block_lt_of_cell? w _ hw357_3)).trans hw357_3), ((HB.out.cell (World.block_lt_of_cell? w _ hw357_4)).trans hw357_4), ((HB.out.cell (World.block_lt_of_cell? w _ hw357_5)).trans hw357_5), ((HB.out.cell (World.block_lt_of_cell? w _ hw357_6)).trans hw357_6), ((HB.out.cell (World.block_lt_of_cell? w _ hw357_7)).trans hw357_7), ((HB.out.cell (World.block_lt_of_cell? w _ hw357_8)).trans hw357_8), hx358_0, hx359_0⟩ (fun hHeld => ?_); refine with_tabW masterdiscref10_Collect.tab17 masterdiscref10_Collect.bits17 (fun HT_ HW_ => ?_)
                       generalize wr.drew = w32 at HO_7 HO_11 HB hx357_0 hx357_1 hx357_2 hx357_3 hx357_4 hx357_5 hx357_6 hx357_7 hx357_8 hx358_0 hx359_0 hHeld ⊢
                       refine pure_ (i := 0) (N := some 71) (v := ?_) (a' := ?_) (mS 22 1) rfl rfl (any_of HT_.out (by kernel_rfl)) (fun _ _ _ h => h) (Or.inl ⟨by rfl, ?_⟩) ?_ ?_
                       rotate_left
                       · intro w'
                         go_simp
                         with_reducible rfl
                       rotate_left
                       · simp only [Act.put, List.setIfInBounds_toArray, List.set_cons_zero, List.set_cons_succ, i64_w, i32_w]
                         rfl
                       refine pure_ (i := 1) (N := some 72) (v := ?_) (a' := ?_) (mS 22 3) rfl rfl (any_of HT_.out (by kernel_rfl)) (fun _ _ _ h => h) (Or.inl ⟨by rfl, ?_⟩) ?_ ?_
                       rotate_left
                       · intro w'
                         go_simp
                         with_reducible rfl
                       rotate_left
                       · simp only [Act.put, List.setIfInBounds_toArray, List.set_cons_zero, List.set_cons_succ, i64_w, i32_w]
                         rfl
                       refine pure_ (i := 2) (N := some 73) (v := ?_) (a' := ?_) (mS 22 7) rfl rfl (any_of HT_.out (by kernel_rfl)) (fun _ _ _ h => h) (Or.inl ⟨by rfl, ?_⟩) ?_ ?_
                       rotate_left
                       · intro w'
                         go_simp
                         with_reducible rfl
                       rotate_left
                       · simp only [Act.put, List.setIfInBounds_toArray, List.set_cons_zero, List.set_cons_succ, i64_w, i32_w]
                         rfl
                       refine pure_ (i := 3) (N := some 74) (v := ?_) (a' := ?_) (mS 22 15) rfl rfl (any_of HT_.out (by kernel_rfl)) (fun _ _ _ h => h) (Or.inl ⟨by rfl, ?_⟩) ?_ ?_
                       rotate_left
                       · intro w'
                         go_simp
                         with_reducible rfl
                       rotate_left
                       · simp only [Act.put, List.setIfInBounds_toArray, List.set_cons_zero, List.set_cons_succ, i64_w, i32_w]
                         rfl
                       refine pure_ (i := 4) (N := some 75) (v := ?_) (a' := ?_) (mS 22 31) rfl rfl (any_of HT_.out (by kernel_rfl)) (fun _ _ _ h => h) (Or.inl ⟨by rfl, ?_⟩) ?_ ?_
                       rotate_left
                       · intro w'
                         go_simp
                         with_reducible rfl
                       rotate_left
                       · simp only [Act.put, List.setIfInBounds_toArray, List.set_cons_zero, List.set_cons_succ, i64_w, i32_w]
                         rfl
                       refine pure_ (i := 6) (N := some 77) (v := ?_) (a' := ?_) (mS 22 95) rfl rfl (any_of HT_.out (by kernel_rfl)) (fun _ _ _ h => h) (Or.inl ⟨by rfl, ?_⟩) ?_ ?_
                       rotate_left
                       · intro w'
                         go_simp
                         with_reducible rfl
                       rotate_left
                       · simp only [Act.put, List.setIfInBounds_toArray, List.set_cons_zero, List.set_cons_succ, i64_w, i32_w]
                         rfl
                       refine pure_ (i := 8) (N := some 79) (v := ?_) (a' := ?_) (mS 22 351) rfl rfl (any_of HT_.out (by kernel_rfl)) (fun _ _ _ h => h) (Or.inl ⟨by rfl, ?_⟩) ?_ ?_
                       rotate_left
                       · intro w'
                         go_simp
                         with_reducible rfl
                       rotate_left
                       · simp only [Act.put, List.setIfInBounds_toArray, List.set_cons_zero, List.set_cons_succ, i64_w, i32_w]
                         rfl
                       refine pure_ (i := 9) (N := some 80) (v := ?_) (a' := ?_) (mS 22 863) rfl rfl (any_of HT_.out (by kernel_rfl)) (fun _ _ _ h => h) (Or.inl ⟨by rfl, ?_⟩) ?_ ?_
                       rotate_left
                       · intro w'
                         go_simp
                         with_reducible rfl
                       rotate_left
                       · simp only [Act.put, List.setIfInBounds_toArray, List.set_cons_zero, List.set_cons_succ, i64_w, i32_w]
                         rfl
                       refine pure_ (i := 10) (N := some 81) (v := ?_) (a' := ?_) (mS 22 1887) rfl rfl (any_of HT_.out (by kernel_rfl)) (fun _ _ _ h => h) (Or.inl ⟨by rfl, ?_⟩) ?_ ?_
                       rotate_left
                       · intro w'
                         go_simp
                         with_reducible rfl
                       rotate_left
                       · simp only [Act.put, List.setIfInBounds_toArray, List.set_cons_zero, List.set_cons_succ, i64_w, i32_w]
                         rfl
                       refine pure_ (i := 12) (N := some 83) (v := ?_) (a' := ?_) (mS 22 5983) rfl rfl (any_of HT_.out (by kernel_rfl)) (fun _ _ _ h => h) (Or.inl ⟨by rfl, ?_⟩) ?_ ?_
                       rotate_left
                       · intro w'
                         go_simp
                         with_reducible rfl
                       rotate_left
                       · simp only [Act.put, List.setIfInBounds_toArray, List.set_cons_zero, List.set_cons_succ, i64_w, i32_w]
                         rfl
                       refine pure_ (i := 13) (N := some 84) (v := ?_) (a' := ?_) (mS 22 14175) rfl rfl (any_of HT_.out (by kernel_rfl)) (fun _ _ _ h => h) (Or.inl ⟨by rfl, ?_⟩) ?_ ?_
                       rotate_left
                       · intro w'
                         go_simp
                         with_reducible rfl
                       rotate_left
                       · simp only [Act.put, List.setIfInBounds_toArray, List.set_cons_zero, List.set_cons_succ, i64_w, i32_w]
                         rfl
                       refine pure_ (i := 14) (N := some 85) (v := ?_) (a' := ?_) (mS 22 30559) rfl rfl (any_of HT_.out (by kernel_rfl)) (fun _ _ _ h => h) (Or.inl ⟨by rfl, ?_⟩) ?_ ?_
                       rotate_left
                       · intro w'
                         go_simp
                         with_reducible rfl
                       rotate_left
                       · simp only [Act.put, List.setIfInBounds_toArray, List.set_cons_zero, List.set_cons_succ, i64_w, i32_w]
                         rfl
                       refine pure_ (i := 15) (N := some 86) (v := ?_) (a' := ?_) (mS 22 63327) rfl rfl (any_of HT_.out (by kernel_rfl)) (fun _ _ _ h => h) (Or.inl ⟨by rfl, ?_⟩) ?_ ?_
                       rotate_left
                       · intro w'
                         go_simp
                         with_reducible rfl
                       rotate_left
                       · simp only [Act.put, List.setIfInBounds_toArray, List.set_cons_zero, List.set_cons_succ, i64_w, i32_w]
                         rfl
                       refine take_ (i := 5) (N := some 76) (v := ?_) (a' := ?_) (mS 22 63359) rfl rfl (take_ofW HT_.out HW_.out (by kernel_rfl)) (fun _ _ _ h => h) (Or.inl ⟨by rfl, ?_⟩) hHeld ?_ ?_
                       rotate_left
                       · rintro w' ⟨s0, s1, s2, s3, s4, s5, s6, s7, s8, s9, s10⟩
                         go_simp
                         with_reducible rfl
                       rotate_left
                       · simp only [Act.put, List.setIfInBounds_toArray, List.set_cons_zero, List.set_cons_succ, i64_w, i32_w]
                         rfl
                       refine pure_ (i := 7) (N := some 78) (v := ?_) (a' := ?_) (mS 22 63487) rfl rfl (any_of HT_.out (by kernel_rfl)) (fun _ _ _ h => h) (Or.inl ⟨by rfl, ?_⟩) ?_ ?_
                       rotate_left
                       · intro w'
                         go_simp
                         with_reducible rfl
                       rotate_left
                       · simp only [Act.put, List.setIfInBounds_toArray, List.set_cons_zero, List.set_cons_succ, i64_w, i32_w]
                         rfl
                       refine take_ (i := 11) (N := some 82) (v := ?_) (a' := ?_) (mS 22 65535) rfl rfl (take_ofW HT_.out HW_.out (by kernel_rfl)) (fun _ _ _ h => h) (Or.inl ⟨by rfl, ?_⟩) hHeld ?_ ?_
                       rotate_left
                       · rintro w' ⟨s0, s1, s2, s3, s4, s5, s6, s7, s8, s9, s10⟩
                         go_simp
                         with_reducible rfl
                       rotate_left
                       · simp only [Act.put, List.setIfInBounds_toArray, List.set_cons_zero, List.set_cons_succ, i64_w, i32_w]
                         rfl
                       refine take_ (i := 16) (N := some 87) (v := ?_) (a' := ?_) (mS 22 131071) rfl rfl (take_ofW HT_.out HW_.out (by kernel_rfl)) (fun _ _ _ h => h) (Or.inl ⟨by rfl, ?_⟩) hHeld ?_ ?_
                       rotate_left
                       · rintro w' ⟨s0, s1, s2, s3, s4, s5, s6, s7, s8, s9, s10⟩
                         go_simp
                         with_reducible rfl
                       rotate_left
                       · simp only [Act.put, List.setIfInBounds_toArray, List.set_cons_zero, List.set_cons_succ, i64_w, i32_w]
                         rfl
                       refine pure_ (i := 17) (N := some 88) (v := ?_) (a' := ?_) (mS 22 262143) rfl rfl (any_of HT_.out (by kernel_rfl)) (fun _ _ _ h => h) (Or.inl ⟨by rfl, ?_⟩) ?_ ?_
                       rotate_left
                       · intro w'
                         go_simp
                         with_reducible rfl
                       rotate_left
                       · simp only [Act.put, List.setIfInBounds_toArray, List.set_cons_zero, List.set_cons_succ, i64_w, i32_w]
                         rfl
                       refine pure_ (i := 18) (N := some 89) (v := ?_) (a' := ?_) (mS 22 524287) rfl rfl (any_of HT_.out (by kernel_rfl)) (fun _ _ _ h => h) (Or.inl ⟨by rfl, ?_⟩) ?_ ?_
                       rotate_left
                       · intro w'
                         go_simp
                         with_reducible rfl
                       rotate_left
                       · simp only [Act.put, List.setIfInBounds_toArray, List.set_cons_zero, List.set_cons_succ, i64_w, i32_w]
                         rfl
                       refine last_ (i := 19) (N := some 90) (mS 22 1048575) rfl rfl (one_of HT_.out (by kernel_rfl)) (by decide) (fun K hK => ?_)
                       refine value_ (w1 := ?_) (v := ?_) (by rfl) rfl ?_ ?_
                       rotate_left 2
                       · go_simp
                         constructor
                         · rfl
                         · rfl
                       refine hK.out _ _ ?_
                       clear hK K
                       refine norm_ (a' := ?_) ?_ ?_
                       rotate_left
                       · show Act.put _ (some 90) _ = _
                         simp only [Act.put, List.setIfInBounds_toArray, List.set_cons_zero, List.set_cons_succ, i64_w, i32_w]
                         rfl
                       refine last_ (i := 20) (N := some 91) (mS 22 2097151) rfl rfl (one_of HT_.out (by kernel_rfl)) (by decide) (fun K hK => ?_)
                       refine Kd.R_append_step k53 (w0 := w) w.heap.size (by rfl) (.tmp 71) (.tmp 90) 22 53 (.agg #[(.int .i64 0), (.int .i64 0), (.int .i64 0), (.int .i64 0), (.int .i64 0), (.int .i64 0), (.int .i64 0)]) 56 rfl Try.underlying22 info53 rfl (by decide) (by omega) u11 x11_3 (⟨wrap64 (((rd_T27 l0 0).f4.f0) + x12_3), 0, rd x7_2 x12_3, wrap64 (t336 - (rd x7_2 x12_3)), 0, 0, 0⟩ : S53) [.int .i64 (wrap64 (((rd_T27 l0 0).f4.f0) + x12_3)), .int .i64 0, .int .i64 (rd x7_2 x12_3), .int .i64 (wrap64 (t336 - (rd x7_2 x12_3))), .int .i64 0, .int .i64 0, .int .i64 0] (fun _ => True) (fun _ => False) rfl rfl ?aP (fun _ hk => hk.elim) ?aF ?aO ?aB ?aS ?aL ?_
                       (case aP => exact k53_mkM _ _ _ (⟨wrap64 (((rd_T27 l0 0).f4.f0) + x12_3), 0, rd x7_2 x12_3, wrap64 (t336 - (rd x7_2 x12_3)), 0, 0, 0⟩ : S53))
                       (case aB => exact (by repeat (first | (with_reducible first | exact HB.out | apply below_alloc | apply pw_below_drewN | apply below_drew1) | exact HB.out)))
                       (case aF => exact (fun _ _ => trivial))
                       (case aO => exact (by (with_reducible repeat (first | apply Kd.R_alloc | apply Kd.R_drewN | apply Kd.R_drew)); exact HO_11.out))
                       (case aS => exact (below_size (by repeat (first | (with_reducible first | exact HB.out | apply below_alloc | apply pw_below_drewN | apply below_drew1) | exact HB.out))))
                       (case aL => have := LMc30.out; omega)
                       intro v361 w33 ho hb hg hat
                       rw [← Ny360.out] at ho
                       have n0_ := Aside0.mk (Kd.R_over' (by (with_reducible repeat (first | apply Kd.R_alloc | apply Kd.R_drewN | apply Kd.R_drew)); exact HO_7.out) (Kd.R_typed (by (with_reducible repeat (first | apply Kd.R_alloc | apply Kd.R_drewN | apply Kd.R_drew)); exact HO_11.out)) (by decide) hg)
                       have n1_ := Aside0.mk (hb)
                       have n2_ := Aside0.mk (ho)
                       clear HO_7
                       clear HB
                       clear HO_11
                       have HO_7 := n0_
                       have HB := n1_
                       have HO362 := n2_
                       clear n0_ n1_ n2_
                       clear ho hb hg hat
                       refine hK.out _ _ ?_
                       clear hK K
                       refine norm_ (a' := ?_) ?_ ?_
                       rotate_left
                       · show Act.put _ (some 91) _ = _
                         simp only [Act.put, List.setIfInBounds_toArray, List.set_cons_zero, List.set_cons_succ, i64_w, i32_w]
                         rfl
                       refine pure_ (i := 21) (N := some 11) (v := ?_) (a' := ?_) (mS 22 4194303) rfl rfl (any_of HT_.out (by kernel_rfl)) (fun _ _ _ h => h) (Or.inl ⟨by rfl, ?_⟩) ?_ ?_
                       rotate_left
                       · intro w'
                         go_simp
                         with_reducible rfl
                       rotate_left
                       · simp only [Act.put, List.setIfInBounds_toArray, List.set_cons_zero, List.set_cons_succ, i64_w, i32_w]
                         rfl
                       refine done_ (done_of HT_.out (by kernel_rfl)) ?_
                       try go_wp2
                       go_roundg k3
                       case measure => have := HJ1.out; have := HK2.out; have := HK3.out; omega
                       case rel => exact ⟨(y360), (wrap64 (x12_3 + 1)), (by first | rfl | (simp; done) | (simp [*]; done)), H', ⟨by have := HJ1.out; have := HK2.out; have := HK3.out; omega⟩, ⟨by (with_reducible repeat (first | apply Kd.R_alloc | apply Kd.R_drewN | apply Kd.R_drew)); exact HO_7.out⟩, ⟨by (with_reducible repeat (first | apply Kd.R_alloc | apply Kd.R_drewN | apply Kd.R_drew)); exact HO362.out⟩, ⟨by repeat (first | (with_reducible first | exact HB.out | apply below_alloc | apply pw_below_drewN | apply below_drew1) | exact HB.out)⟩⟩
                     · rw [if_neg c30] at H
                       exact absurd H (by simp)
                   · rw [if_neg c29] at H
                     exact absurd H (by simp)
                 · rw [if_neg c28] at H
                   exact absurd H (by simp)
             · rw [if_neg c18] at H
               have c18b0 : decide (x12_3 < (x7_2.length : Int)) = false := decide_eq_false c18
               clear c18
               by_cases c34 : 0 < (l0.length : Int)
               · rw [if_pos c34] at H
                 have c34b0 : decide (0 < (l0.length : Int)) = true := decide_eq_true c34
                 have c34b1 : decide (0 < l0.length) = true := decide_eq_true (by omega)
                 clear c34
                 replace H := Option.bind_eq_some_iff.mp H
                 obtain ⟨⟨t364, t365⟩, A350, H⟩ := H
                 replace H : (if t365 = 0 then (masterdiscref10_Collect.j3 k3 l0 t336 x7_2 t364 ((t364.length : Int) != (l0.length : Int))) else (masterdiscref10_Collect.j3 k3 l0 t336 x7_2 t364 true)) = some (r1, r2, r3) := H
                 have A35 := Aside0.mk A350
                 clear A350
                 have HC36 := Aside0.mk H
                 clear H
                 obtain ⟨Ao37, co37, eo37⟩ := Kd.R_slice HO_7.out
                 subst eo37
                 have p363 : 0 ≤ (0 : Int) := (by omega)
                 have q363 : 0 < (l0.length : Int) := of_decide_eq_true (by first | (with_reducible assumption) | assumption)
                 obtain ⟨ad363, e363, hx363_0, hx363_1, hx363_2, hx363_3, hx363_4, hx363_5, hx363_6, hx363_7, hx363_8⟩ := at_T27 HR0.out 0 p363 q363
                 obtain rfl : ad335 = ad363 := (by injection e363)
                 have qi363 : (0 < l0.length) = True := eq_true (by omega)
                 (try rw [show ((0 : Int)).toNat = 0 from rfl] at hx363_0)
                 (try rw [show 0 * 9 = 0 from rfl] at hx363_0)
                 (try rw [Addr.add_zero'] at hx363_0)
                 (try rw [show ((0 : Int)).toNat = 0 from rfl] at hx363_1)
                 (try rw [show 0 * 9 = 0 from rfl] at hx363_1)
                 (try rw [Addr.add_zero'] at hx363_1)
                 (try rw [show ((0 : Int)).toNat = 0 from rfl] at hx363_2)
                 (try rw [show 0 * 9 = 0 from rfl] at hx363_2)
                 (try rw [Addr.add_zero'] at hx363_2)
                 (try rw [show ((0 : Int)).toNat = 0 from rfl] at hx363_3)
                 (try rw [show 0 * 9 = 0 from rfl] at hx363_3)
                 (try rw [Addr.add_zero'] at hx363_3)
                 (try rw [show ((0 : Int)).toNat = 0 from rfl] at hx363_4)
                 (try rw [show 0 * 9 = 0 from rfl] at hx363_4)
                 (try rw [Addr.add_zero'] at hx363_4)
                 (try rw [show ((0 : Int)).toNat = 0 from rfl] at hx363_5)
                 (try rw [show 0 * 9 = 0 from rfl] at hx363_5)
                 (try rw [Addr.add_zero'] at hx363_5)
                 (try rw [show ((0 : Int)).toNat = 0 from rfl] at hx363_6)
                 (try rw [show 0 * 9 = 0 from rfl] at hx363_6)
                 (try rw [Addr.add_zero'] at hx363_6)
                 (try rw [show ((0 : Int)).toNat = 0 from rfl] at hx363_7)
                 (try rw [show 0 * 9 = 0 from rfl] at hx363_7)
                 (try rw [Addr.add_zero'] at hx363_7)
                 (try rw [show ((0 : Int)).toNat = 0 from rfl] at hx363_8)
                 (try rw [show 0 * 9 = 0 from rfl] at hx363_8)
                 (try rw [Addr.add_zero'] at hx363_8)
                 replace hx363_0 := upc HB.out hx363_0
                 replace hx363_1 := upc HB.out hx363_1
                 replace hx363_2 := upc HB.out hx363_2
                 replace hx363_3 := upc HB.out hx363_3
                 replace hx363_4 := upc HB.out hx363_4
                 replace hx363_5 := upc HB.out hx363_5
                 replace hx363_6 := upc HB.out hx363_6
                 replace hx363_7 := upc HB.out hx363_7
                 replace hx363_8 := upc HB.out hx363_8
                 replace p363 := eq_true p363
                 replace q363 := eq_true q363
                 obtain ⟨Ao38, co38, eo38⟩ := Kd.R_slice HO_11.out
                 subst eo38
                 go_upto_region 19 with (first | ((with_reducible refine gate_callee (f := 14) rfl ?_); refine goesL_ (some 98) rfl rfl Try.func14 (by kernel_rfl) rfl #[.slice Ao38 x11_3.length co38, .int .i64 ((rd_T27 l0 0).f0)] rfl (by (try simp only [List.map_toArray, List.map_cons, List.map_nil]); first | done | rfl | (simp only [List.length_drop, List.length_take]; rfl)) ?_; (with_reducible refine (masterdiscref10_Entries.calls k3 _ _ x11_3 ((rd_T27 l0 0).f0) t364 t365 _ ?side1 ?side2 A35.out).mono ?_); (case side1 => repeat (first | exact (Kd.R_reads' HO_11.out).2.2 | (with_reducible refine Kd.C_alloc ?_ _) | (with_reducible refine Kd.C_drewN ?_ _) | (with_reducible refine Kd.C_drew ?_))); (case side2 => exact (Kd.R_reads' HO_11.out).2.1); rintro e w39 ⟨v366, rfl, ho0, hb⟩; refine ⟨_, rfl, ?_⟩; have n0_ := Aside0.mk (Kd.R_below (by (with_reducible repeat (first | apply Kd.R_alloc | apply Kd.R_drewN | apply Kd.R_drew)); exact HO_7.out) hb); have n1_ := Aside0.mk (Kd.R_below (by (with_reducible repeat (first | apply Kd.R_alloc | apply Kd.R_drewN | apply Kd.R_drew)); exact HO_11.out) hb); have n2_ := Aside0.mk (Kd.R_lower ho0 (below_size (by repeat (first | (with_reducible first | exact HB.out | apply below_alloc | apply pw_below_drewN | apply below_drew1) | exact HB.out)))); have n3_ := Aside0.mk (below_step (by repeat (first | (with_reducible first | exact HB.out | apply below_alloc | apply pw_below_drewN | apply below_drew1) | exact HB.out)) hb); clear HO_7; clear HO_11; clear HB; have HO_7 := n0_; have HO_11 := n1_; have HO367 := n2_; have HB := n3_; clear n0_ n1_ n2_ n3_; (try clear hb); (try clear hb2); (try clear hk); (try clear hi); (try clear ho0)))
                 (try simp only [Act.put, List.setIfInBounds_toArray, List.set_cons_zero, List.set_cons_succ])
                 go_cut [109] (fun v109 wc => ∃ (kq : Nat) (x109_35 : Bool), v109 = .bool x109_35 ∧ Aside0 (masterdiscref10_Collect.j3 kq l0 t336 x7_2 t364 x109_35 = some (r1, r2, r3)) ∧ Aside0 (kq ≤ k3) ∧ Aside0 (Kd.R (Kd.int .i64) 3 wc w.heap.size (fun _ => True) (.slice Ao37 x7_2.length co37) x7_2) ∧ Aside0 (Kd.R k27 27 wc w.heap.size (fun _ => True) v366 t364) ∧ Aside0 (Below w.heap.size w wc))
                 case first =>
                  have H := HC36.out
                  clear HC36
                  by_cases c40 : t365 = 0
                  · rw [if_pos c40] at H
                    have c40b0 : (t365 == 0) = true := beq_iff_eq.mpr c40
                    have c40b1 : (t365 != 0) = false := bne_eq_false_iff_eq.mpr c40
                    clear c40
                    (first | rw [c40b0] | (simp only [i64_w, i32_w]; rw [c40b0]) | skip)
                    have H' := Aside0.mk H
                    clear H
                    obtain ⟨Ao41, co41, eo41⟩ := Kd.R_slice HO367.out
                    subst eo41
                    go_wp2
                    go_meet
                    case rel => exact ⟨_, (((t364.length : Int) != (l0.length : Int))), (by first | rfl | (simp; done) | (simp [*]; done)), H', ⟨by have := HJ1.out; have := HK2.out; have := HK3.out; first | omega | exact Nat.le_refl _⟩, ⟨by (with_reducible repeat (first | apply Kd.R_alloc | apply Kd.R_drewN | apply Kd.R_drew)); exact HO_7.out⟩, ⟨by (with_reducible repeat (first | apply Kd.R_alloc | apply Kd.R_drewN | apply Kd.R_drew)); exact HO367.out⟩, ⟨by repeat (first | (with_reducible first | exact HB.out | apply below_alloc | apply pw_below_drewN | apply below_drew1) | exact HB.out)⟩⟩
                  · rw [if_neg c40] at H
                    have c40b0 : (t365 == 0) = false := beq_eq_false_iff_ne.mpr c40
                    have c40b1 : (t365 != 0) = true := bne_iff_ne.mpr c40
                    (first | rw [c40b0] | (simp only [i64_w, i32_w]; rw [c40b0]) | skip)
                    have H' := Aside0.mk H
                    clear H
                    go_wp2
                    go_meet
                    case rel => exact ⟨_, (true), (by first | rfl | (simp; done) | (simp [*]; done)), H', ⟨by have := HJ1.out; have := HK2.out; have := HK3.out; first | omega | exact Nat.le_refl _⟩, ⟨by (with_reducible repeat (first | apply Kd.R_alloc | apply Kd.R_drewN | apply Kd.R_drew)); exact HO_7.out⟩, ⟨by (with_reducible repeat (first | apply Kd.R_alloc | apply Kd.R_drewN | apply Kd.R_drew)); exact HO367.out⟩, ⟨by repeat (first | (with_reducible first | exact HB.out | apply below_alloc | apply pw_below_drewN | apply below_drew1) | exact HB.out)⟩⟩
                 case rest =>
                  clear HC36
                  try clear c1
                  try clear c2
                  try clear p2
                  try clear c3
                  try clear p3
                  try clear q3
                  try clear hx3
                  try clear qi3
                  try clear c4
                  try clear p6
                  try clear c14
                  try clear c18
                  try clear c18b0
                  try clear c19
                  try clear c19b0
                  try clear c21
                  try clear c22
                  try clear c23
                  try clear c24
                  try clear c28
                  try clear c28b0
                  try clear c28b1
                  try clear c29
                  try clear c29b0
                  try clear c30
                  try clear c34
                  try clear c34b0
                  try clear c34b1
                  try clear p35
                  try clear q35
                  try clear hx35
                  try clear qi35
                  try clear p36
                  try clear q36
                  try clear hx36
                  try clear qi36
                  try clear c40
                  try clear c40b0
                  try clear c40b1
                  try clear hx357_0
                  try clear hx357_1
                  try clear hx357_2
                  try clear hx357_3
                  try clear hx357_4
                  try clear hx357_5
                  try clear hx357_6
                  try clear hx357_7
                  try clear hx357_8
                  try clear hx358_0
                  try clear hx359_0
                  try clear hx363_0
                  try clear hx363_1
                  try clear hx363_2
                  try clear hx363_3
                  try clear hx363_4
                  try clear hx363_5
                  try clear hx363_6
                  try clear hx363_7
                  try clear hx363_8
                  try clear p357
                  try clear p358
                  try clear p359
                  try clear p363
                  try clear q357
                  try clear q358
                  try clear q359
                  try clear q363
                  obtain ⟨kq, x109_35, rfl, HA, HJ35, HO_7, HO_14, HB⟩ := hcut
                  cases kq with
                  | zero => exact absurd HA.out (by simp [masterdiscref10_Collect.j3])
                  | succ kj35 =>
                   have H := HA.out
                   clear HA
                   simp only [masterdiscref10_Collect.j3] at H
                   by_cases c42 : x109_35 = true
                   · subst c42
                     have H1 : (some (([] : List Int), 0, 10)) = some (r1, r2, r3) := by rw [if_pos rfl] at H; exact H
                     clear H
                     have H := H1
                     clear H1
                     simp only [Option.some.injEq, Prod.mk.injEq] at H
                     obtain ⟨rfl, rfl, rfl⟩ := H
                     go_wp2
                     go_ret3
                     exact ⟨_, by first | rfl | (simp [errW_none, errW_some] <;> rfl) | (simp [*, errW_none, errW_some] <;> rfl), by first | exact Kd.R_nil _ _ _ _ _ | exact Kd.N_nil _ _ _ _ _ | exact Kd.V_nil _ _ _ _ _ | exact Kd.Q_nil _ _ _ _ _ | exact Kd.S_nil _ _ _ _ _, by repeat (first | (with_reducible first | exact HB.out | apply below_alloc | apply pw_below_drewN | apply below_drew1) | exact HB.out)⟩
                   · replace c42 := Bool.eq_false_iff.mpr c42
                     subst c42
                     have H1 : (masterdiscref10_Collect.l2 kj35 l0 t336 x7_2 t364 0) = some (r1, r2, r3) := by rw [if_neg (show ¬ (false = true) by decide)] at H; exact H
                     clear H
                     have H := H1
                     clear H1
                     have H' := Aside0.mk H
                     clear H
                     go_wp2
                     go_loopg [16] kj35 (fun kq v16 w' => ∃ (x16_5 : Int), v16 = .int .i64 x16_5 ∧ Aside0 (masterdiscref10_Collect.l2 kq l0 t336 x7_2 t364 x16_5 = some (r1, r2, r3)) ∧ Aside0 (kq ≤ kj35) ∧ Aside0 (Kd.R (Kd.int .i64) 3 w' w.heap.size (fun _ => True) (.slice Ao37 x7_2.length co37) x7_2) ∧ Aside0 (Kd.R k27 27 w' w.heap.size (fun _ => True) v366 t364) ∧ Aside0 (Below w.heap.size w w'))
                     case atStart => exact ⟨(0), (by first | rfl | (simp; done) | (simp [*]; done)), H', ⟨Nat.le_refl _⟩, ⟨by (with_reducible repeat (first | apply Kd.R_alloc | apply Kd.R_drewN | apply Kd.R_drew)); exact HO_7.out⟩, ⟨by (with_reducible repeat (first | apply Kd.R_alloc | apply Kd.R_drewN | apply Kd.R_drew)); exact HO_14.out⟩, ⟨by repeat (first | (with_reducible first | exact HB.out | apply below_alloc | apply pw_below_drewN | apply below_drew1) | exact HB.out)⟩⟩
                     case round =>
                      clear H'
                      try clear c1
                      try clear c2
                      try clear p2
                      try clear c3
                      try clear p3
                      try clear q3
                      try clear hx3
                      try clear qi3
                      try clear c4
                      try clear p6
                      try clear c14
                      try clear c18
                      try clear c18b0
                      try clear c19
                      try clear c19b0
                      try clear c21
                      try clear c22
                      try clear c23
                      try clear c24
                      try clear c28
                      try clear c28b0
                      try clear c28b1
                      try clear c29
                      try clear c29b0
                      try clear c30
                      try clear c34
                      try clear c34b0
                      try clear c34b1
                      try clear p35
                      try clear q35
                      try clear hx35
                      try clear qi35
                      try clear p36
                      try clear q36
                      try clear hx36
                      try clear qi36
                      try clear c40
                      try clear c40b0
                      try clear c40b1
                      try clear c42
                      try clear hx357_0
                      try clear hx357_1
                      try clear hx357_2
                      try clear hx357_3
                      try clear hx357_4
                      try clear hx357_5
                      try clear hx357_6
                      try clear hx357_7
                      try clear hx357_8
                      try clear hx358_0
                      try clear hx359_0
                      try clear hx363_0
                      try clear hx363_1
                      try clear hx363_2
                      try clear hx363_3
                      try clear hx363_4
                      try clear hx363_5
                      try clear hx363_6
                      try clear hx363_7
                      try clear hx363_8
                      try clear p2
                      try clear p3
                      try clear p35
                      try clear p357
                      try clear p358
                      try clear p359
                      try clear p36
                      try clear p363
                      try clear p6
                      try clear q3
                      try clear q35
                      try clear q357
                      try clear q358
                      try clear q359
                      try clear q36
                      try clear q363
                      obtain ⟨x16_5, rfl, HA, HK5, HO_7, HO_14, HB⟩ := hrel
                      cases gk with
                      | zero => exact absurd HA.out (by simp [masterdiscref10_Collect.l2])
                      | succ k5 =>
                       have H := HA.out
                       clear HA
                       simp only [masterdiscref10_Collect.l2] at H
                       by_cases c43 : x16_5 < (l0.length : Int)
                       · rw [if_pos c43] at H
                         have c43b0 : decide (x16_5 < (l0.length : Int)) = true := decide_eq_true c43
                         clear c43
                         by_cases c44 : 0 ≤ x16_5
                         · rw [if_pos c44] at H
                           have c44b0 : decide (0 ≤ x16_5) = true := decide_eq_true c44
                           clear c44
                           by_cases c45 : x16_5 < (t364.length : Int)
                           · rw [if_pos c45] at H
                             have c45b0 : decide (x16_5 < (t364.length : Int)) = true := decide_eq_true c45
                             clear c45
                             by_cases c46 : (!(((rd_T27 t364 x16_5).f0) == ((rd_T27 l0 x16_5).f0)) || (!(((rd_T27 t364 x16_5).f1) == ((rd_T27 l0 x16_5).f1)) || (!(((rd_T27 t364 x16_5).f2) == ((rd_T27 l0 x16_5).f2)) || ((!(((rd_T27 t364 x16_5).f3.f0) == ((rd_T27 l0 x16_5).f3.f0)) || (!(((rd_T27 t364 x16_5).f3.f1) == ((rd_T27 l0 x16_5).f3.f1)) || (!(((rd_T27 t364 x16_5).f3.f2) == ((rd_T27 l0 x16_5).f3.f2))))) || ((!(((rd_T27 t364 x16_5).f4.f0) == ((rd_T27 l0 x16_5).f4.f0)) || (!(((rd_T27 t364 x16_5).f4.f1) == ((rd_T27 l0 x16_5).f4.f1)) || (!(((rd_T27 t364 x16_5).f4.f2) == ((rd_T27 l0 x16_5).f4.f2)))))))))) = true
                             · rw [if_pos c46] at H
                               have c46b0 : (!(((rd_T27 t364 x16_5).f0) == ((rd_T27 l0 x16_5).f0)) || (!(((rd_T27 t364 x16_5).f1) == ((rd_T27 l0 x16_5).f1)) || (!(((rd_T27 t364 x16_5).f2) == ((rd_T27 l0 x16_5).f2)) || ((!(((rd_T27 t364 x16_5).f3.f0) == ((rd_T27 l0 x16_5).f3.f0)) || (!(((rd_T27 t364 x16_5).f3.f1) == ((rd_T27 l0 x16_5).f3.f1)) || (!(((rd_T27 t364 x16_5).f3.f2) == ((rd_T27 l0 x16_5).f3.f2))))) || ((!(((rd_T27 t364 x16_5).f4.f0) == ((rd_T27 l0 x16_5).f4.f0)) || (!(((rd_T27 t364 x16_5).f4.f1) == ((rd_T27 l0 x16_5).f4.f1)) || (!(((rd_T27 t364 x16_5).f4.f2) == ((rd_T27 l0 x16_5).f4.f2)))))))))) = true := c46
                               clear c46
                               simp only [Option.some.injEq, Prod.mk.injEq] at H
                               obtain ⟨rfl, rfl, rfl⟩ := H
                               try go_wp2
                               have n0_ := Aside0.mk (Kd.R_drew HO_7.out)
                               have n1_ := Aside0.mk (Kd.R_drew HO_14.out)
                               have n2_ := Aside0.mk (below_drew1 HB.out)
                               clear HO_7
                               clear HO_14
                               clear HB
                               have HO_7 := n0_
                               have HO_14 := n1_
                               have HB := n2_
                               clear n0_ n1_ n2_
                               obtain ⟨Ao48, co48, eo48⟩ := Kd.R_slice HO_14.out
                               (first | subst eo48 | (injection eo48 with f1_ f2_ f3_; have f4_ := f1_.symm; have f5_ := f3_.symm; clear f1_ f2_ f3_; subst f4_; subst f5_))
                               have p368 : 0 ≤ (x16_5 : Int) := of_decide_eq_true (by first | (with_reducible assumption) | assumption)
                               have q368 : x16_5 < (t364.length : Int) := of_decide_eq_true (by first | (with_reducible assumption) | assumption)
                               obtain ⟨ad368, e368, hx368_0, hx368_1, hx368_2, hx368_3, hx368_4, hx368_5, hx368_6, hx368_7, hx368_8⟩ := at_T27 (Kd.R_reads' HO_14.out).2.2 x16_5 p368 q368
                               cases e368
                               replace p368 := eq_true p368
                               replace q368 := eq_true q368
                               have p369 : 0 ≤ (x16_5 : Int) := of_decide_eq_true (by first | (with_reducible assumption) | assumption)
                               have q369 : x16_5 < (l0.length : Int) := of_decide_eq_true (by first | (with_reducible assumption) | assumption)
                               obtain ⟨ad369, e369, hx369_0, hx369_1, hx369_2, hx369_3, hx369_4, hx369_5, hx369_6, hx369_7, hx369_8⟩ := at_T27 HR0.out x16_5 p369 q369
                               have hw369_8 := hx369_8
                               have hw369_7 := hx369_7
                               have hw369_6 := hx369_6
                               have hw369_5 := hx369_5
                               have hw369_4 := hx369_4
                               have hw369_3 := hx369_3
                               have hw369_2 := hx369_2
                               have hw369_1 := hx369_1
                               have hw369_0 := hx369_0
                               obtain rfl : ad335 = ad369 := (by injection e369)
                               replace hx369_0 := upc HB.out hx369_0
                               replace hx369_1 := upc HB.out hx369_1
                               replace hx369_2 := upc HB.out hx369_2
                               replace hx369_3 := upc HB.out hx369_3
                               replace hx369_4 := upc HB.out hx369_4
                               replace hx369_5 := upc HB.out hx369_5
                               replace hx369_6 := upc HB.out hx369_6
                               replace hx369_7 := upc HB.out hx369_7
                               replace hx369_8 := upc HB.out hx369_8
                               replace p369 := eq_true p369
                               replace q369 := eq_true q369
                               refine start_ (n := 9) (S := fun w' => w'.cell? (ad368.add ((x16_5).toNat * 9)) = some (.int .i64 ((rd_T27 t364 x16_5).f0)) ∧ w'.cell? ⟨(ad368.add ((x16_5).toNat * 9)).block, (ad368.add ((x16_5).toNat * 9)).off + 1, none⟩ = some (.int .i64 ((rd_T27 t364 x16_5).f1)) ∧ w'.cell? ⟨(ad368.add ((x16_5).toNat * 9)).block, (ad368.add ((x16_5).toNat * 9)).off + 2, none⟩ = some (.int .i64 ((rd_T27 t364 x16_5).f2)) ∧ w'.cell? ⟨(ad368.add ((x16_5).toNat * 9)).block, (ad368.add ((x16_5).toNat * 9)).off + 3, none⟩ = some (.int .i64 ((rd_T27 t364 x16_5).f3.f0)) ∧ w'.cell? ⟨(ad368.add ((x16_5).toNat * 9)).block, (ad368.add ((x16_5).toNat * 9)).off + 4, none⟩ = some (.int .i64 ((rd_T27 t364 x16_5).f3.f1)) ∧ w'.cell? ⟨(ad368.add ((x16_5).toNat * 9)).block, (ad368.add ((x16_5).toNat * 9)).off + 5, none⟩ = some (.int .i64 ((rd_T27 t364 x16_5).f3.f2)) ∧ w'.cell? ⟨(ad368.add ((x16_5).toNat * 9)).block, (ad368.add ((x16_5).toNat * 9)).off + 6, none⟩ = some (.int .i64 ((rd_T27 t364 x16_5).f4.f0)) ∧ w'.cell? ⟨(ad368.add ((x16_5).toNat * 9)).block, (ad368.add ((x16_5).toNat * 9)).off + 7, none⟩ = some (.int .i64 ((rd_T27 t364 x16_5).f4.f1)) ∧ w'.cell? ⟨(ad368.add ((x16_5).toNat * 9)).block, (ad368.add ((x16_5).toNat * 9)).off + 8, none⟩ = some (.int .i64 ((rd_T27 t364 x16_5).f4.f2)) ∧ w'.cell? (ad335.add ((x16_5).toNat * 9)) = some (.int .i64 ((rd_T27 l0 x16_5).f0)) ∧ w'.cell? ⟨(ad335.add ((x16_5).toNat * 9)).block, (ad335.add ((x16_5).toNat * 9)).off + 1, none⟩ = some (.int .i64 ((rd_T27 l0 x16_5).f1)) ∧ w'.cell? ⟨(ad335.add ((x16_5).toNat * 9)).block, (ad335.add ((x16_5).toNat * 9)).off + 2, none⟩ = some (.int .i64 ((rd_T27 l0 x16_5).f2)) ∧ w'.cell? ⟨(ad335.add ((x16_5).toNat * 9)).block, (ad335.add ((x16_5).toNat * 9)).off + 3, none⟩ = some (.int .i64 ((rd_T27 l0 x16_5).f3.f0)) ∧ w'.cell? ⟨(ad335.add ((x16_5).toNat * 9)).block, (ad335.add ((x16_5).toNat * 9)).off + 4, none⟩ = some (.int .i64 ((rd_T27 l0 x16_5).f3.f1)) ∧ w'.cell? ⟨(ad335.add ((x16_5).toNat * 9)).block, (ad335.add ((x16_5).toNat * 9)).off + 5, none⟩ = some (.int .i64 ((rd_T27 l0 x16_5).f3.f2)) ∧ w'.cell? ⟨(ad335.add ((x16_5).toNat * 9)).block, (ad335.add ((x16_5).toNat * 9)).off + 6, none⟩ = some (.int .i64 ((rd_T27 l0 x16_5).f4.f0)) ∧ w'.cell? ⟨(ad335.add ((x16_5).toNat * 9)).block, (ad335.add ((x16_5).toNat * 9)).off + 7, none⟩ = some (.int .i64 ((rd_T27 l0 x16_5).f4.f1)) ∧ w'.cell? ⟨(ad335.add ((x16_5).toNat * 9)).block, (ad335.add ((x16_5).toNat * 9)).off + 8, none⟩ = some (.int .i64 ((rd_T27 l0 x16_5).f4.f2))) (ds := []) #[false, false, false, false, false, false, false, false, false] (by kernel_rfl) rfl rfl ⟨hx368_0, hx368_1, hx368_2, hx368_3, hx368_4, hx368_5, hx368_6, hx368_7, hx368_8, ((HB.out.cell (World.block_lt_of_cell? w _ hw369_0)).trans hw369_0), ((HB.out.cell (World.block_lt_of_cell? w _ hw369_1)).trans hw369_1), ((HB.out.cell (World.block_lt_of_cell? w _ hw369_2)).trans hw369_2), ((HB.out.cell (World.block_lt_of_cell? w _ hw369_3)).trans hw369_3), ((HB.out.cell (World.block_lt_of_cell? w _ hw369_4)).trans hw369_4), ((HB.out.cell (World.block_lt_of_cell? w _ hw369_5)).trans hw369_5), ((HB.out.cell (World.block_lt_of_cell? w _ hw369_6)).trans hw369_6), ((HB.out.cell (World.block_lt_of_cell? w _ hw369_7)).trans hw369_7), ((HB.out.cell (World.block_lt_of_cell? w _ hw369_8)).trans hw369_8)⟩ (fun hHeld => ?_); refine with_tabW masterdiscref10_Collect.tab24 masterdiscref10_Collect.bits24 (fun HT_ HW_ => ?_)
                               generalize wr.drew = w47 at HO_7 HO_14 HB hx368_0 hx368_1 hx368_2 hx368_3 hx368_4 hx368_5 hx368_6 hx368_7 hx368_8 hx369_0 hx369_1 hx369_2 hx369_3 hx369_4 hx369_5 hx369_6 hx369_7 hx369_8 hHeld ⊢
                               refine pure_ (i := 0) (N := some 116) (v := ?_) (a' := ?_) (mS 9 1) rfl rfl (any_of HT_.out (by kernel_rfl)) (fun _ _ _ h => h) (Or.inl ⟨by rfl, ?_⟩) ?_ ?_
                               rotate_left
                               · intro w'
                                 go_simp
                                 with_reducible rfl
                               rotate_left
                               · simp only [Act.put, List.setIfInBounds_toArray, List.set_cons_zero, List.set_cons_succ, i64_w, i32_w]
                                 rfl
                               refine pure_ (i := 1) (N := some 117) (v := ?_) (a' := ?_) (mS 9 3) rfl rfl (any_of HT_.out (by kernel_rfl)) (fun _ _ _ h => h) (Or.inl ⟨by rfl, ?_⟩) ?_ ?_
                               rotate_left
                               · intro w'
                                 go_simp
                                 with_reducible rfl
                               rotate_left
                               · simp only [Act.put, List.setIfInBounds_toArray, List.set_cons_zero, List.set_cons_succ, i64_w, i32_w]
                                 rfl
                               refine pure_ (i := 2) (N := some 118) (v := ?_) (a' := ?_) (mS 9 7) rfl rfl (any_of HT_.out (by kernel_rfl)) (fun _ _ _ h => h) (Or.inl ⟨by rfl, ?_⟩) ?_ ?_
                               rotate_left
                               · intro w'
                                 go_simp
                                 with_reducible rfl
                               rotate_left
                               · simp only [Act.put, List.setIfInBounds_toArray, List.set_cons_zero, List.set_cons_succ, i64_w, i32_w]
                                 rfl
                               refine pure_ (i := 4) (N := some 120) (v := ?_) (a' := ?_) (mS 9 23) rfl rfl (any_of HT_.out (by kernel_rfl)) (fun _ _ _ h => h) (Or.inl ⟨by rfl, ?_⟩) ?_ ?_
                               rotate_left
                               · intro w'
                                 go_simp
                                 with_reducible rfl
                               rotate_left
                               · simp only [Act.put, List.setIfInBounds_toArray, List.set_cons_zero, List.set_cons_succ, i64_w, i32_w]
                                 rfl
                               refine pure_ (i := 5) (N := some 121) (v := ?_) (a' := ?_) (mS 9 55) rfl rfl (any_of HT_.out (by kernel_rfl)) (fun _ _ _ h => h) (Or.inl ⟨by rfl, ?_⟩) ?_ ?_
                               rotate_left
                               · intro w'
                                 go_simp
                                 with_reducible rfl
                               rotate_left
                               · simp only [Act.put, List.setIfInBounds_toArray, List.set_cons_zero, List.set_cons_succ, i64_w, i32_w]
                                 rfl
                               refine pure_ (i := 6) (N := some 122) (v := ?_) (a' := ?_) (mS 9 119) rfl rfl (any_of HT_.out (by kernel_rfl)) (fun _ _ _ h => h) (Or.inl ⟨by rfl, ?_⟩) ?_ ?_
                               rotate_left
                               · intro w'
                                 go_simp
                                 with_reducible rfl
                               rotate_left
                               · simp only [Act.put, List.setIfInBounds_toArray, List.set_cons_zero, List.set_cons_succ, i64_w, i32_w]
                                 rfl
                               refine take_ (i := 3) (N := some 119) (v := ?_) (a' := ?_) (mS 9 127) rfl rfl (take_ofW HT_.out HW_.out (by kernel_rfl)) (fun _ _ _ h => h) (Or.inl ⟨by rfl, ?_⟩) hHeld ?_ ?_
                               rotate_left
                               · rintro w' ⟨s0, s1, s2, s3, s4, s5, s6, s7, s8, s9, s10, s11, s12, s13, s14, s15, s16, s17⟩
                                 go_simp
                                 with_reducible rfl
                               rotate_left
                               · simp only [Act.put, List.setIfInBounds_toArray, List.set_cons_zero, List.set_cons_succ, i64_w, i32_w]
                                 rfl
                               refine take_ (i := 7) (N := some 123) (v := ?_) (a' := ?_) (mS 9 255) rfl rfl (take_ofW HT_.out HW_.out (by kernel_rfl)) (fun _ _ _ h => h) (Or.inl ⟨by rfl, ?_⟩) hHeld ?_ ?_
                               rotate_left
                               · rintro w' ⟨s0, s1, s2, s3, s4, s5, s6, s7, s8, s9, s10, s11, s12, s13, s14, s15, s16, s17⟩
                                 go_simp
                                 with_reducible rfl
                               rotate_left
                               · simp only [Act.put, List.setIfInBounds_toArray, List.set_cons_zero, List.set_cons_succ, i64_w, i32_w]
                                 rfl
                               refine pure_ (i := 8) (N := some 124) (v := ?_) (a' := ?_) (mS 9 511) rfl rfl (any_of HT_.out (by kernel_rfl)) (fun _ _ _ h => h) (Or.inl ⟨by rfl, ?_⟩) ?_ ?_
                               rotate_left
                               · intro w'
                                 go_simp
                                 with_reducible rfl
                               rotate_left
                               · simp only [Act.put, List.setIfInBounds_toArray, List.set_cons_zero, List.set_cons_succ, i64_w, i32_w]
                                 rfl
                               refine done_ (done_of HT_.out (by kernel_rfl)) ?_
                               try go_wp2
                               go_ret3
                               exact ⟨_, by first | rfl | (simp [errW_none, errW_some] <;> rfl) | (simp [*, errW_none, errW_some] <;> rfl), by first | exact Kd.R_nil _ _ _ _ _ | exact Kd.N_nil _ _ _ _ _ | exact Kd.V_nil _ _ _ _ _ | exact Kd.Q_nil _ _ _ _ _ | exact Kd.S_nil _ _ _ _ _, by repeat (first | (with_reducible first | exact HB.out | apply below_alloc | apply pw_below_drewN | apply below_drew1) | exact HB.out)⟩
                             · rw [if_neg c46] at H
                               have c46b0 : (!(((rd_T27 t364 x16_5).f0) == ((rd_T27 l0 x16_5).f0)) || (!(((rd_T27 t364 x16_5).f1) == ((rd_T27 l0 x16_5).f1)) || (!(((rd_T27 t364 x16_5).f2) == ((rd_T27 l0 x16_5).f2)) || ((!(((rd_T27 t364 x16_5).f3.f0) == ((rd_T27 l0 x16_5).f3.f0)) || (!(((rd_T27 t364 x16_5).f3.f1) == ((rd_T27 l0 x16_5).f3.f1)) || (!(((rd_T27 t364 x16_5).f3.f2) == ((rd_T27 l0 x16_5).f3.f2))))) || ((!(((rd_T27 t364 x16_5).f4.f0) == ((rd_T27 l0 x16_5).f4.f0)) || (!(((rd_T27 t364 x16_5).f4.f1) == ((rd_T27 l0 x16_5).f4.f1)) || (!(((rd_T27 t364 x16_5).f4.f2) == ((rd_T27 l0 x16_5).f4.f2)))))))))) = false := by simpa using c46
                               clear c46
                               have H' := Aside0.mk H
                               clear H
                               try go_wp2
                               have n0_ := Aside0.mk (Kd.R_drew HO_7.out)
                               have n1_ := Aside0.mk (Kd.R_drew HO_14.out)
                               have n2_ := Aside0.mk (below_drew1 HB.out)
                               clear HO_7
                               clear HO_14
                               clear HB
                               have HO_7 := n0_
                               have HO_14 := n1_
                               have HB := n2_
                               clear n0_ n1_ n2_
                               obtain ⟨Ao50, co50, eo50⟩ := Kd.R_slice HO_14.out
                               (first | subst eo50 | (injection eo50 with f1_ f2_ f3_; have f4_ := f1_.symm; have f5_ := f3_.symm; clear f1_ f2_ f3_; subst f4_; subst f5_))
                               have p368 : 0 ≤ (x16_5 : Int) := of_decide_eq_true (by first | (with_reducible assumption) | assumption)
                               have q368 : x16_5 < (t364.length : Int) := of_decide_eq_true (by first | (with_reducible assumption) | assumption)
                               obtain ⟨ad368, e368, hx368_0, hx368_1, hx368_2, hx368_3, hx368_4, hx368_5, hx368_6, hx368_7, hx368_8⟩ := at_T27 (Kd.R_reads' HO_14.out).2.2 x16_5 p368 q368
                               cases e368
                               replace p368 := eq_true p368
                               replace q368 := eq_true q368
                               have p369 : 0 ≤ (x16_5 : Int) := of_decide_eq_true (by first | (with_reducible assumption) | assumption)
                               have q369 : x16_5 < (l0.length : Int) := of_decide_eq_true (by first | (with_reducible assumption) | assumption)
                               obtain ⟨ad369, e369, hx369_0, hx369_1, hx369_2, hx369_3, hx369_4, hx369_5, hx369_6, hx369_7, hx369_8⟩ := at_T27 HR0.out x16_5 p369 q369
                               have hw369_8 := hx369_8
                               have hw369_7 := hx369_7
                               have hw369_6 := hx369_6
                               have hw369_5 := hx369_5
                               have hw369_4 := hx369_4
                               have hw369_3 := hx369_3
                               have hw369_2 := hx369_2
                               have hw369_1 := hx369_1
                               have hw369_0 := hx369_0
                               obtain rfl : ad335 = ad369 := (by injection e369)
                               replace hx369_0 := upc HB.out hx369_0
                               replace hx369_1 := upc HB.out hx369_1
                               replace hx369_2 := upc HB.out hx369_2
                               replace hx369_3 := upc HB.out hx369_3
                               replace hx369_4 := upc HB.out hx369_4
                               replace hx369_5 := upc HB.out hx369_5
                               replace hx369_6 := upc HB.out hx369_6
                               replace hx369_7 := upc HB.out hx369_7
                               replace hx369_8 := upc HB.out hx369_8
                               replace p369 := eq_true p369
                               replace q369 := eq_true q369
                               refine start_ (n := 9) (S := fun w' => w'.cell? (ad368.add ((x16_5).toNat * 9)) = some (.int .i64 ((rd_T27 t364 x16_5).f0)) ∧ w'.cell? ⟨(ad368.add ((x16_5).toNat * 9)).block, (ad368.add ((x16_5).toNat * 9)).off + 1, none⟩ = some (.int .i64 ((rd_T27 t364 x16_5).f1)) ∧ w'.cell? ⟨(ad368.add ((x16_5).toNat * 9)).block, (ad368.add ((x16_5).toNat * 9)).off + 2, none⟩ = some (.int .i64 ((rd_T27 t364 x16_5).f2)) ∧ w'.cell? ⟨(ad368.add ((x16_5).toNat * 9)).block, (ad368.add ((x16_5).toNat * 9)).off + 3, none⟩ = some (.int .i64 ((rd_T27 t364 x16_5).f3.f0)) ∧ w'.cell? ⟨(ad368.add ((x16_5).toNat * 9)).block, (ad368.add ((x16_5).toNat * 9)).off + 4, none⟩ = some (.int .i64 ((rd_T27 t364 x16_5).f3.f1)) ∧ w'.cell? ⟨(ad368.add ((x16_5).toNat * 9)).block, (ad368.add ((x16_5).toNat * 9)).off + 5, none⟩ = some (.int .i64 ((rd_T27 t364 x16_5).f3.f2)) ∧ w'.cell? ⟨(ad368.add ((x16_5).toNat * 9)).block, (ad368.add ((x16_5).toNat * 9)).off + 6, none⟩ = some (.int .i64 ((rd_T27 t364 x16_5).f4.f0)) ∧ w'.cell? ⟨(ad368.add ((x16_5).toNat * 9)).block, (ad368.add ((x16_5).toNat * 9)).off + 7, none⟩ = some (.int .i64 ((rd_T27 t364 x16_5).f4.f1)) ∧ w'.cell? ⟨(ad368.add ((x16_5).toNat * 9)).block, (ad368.add ((x16_5).toNat * 9)).off + 8, none⟩ = some (.int .i64 ((rd_T27 t364 x16_5).f4.f2)) ∧ w'.cell? (ad335.add ((x16_5).toNat * 9)) = some (.int .i64 ((rd_T27 l0 x16_5).f0)) ∧ w'.cell? ⟨(ad335.add ((x16_5).toNat * 9)).block, (ad335.add ((x16_5).toNat * 9)).off + 1, none⟩ = some (.int .i64 ((rd_T27 l0 x16_5).f1)) ∧ w'.cell? ⟨(ad335.add ((x16_5).toNat * 9)).block, (ad335.add ((x16_5).toNat * 9)).off + 2, none⟩ = some (.int .i64 ((rd_T27 l0 x16_5).f2)) ∧ w'.cell? ⟨(ad335.add ((x16_5).toNat * 9)).block, (ad335.add ((x16_5).toNat * 9)).off + 3, none⟩ = some (.int .i64 ((rd_T27 l0 x16_5).f3.f0)) ∧ w'.cell? ⟨(ad335.add ((x16_5).toNat * 9)).block, (ad335.add ((x16_5).toNat * 9)).off + 4, none⟩ = some (.int .i64 ((rd_T27 l0 x16_5).f3.f1)) ∧ w'.cell? ⟨(ad335.add ((x16_5).toNat * 9)).block, (ad335.add ((x16_5).toNat * 9)).off + 5, none⟩ = some (.int .i64 ((rd_T27 l0 x16_5).f3.f2)) ∧ w'.cell? ⟨(ad335.add ((x16_5).toNat * 9)).block, (ad335.add ((x16_5).toNat * 9)).off + 6, none⟩ = some (.int .i64 ((rd_T27 l0 x16_5).f4.f0)) ∧ w'.cell? ⟨(ad335.add ((x16_5).toNat * 9)).block, (ad335.add ((x16_5).toNat * 9)).off + 7, none⟩ = some (.int .i64 ((rd_T27 l0 x16_5).f4.f1)) ∧ w'.cell? ⟨(ad335.add ((x16_5).toNat * 9)).block, (ad335.add ((x16_5).toNat * 9)).off + 8, none⟩ = some (.int .i64 ((rd_T27 l0 x16_5).f4.f2))) (ds := []) #[false, false, false, false, false, false, false, false, false] (by kernel_rfl) rfl rfl ⟨hx368_0, hx368_1, hx368_2, hx368_3, hx368_4, hx368_5, hx368_6, hx368_7, hx368_8, ((HB.out.cell (World.block_lt_of_cell? w _ hw369_0)).trans hw369_0), ((HB.out.cell (World.block_lt_of_cell? w _ hw369_1)).trans hw369_1), ((HB.out.cell (World.block_lt_of_cell? w _ hw369_2)).trans hw369_2), ((HB.out.cell (World.block_lt_of_cell? w _ hw369_3)).trans hw369_3), ((HB.out.cell (World.block_lt_of_cell? w _ hw369_4)).trans hw369_4), ((HB.out.cell (World.block_lt_of_cell? w _ hw369_5)).trans hw369_5), ((HB.out.cell (World.block_lt_of_cell? w _ hw369_6)).trans hw369_6), ((HB.out.cell (World.block_lt_of_cell? w _ hw369_7)).trans hw369_7), ((HB.out.cell (World.block_lt_of_cell? w _ hw369_8)).trans hw369_8)⟩ (fun hHeld => ?_); refine with_tabW masterdiscref10_Collect.tab24 masterdiscref10_Collect.bits24 (fun HT_ HW_ => ?_)
                               generalize wr.drew = w49 at HO_7 HO_14 HB hx368_0 hx368_1 hx368_2 hx368_3 hx368_4 hx368_5 hx368_6 hx368_7 hx368_8 hx369_0 hx369_1 hx369_2 hx369_3 hx369_4 hx369_5 hx369_6 hx369_7 hx369_8 hHeld ⊢
                               refine pure_ (i := 0) (N := some 116) (v := ?_) (a' := ?_) (mS 9 1) rfl rfl (any_of HT_.out (by kernel_rfl)) (fun _ _ _ h => h) (Or.inl ⟨by rfl, ?_⟩) ?_ ?_
                               rotate_left
                               · intro w'
                                 go_simp
                                 with_reducible rfl
                               rotate_left
                               · simp only [Act.put, List.setIfInBounds_toArray, List.set_cons_zero, List.set_cons_succ, i64_w, i32_w]
                                 rfl
                               refine pure_ (i := 1) (N := some 117) (v := ?_) (a' := ?_) (mS 9 3) rfl rfl (any_of HT_.out (by kernel_rfl)) (fun _ _ _ h => h) (Or.inl ⟨by rfl, ?_⟩) ?_ ?_
                               rotate_left
                               · intro w'
                                 go_simp
                                 with_reducible rfl
                               rotate_left
                               · simp only [Act.put, List.setIfInBounds_toArray, List.set_cons_zero, List.set_cons_succ, i64_w, i32_w]
                                 rfl
                               refine pure_ (i := 2) (N := some 118) (v := ?_) (a' := ?_) (mS 9 7) rfl rfl (any_of HT_.out (by kernel_rfl)) (fun _ _ _ h => h) (Or.inl ⟨by rfl, ?_⟩) ?_ ?_
                               rotate_left
                               · intro w'
                                 go_simp
                                 with_reducible rfl
                               rotate_left
                               · simp only [Act.put, List.setIfInBounds_toArray, List.set_cons_zero, List.set_cons_succ, i64_w, i32_w]
                                 rfl
                               refine pure_ (i := 4) (N := some 120) (v := ?_) (a' := ?_) (mS 9 23) rfl rfl (any_of HT_.out (by kernel_rfl)) (fun _ _ _ h => h) (Or.inl ⟨by rfl, ?_⟩) ?_ ?_
                               rotate_left
                               · intro w'
                                 go_simp
                                 with_reducible rfl
                               rotate_left
                               · simp only [Act.put, List.setIfInBounds_toArray, List.set_cons_zero, List.set_cons_succ, i64_w, i32_w]
                                 rfl
                               refine pure_ (i := 5) (N := some 121) (v := ?_) (a' := ?_) (mS 9 55) rfl rfl (any_of HT_.out (by kernel_rfl)) (fun _ _ _ h => h) (Or.inl ⟨by rfl, ?_⟩) ?_ ?_
                               rotate_left
                               · intro w'
                                 go_simp
                                 with_reducible rfl
                               rotate_left
                               · simp only [Act.put, List.setIfInBounds_toArray, List.set_cons_zero, List.set_cons_succ, i64_w, i32_w]
                                 rfl
                               refine pure_ (i := 6) (N := some 122) (v := ?_) (a' := ?_) (mS 9 119) rfl rfl (any_of HT_.out (by kernel_rfl)) (fun _ _ _ h => h) (Or.inl ⟨by rfl, ?_⟩) ?_ ?_
                               rotate_left
                               · intro w'
                                 go_simp
                                 with_reducible rfl
                               rotate_left
                               · simp only [Act.put, List.setIfInBounds_toArray, List.set_cons_zero, List.set_cons_succ, i64_w, i32_w]
                                 rfl
                               refine take_ (i := 3) (N := some 119) (v := ?_) (a' := ?_) (mS 9 127) rfl rfl (take_ofW HT_.out HW_.out (by kernel_rfl)) (fun _ _ _ h => h) (Or.inl ⟨by rfl, ?_⟩) hHeld ?_ ?_
                               rotate_left
                               · rintro w' ⟨s0, s1, s2, s3, s4, s5, s6, s7, s8, s9, s10, s11, s12, s13, s14, s15, s16, s17⟩
                                 go_simp
                                 with_reducible rfl
                               rotate_left
                               · simp only [Act.put, List.setIfInBounds_toArray, List.set_cons_zero, List.set_cons_succ, i64_w, i32_w]
                                 rfl
                               refine take_ (i := 7) (N := some 123) (v := ?_) (a' := ?_) (mS 9 255) rfl rfl (take_ofW HT_.out HW_.out (by kernel_rfl)) (fun _ _ _ h => h) (Or.inl ⟨by rfl, ?_⟩) hHeld ?_ ?_
                               rotate_left
                               · rintro w' ⟨s0, s1, s2, s3, s4, s5, s6, s7, s8, s9, s10, s11, s12, s13, s14, s15, s16, s17⟩
                                 go_simp
                                 with_reducible rfl
                               rotate_left
                               · simp only [Act.put, List.setIfInBounds_toArray, List.set_cons_zero, List.set_cons_succ, i64_w, i32_w]
                                 rfl
                               refine pure_ (i := 8) (N := some 124) (v := ?_) (a' := ?_) (mS 9 511) rfl rfl (any_of HT_.out (by kernel_rfl)) (fun _ _ _ h => h) (Or.inl ⟨by rfl, ?_⟩) ?_ ?_
                               rotate_left
                               · intro w'
                                 go_simp
                                 with_reducible rfl
                               rotate_left
                               · simp only [Act.put, List.setIfInBounds_toArray, List.set_cons_zero, List.set_cons_succ, i64_w, i32_w]
                                 rfl
                               refine done_ (done_of HT_.out (by kernel_rfl)) ?_
                               try go_wp2
                               go_roundg k5
                               case measure => have := HJ1.out; have := HK2.out; have := HK3.out; have := HJ35.out; have := HK5.out; omega
                               case rel => exact ⟨(wrap64 (x16_5 + 1)), (by first | rfl | (simp; done) | (simp [*]; done)), H', ⟨by have := HJ1.out; have := HK2.out; have := HK3.out; have := HJ35.out; have := HK5.out; omega⟩, ⟨by (with_reducible repeat (first | apply Kd.R_alloc | apply Kd.R_drewN | apply Kd.R_drew)); exact HO_7.out⟩, ⟨by (with_reducible repeat (first | apply Kd.R_alloc | apply Kd.R_drewN | apply Kd.R_drew)); exact HO_14.out⟩, ⟨by repeat (first | (with_reducible first | exact HB.out | apply below_alloc | apply pw_below_drewN | apply below_drew1) | exact HB.out)⟩⟩
                           · rw [if_neg c45] at H
                             exact absurd H (by simp)
                         · rw [if_neg c44] at H
                           exact absurd H (by simp)
                       · rw [if_neg c43] at H
                         have c43b0 : decide (x16_5 < (l0.length : Int)) = false := decide_eq_false c43
                         clear c43
                         simp only [Option.some.injEq, Prod.mk.injEq] at H
                         obtain ⟨rfl, rfl, rfl⟩ := H
                         go_wp2
                         go_ret3
                         exact ⟨_, by first | rfl | (simp [errW_none, errW_some] <;> rfl) | (simp [*, errW_none, errW_some] <;> rfl), by (with_reducible repeat (first | apply Kd.R_alloc | apply Kd.R_drewN | apply Kd.R_drew)); exact HO_7.out, by repeat (first | (with_reducible first | exact HB.out | apply below_alloc | apply pw_below_drewN | apply below_drew1) | exact HB.out)⟩
               · rw [if_neg c34] at H
                 exact absurd H (by simp)
     · rw [if_neg c5] at H
       exact absurd H (by simp)
end Go.Proofs.Ytpmkibggmkibeaa.G
namespace Go.Proofs.Ytpmkibggmkibeaa.G
open Go.RowKit Go.Proofs.YtpmkibggmkibeaaW.PrintWords Go.Proofs.YtpmkibggmkibeaaW.PrintLast Go.Proofs.YtpmkibggmkibeaaW.PrintMore
attribute [local go_sem] max2_int min2_int max_two min_two max_three min_three max_four min_four   -- for this text's walks alone
set_option linter.unusedVariables false
set_option linter.unusedSimpArgs false
def slices_Equal_int_int.l0 : Nat → List Int → List Int → Int → Int → Option (Bool)
 | 0, _, _, _, _ => none
 | k + 1, x0, x1, x12, x13 => if x13 < x12 then (if 0 ≤ x13 then (if x13 < (x0.length : Int) then (if x13 < (x1.length : Int) then (if (rd x0 x13) = (rd x1 x13) then (slices_Equal_int_int.l0 k x0 x1 x12 (wrap64 (x13 + 1))) else (some false)) else (none)) else (none)) else (none)) else (some true)
def slices_Equal_int_int.f (k : Nat) (l0 : List Int) (l1 : List Int) : Option (Bool) := if (l0.length : Int) = (l1.length : Int) then (slices_Equal_int_int.l0 k l0 l1 (l0.length : Int) 0) else (some false)
theorem slices_Equal_int_int.mono_l : ∀ k, (∀ y0 y1 y2 y3, LeO (slices_Equal_int_int.l0 k y0 y1 y2 y3) (slices_Equal_int_int.l0 (k + 1) y0 y1 y2 y3))
 | 0 => fun _ _ _ _ r h => by simp [slices_Equal_int_int.l0] at h
 | k + 1 => by
  have ih0 := slices_Equal_int_int.mono_l k
  · intro y0 y1 y2 y3
    unfold slices_Equal_int_int.l0
    repeat' first
    | (with_reducible exact ih0 _ _ _ _)
    | (with_reducible exact LeO.refl _)
    | (with_reducible exact LeO.none _)
    | (with_reducible refine LeO.ite ?_ ?_)
    | (with_reducible refine LeO.bind ?_ (fun _ => ?_))
    | exact ih0 _ _ _ _
    | exact LeO.none _
    | refine LeO.ite ?_ ?_
    | refine LeO.bind ?_ (fun _ => ?_)
theorem slices_Equal_int_int.mono : ∀ a0 a1 k, LeO (slices_Equal_int_int.f k a0 a1) (slices_Equal_int_int.f (k + 1) a0 a1) := by
 intro a0 a1 k
 have ih0 := slices_Equal_int_int.mono_l k
 unfold slices_Equal_int_int.f
 repeat' first
  | (with_reducible exact ih0 _ _ _ _)
  | (with_reducible exact LeO.refl _)
  | (with_reducible exact LeO.none _)
  | (with_reducible refine LeO.ite ?_ ?_)
  | (with_reducible refine LeO.bind ?_ (fun _ => ?_))
  | exact ih0 _ _ _ _
  | exact LeO.none _
  | refine LeO.ite ?_ ?_
  | refine LeO.bind ?_ (fun _ => ?_)
set_option maxHeartbeats 8000000 in
set_option maxRecDepth 100000 in
theorem slices_Equal_int_int.calls (k : Nat) (A0 : Option Addr) (c0 : Nat) (l0 : List Int) (A1 : Option Addr) (c1 : Nat) (l1 : List Int) (r : Bool) (w : World) (hr0 : Kd.C (Kd.int .i64) w A0 l0.length l0) (hc0 : l0.length ≤ c0) (hr1 : Kd.C (Kd.int .i64) w A1 l1.length l1) (hc1 : l1.length ≤ c1) (h : slices_Equal_int_int.f k l0 l1 = some r) :
 Calls Try.prog 21 #[.slice A0 l0.length c0, .slice A1 l1.length c1] w fun e w' => e = .returned (.bool r) ∧ Drawn0 w w' := by
 have HR0 := Aside0.mk hr0
 have HC0 := Aside0.mk hc0
 clear hr0 hc0
 have HR1 := Aside0.mk hr1
 have HC1 := Aside0.mk hc1
 clear hr1 hc1
 have H : (if (l0.length : Int) = (l1.length : Int) then (slices_Equal_int_int.l0 k l0 l1 (l0.length : Int) 0) else (some false)) = some r := h
 clear h
 by_cases c3 : (l0.length : Int) = (l1.length : Int)
 · rw [if_pos c3] at H
   have c3b0 : ((l0.length : Int) == (l1.length : Int)) = true := beq_iff_eq.mpr c3
   have c3b1 : ((l0.length : Int) != (l1.length : Int)) = false := bne_eq_false_iff_eq.mpr c3
   have c3b2 : (l0.length == l1.length) = true := by first | simpa using c3 | (simp at c3 ⊢; omega)
   clear c3
   have H' := Aside0.mk H
   clear H
   go_enter Try.func21, Try.ntmps21
   go_wp2
   repeat (go_quiet (fail); try go_wp2)
   go_loopg [13] k (fun kq v13 w' => ∃ (x13_1 : Int), v13 = .int .i64 x13_1 ∧ Aside0 (slices_Equal_int_int.l0 kq l0 l1 (l0.length : Int) x13_1 = some r) ∧ Aside0 (kq ≤ k) ∧ Drawn0 w w')
   case atStart => exact ⟨(0), (by first | rfl | (simp; done) | (simp [*]; done)), H', ⟨Nat.le_refl _⟩, by repeat (first | exact Drawn0.refl _ | apply Drawn0.step)⟩
   case round =>
    clear H'
    try clear c1
    try clear c2
    try clear p2
    try clear c3
    try clear c3b0
    try clear c3b1
    try clear c3b2
    obtain ⟨x13_1, rfl, HA, HK1, ⟨m1, rfl⟩⟩ := hrel
    cases gk with
    | zero => exact absurd HA.out (by simp [slices_Equal_int_int.l0])
    | succ k1 =>
     have H := HA.out
     clear HA
     simp only [slices_Equal_int_int.l0] at H
     by_cases c4 : x13_1 < (l0.length : Int)
     · rw [if_pos c4] at H
       have c4b0 : decide (x13_1 < (l0.length : Int)) = true := decide_eq_true c4
       clear c4
       by_cases c5 : 0 ≤ x13_1
       · rw [if_pos c5] at H
         have c5b0 : decide (0 ≤ x13_1) = true := decide_eq_true c5
         clear c5
         by_cases c6 : x13_1 < (l0.length : Int)
         · rw [if_pos c6] at H
           have c6b0 : decide (x13_1 < (l0.length : Int)) = true := decide_eq_true c6
           clear c6
           by_cases c7 : x13_1 < (l1.length : Int)
           · rw [if_pos c7] at H
             have c7b0 : decide (x13_1 < (l1.length : Int)) = true := decide_eq_true c7
             clear c7
             by_cases c8 : (rd l0 x13_1) = (rd l1 x13_1)
             · rw [if_pos c8] at H
               have c8b0 : ((rd l0 x13_1) == (rd l1 x13_1)) = true := beq_iff_eq.mpr c8
               have c8b1 : ((rd l0 x13_1) != (rd l1 x13_1)) = false := bne_eq_false_iff_eq.mpr c8
               clear c8
               have H' := Aside0.mk H
               clear H
               have p370 : 0 ≤ (x13_1 : Int) := of_decide_eq_true (by first | (with_reducible assumption) | assumption)
               have q370 : x13_1 < (l0.length : Int) := of_decide_eq_true (by first | (with_reducible assumption) | assumption)
               obtain ⟨ad370, e370, hx370_0⟩ := Kd.at_int HR0.out x13_1 p370 q370
               cases e370
               replace p370 := eq_true p370
               replace q370 := eq_true q370
               have p371 : 0 ≤ (x13_1 : Int) := of_decide_eq_true (by first | (with_reducible assumption) | assumption)
               have q371 : x13_1 < (l1.length : Int) := of_decide_eq_true (by first | (with_reducible assumption) | assumption)
               obtain ⟨ad371, e371, hx371_0⟩ := Kd.at_int HR1.out x13_1 p371 q371
               cases e371
               replace p371 := eq_true p371
               replace q371 := eq_true q371
               go_wp2
               repeat (go_quiet (fail); try go_wp2)
               go_roundg k1
               case measure => have := HK1.out; omega
               case rel => exact ⟨(wrap64 (x13_1 + 1)), (by first | rfl | (simp; done) | (simp [*]; done)), H', ⟨by have := HK1.out; omega⟩, by repeat (first | exact Drawn0.refl _ | apply Drawn0.step)⟩
             · rw [if_neg c8] at H
               have c8b0 : ((rd l0 x13_1) == (rd l1 x13_1)) = false := beq_eq_false_iff_ne.mpr c8
               have c8b1 : ((rd l0 x13_1) != (rd l1 x13_1)) = true := bne_iff_ne.mpr c8
               obtain rfl := Option.some.inj H
               have p370 : 0 ≤ (x13_1 : Int) := of_decide_eq_true (by first | (with_reducible assumption) | assumption)
               have q370 : x13_1 < (l0.length : Int) := of_decide_eq_true (by first | (with_reducible assumption) | assumption)
               obtain ⟨ad370, e370, hx370_0⟩ := Kd.at_int HR0.out x13_1 p370 q370
               cases e370
               replace p370 := eq_true p370
               replace q370 := eq_true q370
               have p371 : 0 ≤ (x13_1 : Int) := of_decide_eq_true (by first | (with_reducible assumption) | assumption)
               have q371 : x13_1 < (l1.length : Int) := of_decide_eq_true (by first | (with_reducible assumption) | assumption)
               obtain ⟨ad371, e371, hx371_0⟩ := Kd.at_int HR1.out x13_1 p371 q371
               cases e371
               replace p371 := eq_true p371
               replace q371 := eq_true q371
               go_wp2
               repeat (go_quiet (fail); try go_wp2)
               go_ret
               exact ⟨by first | rfl | (simp; done) | (simp [*]; done), by repeat (first | exact Drawn0.refl _ | apply Drawn0.step)⟩
           · rw [if_neg c7] at H
             exact absurd H (by simp)
         · rw [if_neg c6] at H
           exact absurd H (by simp)
       · rw [if_neg c5] at H
         exact absurd H (by simp)
     · rw [if_neg c4] at H
       have c4b0 : decide (x13_1 < (l0.length : Int)) = false := decide_eq_false c4
       clear c4
       obtain rfl := Option.some.inj H
       go_wp2
       repeat (go_quiet (fail); try go_wp2)
       go_ret
       exact ⟨by first | rfl | (simp; done) | (simp [*]; done), by repeat (first | exact Drawn0.refl _ | apply Drawn0.step)⟩
 · rw [if_neg c3] at H
   have c3b0 : ((l0.length : Int) == (l1.length : Int)) = false := beq_eq_false_iff_ne.mpr c3
   have c3b1 : ((l0.length : Int) != (l1.length : Int)) = true := bne_iff_ne.mpr c3
   have c3b2 : (l0.length == l1.length) = false := by first | simpa using c3 | (simp at c3 ⊢; omega)
   obtain rfl := Option.some.inj H
   go_enter Try.func21, Try.ntmps21
   go_wp2
   repeat (go_quiet (fail); try go_wp2)
   go_ret
   exact ⟨by first | rfl | (simp; done) | (simp [*]; done), by repeat (first | exact Drawn0.refl _ | apply Drawn0.step)⟩
end Go.Proofs.Ytpmkibggmkibeaa.G
