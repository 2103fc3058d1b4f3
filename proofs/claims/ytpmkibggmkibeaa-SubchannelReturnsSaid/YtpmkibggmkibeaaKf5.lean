/- Texts of one claim, merged by a program of this session; what is proved stands in the last of them. -/
import Derived.Deep.RegionHeld3
import Derived.Test.YtpmkibggmkibeaaKf1
import Derived.Test.YtpmkibggmkibeaaKf3
import Derived.Test.YtpmkibggmkibeaaKf4
namespace Go.Proofs.Ytpmkibggmkibeaa.G
open Go.RowKit Go.Proofs.YtpmkibggmkibeaaW.PrintWords Go.Proofs.YtpmkibggmkibeaaW.PrintLast Go.Proofs.YtpmkibggmkibeaaW.PrintMore
attribute [local go_sem] max2_int min2_int max_two min_two max_three min_three max_four min_four   -- for this text's walks alone
set_option linter.unusedVariables false
set_option linter.unusedSimpArgs false
def masterdiscref06_Decode.j0 : Nat → ByteArray → Int → Bool → Option (Int × Int × Int × Int)
 | 0, _, _, _ => none
 | k + 1, x0, x1, x27 => if x27 = true then (some (0, 0, 0, 2)) else (if 0 ≤ x1 then (if x1 < (x0.size : Int) then ((masterdiscref01_FromBCD.f (bt x0 x1)).bind fun bt438 => (if 0 ≤ (wrap64 (x1 + 1)) then (if (wrap64 (x1 + 1)) < (x0.size : Int) then ((masterdiscref01_FromBCD.f (bt x0 (wrap64 (x1 + 1)))).bind fun bt440 => (if 0 ≤ (wrap64 (x1 + 2)) then (if (wrap64 (x1 + 2)) < (x0.size : Int) then ((masterdiscref01_FromBCD.f (bt x0 (wrap64 (x1 + 2)))).bind fun bt442 => (if bt438.2 = 0 then (if bt440.2 = 0 then (if bt442.2 = 0 then ((masterdiscref06_Valid.f bt438.1 bt440.1 bt442.1).bind fun t445 => (if t445 = true then (some (bt438.1, bt440.1, bt442.1, 0)) else (some (0, 0, 0, 10)))) else (some (0, 0, 0, 10))) else (some (0, 0, 0, 10))) else (some (0, 0, 0, 10)))) else (none)) else (none))) else (none)) else (none))) else (none)) else (none))
def masterdiscref06_Decode.f (k : Nat) (a0 : ByteArray) (a1 : Int) : Option (Int × Int × Int × Int) := if a1 < 0 then (masterdiscref06_Decode.j0 k a0 a1 true) else (if a1 > (a0.size : Int) then (masterdiscref06_Decode.j0 k a0 a1 true) else (masterdiscref06_Decode.j0 k a0 a1 (decide ((wrap64 ((a0.size : Int) - a1)) < 3))))
theorem masterdiscref06_Decode.mono_l : ∀ k, (∀ y0 y1 y2, LeO (masterdiscref06_Decode.j0 k y0 y1 y2) (masterdiscref06_Decode.j0 (k + 1) y0 y1 y2))
 | 0 => fun _ _ _ r h => by simp [masterdiscref06_Decode.j0] at h
 | k + 1 => by
  have ih0 := masterdiscref06_Decode.mono_l k
  · intro y0 y1 y2
    unfold masterdiscref06_Decode.j0
    repeat' first
    | (with_reducible exact ih0 _ _ _)
    | (with_reducible exact LeO.refl _)
    | (with_reducible exact LeO.none _)
    | (with_reducible refine LeO.ite ?_ ?_)
    | (with_reducible refine LeO.bind ?_ (fun _ => ?_))
    | exact ih0 _ _ _
    | exact LeO.none _
    | refine LeO.ite ?_ ?_
    | refine LeO.bind ?_ (fun _ => ?_)
theorem masterdiscref06_Decode.mono : ∀ a0 a1 k, LeO (masterdiscref06_Decode.f k a0 a1) (masterdiscref06_Decode.f (k + 1) a0 a1) := by
 intro a0 a1 k
 have ih0 := masterdiscref06_Decode.mono_l k
 unfold masterdiscref06_Decode.f
 repeat' first
  | (with_reducible exact ih0 _ _ _)
  | (with_reducible exact LeO.refl _)
  | (with_reducible exact LeO.none _)
  | (with_reducible refine LeO.ite ?_ ?_)
  | (with_reducible refine LeO.bind ?_ (fun _ => ?_))
  | exact ih0 _ _ _
  | exact LeO.none _
  | refine LeO.ite ?_ ?_
  | refine LeO.bind ?_ (fun _ => ?_)
set_option maxHeartbeats 8000000 in
set_option maxRecDepth 100000 in
theorem masterdiscref06_Decode.calls (k : Nat) (a0 : ByteArray) (a1 : Int) (r1 : Int) (r2 : Int) (r3 : Int) (r4 : Int) (w : World) (h : masterdiscref06_Decode.f k a0 a1 = some (r1, r2, r3, r4)) :
 Calls Try.prog 52 #[.string a0, .int .i64 a1] w fun e w' => e = .returned (.tuple #[.agg #[.int .i64 r1, .int .i64 r2, .int .i64 r3], .int .i64 r4]) ∧ Below w.heap.size w w' := by
 have hu25 := Try.underlying25
 have HB := Aside0.mk (Below.refl w.heap.size w)
 have H : (if a1 < 0 then (masterdiscref06_Decode.j0 k a0 a1 true) else (if a1 > (a0.size : Int) then (masterdiscref06_Decode.j0 k a0 a1 true) else (masterdiscref06_Decode.j0 k a0 a1 (decide ((wrap64 ((a0.size : Int) - a1)) < 3))))) = some (r1, r2, r3, r4) := h
 clear h
 have HC3 := Aside0.mk H
 clear H
 go_enter Try.func52, Try.ntmps52
 go_upto_region 1 with (first | ((with_reducible refine gate_dst (N := 4) rfl ?_); (try (refine gate_guard (by rfl) ?_; dsimp only)); refine box_event ?hg (N := 4) ?hd (cs := #[.int .i64 0, .int .i64 0, .int .i64 0]) (t := 25) ?hr ?_; (case hd => rfl); (case hg => rfl); (case hr => first | (go_simp; done) | (go_simp; rfl)); intro gb437 hg w4 hbox hb; have n0_ := Aside0.mk (below_step (by repeat (first | (with_reducible first | exact HB.out | apply below_alloc | apply pw_below_drewN | apply below_drew1) | exact HB.out)) hb); have n1_ := Aside0.mk (hbox); have n2_ := Aside0.mk ((by rw [hg]; exact (below_size (by repeat (first | (with_reducible first | exact HB.out | apply below_alloc | apply pw_below_drewN | apply below_drew1) | exact HB.out))) : w.heap.size ≤ gb437)); have n3_ := Aside0.mk ((by rw [hg]; exact (below_size (by repeat (first | (with_reducible first | exact HB.out | apply below_alloc | apply pw_below_drewN | apply below_drew1) | exact HB.out))) : w.heap.size ≤ gb437)); clear HB; have HB := n0_; have BK437 := n1_; have GW437 := n2_; have GE437 := n3_; clear n0_ n1_ n2_ n3_; clear hb hbox hg))
 (try simp only [Act.put, List.setIfInBounds_toArray, List.set_cons_zero, List.set_cons_succ])
 go_cut [27] (fun v27 wc => ∃ (kq : Nat) (x27_2 : Bool), v27 = .bool x27_2 ∧ Aside0 (masterdiscref06_Decode.j0 kq a0 a1 x27_2 = some (r1, r2, r3, r4)) ∧ Aside0 (kq ≤ k) ∧ Aside0 (wc.heap[gb437]? = some (.cells #[.int .i64 0, .int .i64 0, .int .i64 0] 25 (0, 0))) ∧ Aside0 (Below w.heap.size w wc))
 case first =>
  have H := HC3.out
  clear HC3
  by_cases c5 : a1 < 0
  · rw [if_pos c5] at H
    have c5b0 : decide (a1 < 0) = true := decide_eq_true c5
    clear c5
    (first | rw [c5b0] | (simp only [i64_w, i32_w]; rw [c5b0]) | skip)
    have H' := Aside0.mk H
    clear H
    go_wp2
    go_meet
    case rel => exact ⟨_, (true), (by first | rfl | (simp; done) | (simp [*]; done)), H', ⟨by first | omega | exact Nat.le_refl _⟩, ⟨by (with_reducible repeat (first | refine blk_drewN ?_ _ | refine blk_drew ?_ | refine blk_alloc ?_ _)); exact BK437.out⟩, ⟨by repeat (first | (with_reducible first | exact HB.out | apply below_alloc | apply pw_below_drewN | apply below_drew1 | refine below_set ?_ GE437.out) | exact HB.out)⟩⟩
  · rw [if_neg c5] at H
    have c5b0 : decide (a1 < 0) = false := decide_eq_false c5
    clear c5
    (first | rw [c5b0] | (simp only [i64_w, i32_w]; rw [c5b0]) | skip)
    by_cases c6 : a1 > (a0.size : Int)
    · rw [if_pos c6] at H
      have c6b0 : decide ((a0.size : Int) < a1) = true := decide_eq_true c6
      clear c6
      have H' := Aside0.mk H
      clear H
      go_wp2
      go_meet
      case rel => exact ⟨_, (true), (by first | rfl | (simp; done) | (simp [*]; done)), H', ⟨by first | omega | exact Nat.le_refl _⟩, ⟨by (with_reducible repeat (first | refine blk_drewN ?_ _ | refine blk_drew ?_ | refine blk_alloc ?_ _)); exact BK437.out⟩, ⟨by repeat (first | (with_reducible first | exact HB.out | apply below_alloc | apply pw_below_drewN | apply below_drew1 | refine below_set ?_ GE437.out) | exact HB.out)⟩⟩
    · rw [if_neg c6] at H
      have c6b0 : decide ((a0.size : Int) < a1) = false := decide_eq_false c6
      clear c6
      have H' := Aside0.mk H
      clear H
      go_wp2
      go_meet
      case rel => exact ⟨_, (decide ((wrap64 ((a0.size : Int) - a1)) < 3)), (by first | rfl | (simp; done) | (simp [*]; done)), H', ⟨by first | omega | exact Nat.le_refl _⟩, ⟨by (with_reducible repeat (first | refine blk_drewN ?_ _ | refine blk_drew ?_ | refine blk_alloc ?_ _)); exact BK437.out⟩, ⟨by repeat (first | (with_reducible first | exact HB.out | apply below_alloc | apply pw_below_drewN | apply below_drew1 | refine below_set ?_ GE437.out) | exact HB.out)⟩⟩
 case rest =>
  clear HC3
  try clear p2
  try clear c5
  try clear c5b0
  try clear c6
  try clear c6b0
  try clear p6
  obtain ⟨kq, x27_2, rfl, HA, HJ2, BK437, HB⟩ := hcut
  cases kq with
  | zero => exact absurd HA.out (by simp [masterdiscref06_Decode.j0])
  | succ kj2 =>
   have H := HA.out
   clear HA
   simp only [masterdiscref06_Decode.j0] at H
   by_cases c7 : x27_2 = true
   · subst c7
     have H1 : (some (0, 0, 0, 2)) = some (r1, r2, r3, r4) := by rw [if_pos rfl] at H; exact H
     clear H
     have H := H1
     clear H1
     simp only [Option.some.injEq, Prod.mk.injEq] at H
     obtain ⟨rfl, rfl, rfl, rfl⟩ := H
     obtain ⟨hcz8_0, hcz8_1, hcz8_2⟩ := cel3 BK437.out
     obtain ⟨hfz8_0, hfz8_1, hfz8_2⟩ := frz3 BK437.out
     go_wp2
     refine bodyPost_ret (results_ct rfl _ _ gb437 25 #[.int .i64 0, .int .i64 0, .int .i64 0] (0, 0) _ rfl (by (with_reducible repeat (first | refine blk_drewN ?_ _ | refine blk_drew ?_ | refine blk_alloc ?_ _)); refine blk_put (cs := #[.int .i64 0, .int .i64 0, .int .i64 0]) ?_ 2 _ rfl; (with_reducible repeat (first | refine blk_drewN ?_ _ | refine blk_drew ?_ | refine blk_alloc ?_ _)); refine blk_put (cs := #[.int .i64 0, .int .i64 0, .int .i64 0]) ?_ 1 _ rfl; (with_reducible repeat (first | refine blk_drewN ?_ _ | refine blk_drew ?_ | refine blk_alloc ?_ _)); refine blk_put (cs := #[.int .i64 0, .int .i64 0, .int .i64 0]) ?_ 0 _ rfl; (with_reducible repeat (first | refine blk_drewN ?_ _ | refine blk_drew ?_ | refine blk_alloc ?_ _)); exact BK437.out) Try.underlying25 rfl (by kernel_rfl)) rfl ?_
     exact ⟨by first | rfl | (simp [errW_none, errW_some] <;> rfl) | (simp [*, errW_none, errW_some] <;> rfl), by repeat (first | (with_reducible first | exact HB.out | apply below_alloc | apply pw_below_drewN | apply below_drew1 | refine below_set ?_ GE437.out) | exact HB.out)⟩
   · replace c7 := Bool.eq_false_iff.mpr c7
     subst c7
     have H1 : (if 0 ≤ a1 then (if a1 < (a0.size : Int) then ((masterdiscref01_FromBCD.f (bt a0 a1)).bind fun bt438 => (if 0 ≤ (wrap64 (a1 + 1)) then (if (wrap64 (a1 + 1)) < (a0.size : Int) then ((masterdiscref01_FromBCD.f (bt a0 (wrap64 (a1 + 1)))).bind fun bt440 => (if 0 ≤ (wrap64 (a1 + 2)) then (if (wrap64 (a1 + 2)) < (a0.size : Int) then ((masterdiscref01_FromBCD.f (bt a0 (wrap64 (a1 + 2)))).bind fun bt442 => (if bt438.2 = 0 then (if bt440.2 = 0 then (if bt442.2 = 0 then ((masterdiscref06_Valid.f bt438.1 bt440.1 bt442.1).bind fun t445 => (if t445 = true then (some (bt438.1, bt440.1, bt442.1, 0)) else (some (0, 0, 0, 10)))) else (some (0, 0, 0, 10))) else (some (0, 0, 0, 10))) else (some (0, 0, 0, 10)))) else (none)) else (none))) else (none)) else (none))) else (none)) else (none)) = some (r1, r2, r3, r4) := by rw [if_neg (show ¬ (false = true) by decide)] at H; exact H
     clear H
     have H := H1
     clear H1
     by_cases c9 : 0 ≤ a1
     · rw [if_pos c9] at H
       have c9b0 : decide (0 ≤ a1) = true := decide_eq_true c9
       clear c9
       by_cases c10 : a1 < (a0.size : Int)
       · rw [if_pos c10] at H
         have c10b0 : decide (a1 < (a0.size : Int)) = true := decide_eq_true c10
         clear c10
         replace H := Option.bind_eq_some_iff.mp H
         obtain ⟨⟨t438, t439⟩, A120, H⟩ := H
         replace H : (if 0 ≤ (wrap64 (a1 + 1)) then (if (wrap64 (a1 + 1)) < (a0.size : Int) then ((masterdiscref01_FromBCD.f (bt a0 (wrap64 (a1 + 1)))).bind fun bt440 => (if 0 ≤ (wrap64 (a1 + 2)) then (if (wrap64 (a1 + 2)) < (a0.size : Int) then ((masterdiscref01_FromBCD.f (bt a0 (wrap64 (a1 + 2)))).bind fun bt442 => (if t439 = 0 then (if bt440.2 = 0 then (if bt442.2 = 0 then ((masterdiscref06_Valid.f t438 bt440.1 bt442.1).bind fun t445 => (if t445 = true then (some (t438, bt440.1, bt442.1, 0)) else (some (0, 0, 0, 10)))) else (some (0, 0, 0, 10))) else (some (0, 0, 0, 10))) else (some (0, 0, 0, 10)))) else (none)) else (none))) else (none)) else (none)) = some (r1, r2, r3, r4) := H
         have A12 := Aside0.mk A120
         clear A120
         obtain ⟨ji13, hji13⟩ : ∃ j_ : Int, (wrap64 (a1 + 1)) = j_ := ⟨_, rfl⟩
         replace H : (if 0 ≤ (ji13) then (if (ji13) < (a0.size : Int) then ((masterdiscref01_FromBCD.f (bt a0 (ji13))).bind fun bt440 => (if 0 ≤ (wrap64 (a1 + 2)) then (if (wrap64 (a1 + 2)) < (a0.size : Int) then ((masterdiscref01_FromBCD.f (bt a0 (wrap64 (a1 + 2)))).bind fun bt442 => (if t439 = 0 then (if bt440.2 = 0 then (if bt442.2 = 0 then ((masterdiscref06_Valid.f t438 bt440.1 bt442.1).bind fun t445 => (if t445 = true then (some (t438, bt440.1, bt442.1, 0)) else (some (0, 0, 0, 10)))) else (some (0, 0, 0, 10))) else (some (0, 0, 0, 10))) else (some (0, 0, 0, 10)))) else (none)) else (none))) else (none)) else (none)) = some (r1, r2, r3, r4) := by first | (rw [hji13] at H; exact H) | (simp only [hji13] at H ⊢; exact H)
         (try rw [hji13] at A12)
         have hji13w : (IntKind.i64.wrap (a1 + 1)) = ji13 := (i64_w _).trans hji13
         by_cases c14 : 0 ≤ (ji13)
         · rw [if_pos c14] at H
           have c14b0 : decide (0 ≤ (ji13)) = true := decide_eq_true c14
           clear c14
           by_cases c15 : (ji13) < (a0.size : Int)
           · rw [if_pos c15] at H
             have c15b0 : decide ((ji13) < (a0.size : Int)) = true := decide_eq_true c15
             clear c15
             replace H := Option.bind_eq_some_iff.mp H
             obtain ⟨⟨t440, t441⟩, A170, H⟩ := H
             replace H : (if 0 ≤ (wrap64 (a1 + 2)) then (if (wrap64 (a1 + 2)) < (a0.size : Int) then ((masterdiscref01_FromBCD.f (bt a0 (wrap64 (a1 + 2)))).bind fun bt442 => (if t439 = 0 then (if t441 = 0 then (if bt442.2 = 0 then ((masterdiscref06_Valid.f t438 t440 bt442.1).bind fun t445 => (if t445 = true then (some (t438, t440, bt442.1, 0)) else (some (0, 0, 0, 10)))) else (some (0, 0, 0, 10))) else (some (0, 0, 0, 10))) else (some (0, 0, 0, 10)))) else (none)) else (none)) = some (r1, r2, r3, r4) := H
             have A17 := Aside0.mk A170
             clear A170
             obtain ⟨ji18, hji18⟩ : ∃ j_ : Int, (wrap64 (a1 + 2)) = j_ := ⟨_, rfl⟩
             replace H : (if 0 ≤ (ji18) then (if (ji18) < (a0.size : Int) then ((masterdiscref01_FromBCD.f (bt a0 (ji18))).bind fun bt442 => (if t439 = 0 then (if t441 = 0 then (if bt442.2 = 0 then ((masterdiscref06_Valid.f t438 t440 bt442.1).bind fun t445 => (if t445 = true then (some (t438, t440, bt442.1, 0)) else (some (0, 0, 0, 10)))) else (some (0, 0, 0, 10))) else (some (0, 0, 0, 10))) else (some (0, 0, 0, 10)))) else (none)) else (none)) = some (r1, r2, r3, r4) := by first | (rw [hji18] at H; exact H) | (simp only [hji18] at H ⊢; exact H)
             (try rw [hji18] at A12)
             (try rw [hji18] at A17)
             have hji18w : (IntKind.i64.wrap (a1 + 2)) = ji18 := (i64_w _).trans hji18
             by_cases c19 : 0 ≤ (ji18)
             · rw [if_pos c19] at H
               have c19b0 : decide (0 ≤ (ji18)) = true := decide_eq_true c19
               clear c19
               by_cases c20 : (ji18) < (a0.size : Int)
               · rw [if_pos c20] at H
                 have c20b0 : decide ((ji18) < (a0.size : Int)) = true := decide_eq_true c20
                 clear c20
                 replace H := Option.bind_eq_some_iff.mp H
                 obtain ⟨⟨t442, t443⟩, A220, H⟩ := H
                 replace H : (if t439 = 0 then (if t441 = 0 then (if t443 = 0 then ((masterdiscref06_Valid.f t438 t440 t442).bind fun t445 => (if t445 = true then (some (t438, t440, t442, 0)) else (some (0, 0, 0, 10)))) else (some (0, 0, 0, 10))) else (some (0, 0, 0, 10))) else (some (0, 0, 0, 10))) = some (r1, r2, r3, r4) := H
                 have A22 := Aside0.mk A220
                 clear A220
                 by_cases c23 : t439 = 0
                 · rw [if_pos c23] at H
                   have c23b0 : (t439 == 0) = true := beq_iff_eq.mpr c23
                   have c23b1 : (t439 != 0) = false := bne_eq_false_iff_eq.mpr c23
                   clear c23
                   by_cases c24 : t441 = 0
                   · rw [if_pos c24] at H
                     have c24b0 : (t441 == 0) = true := beq_iff_eq.mpr c24
                     have c24b1 : (t441 != 0) = false := bne_eq_false_iff_eq.mpr c24
                     clear c24
                     by_cases c25 : t443 = 0
                     · rw [if_pos c25] at H
                       have c25b0 : (t443 == 0) = true := beq_iff_eq.mpr c25
                       have c25b1 : (t443 != 0) = false := bne_eq_false_iff_eq.mpr c25
                       clear c25
                       replace H := Option.bind_eq_some_iff.mp H
                       obtain ⟨t445, A260, H⟩ := H
                       replace H : (if t445 = true then (some (t438, t440, t442, 0)) else (some (0, 0, 0, 10))) = some (r1, r2, r3, r4) := H
                       have A26 := Aside0.mk A260
                       clear A260
                       by_cases c27 : t445 = true
                       · subst c27
                         have H1 : (some (t438, t440, t442, 0)) = some (r1, r2, r3, r4) := by rw [if_pos rfl] at H; exact H
                         clear H
                         have H := H1
                         clear H1
                         simp only [Option.some.injEq, Prod.mk.injEq] at H
                         obtain ⟨rfl, rfl, rfl, rfl⟩ := H
                         have p11 : 0 ≤ (a1 : Int) := of_decide_eq_true (by first | (with_reducible assumption) | assumption)
                         have q11 : a1 < (a0.size : Int) := of_decide_eq_true (by first | (with_reducible assumption) | assumption)
                         have hx11 := bt_at a0 a1
                         replace p11 := eq_true p11
                         replace q11 := eq_true q11
                         go_wp2_with (first | ((with_reducible refine gate_callee (f := 53) rfl ?_); refine goesL_ (some 33) rfl rfl Try.func53 (by kernel_rfl) rfl #[.int .u8 (bt a0 a1)] rfl (by (try simp only [List.map_toArray, List.map_cons, List.map_nil]); first | done | rfl | (simp only [List.length_drop, List.length_take]; rfl)) ?_; (with_reducible refine (masterdiscref01_FromBCD.calls (bt a0 a1) t438 t439 _ A12.out).mono ?_); rintro e w' ⟨rfl, ⟨nd, rfl⟩⟩; refine ⟨_, rfl, ?_⟩; (try (rw [drewN_self wc]; generalize hq_ : World.drewN wc _ = wc; have n0_ : Aside0 (wc.heap[gb437]? = some (.cells #[.int .i64 0, .int .i64 0, .int .i64 0] 25 (0, 0))) := ⟨by rw [← hq_]; exact (by (with_reducible repeat (first | refine blk_drewN ?_ _ | refine blk_drew ?_ | refine blk_alloc ?_ _)); exact BK437.out)⟩; have n1_ : Aside0 (Below w.heap.size w wc) := ⟨by rw [← hq_]; exact (by repeat (first | (with_reducible first | exact HB.out | apply below_alloc | apply pw_below_drewN | apply below_drew1 | refine below_set ?_ GE437.out) | exact HB.out))⟩; clear BK437 HB hq_; have BK437 := n0_; have HB := n1_; clear n0_ n1_)); have p16 : 0 ≤ ((ji13) : Int) := of_decide_eq_true (by first | (with_reducible assumption) | assumption); have q16 : (ji13) < (a0.size : Int) := of_decide_eq_true (by first | (with_reducible assumption) | assumption); have hx16 := bt_at a0 (ji13); replace p16 := eq_true p16; replace q16 := eq_true q16) | ((with_reducible refine gate_callee (f := 53) rfl ?_); refine goesL_ (some 41) rfl rfl Try.func53 (by kernel_rfl) rfl #[.int .u8 (bt a0 (ji13))] rfl (by (try simp only [List.map_toArray, List.map_cons, List.map_nil]); first | done | (simp only [hji13]; rfl) | rfl | (simp only [List.length_drop, List.length_take]; rfl)) ?_; (with_reducible refine (masterdiscref01_FromBCD.calls (bt a0 (ji13)) t440 t441 _ A17.out).mono ?_); rintro e w' ⟨rfl, ⟨nd, rfl⟩⟩; refine ⟨_, rfl, ?_⟩; (try (rw [drewN_self wc]; generalize hq_ : World.drewN wc _ = wc; have n0_ : Aside0 (wc.heap[gb437]? = some (.cells #[.int .i64 0, .int .i64 0, .int .i64 0] 25 (0, 0))) := ⟨by rw [← hq_]; exact (by (with_reducible repeat (first | refine blk_drewN ?_ _ | refine blk_drew ?_ | refine blk_alloc ?_ _)); exact BK437.out)⟩; have n1_ : Aside0 (Below w.heap.size w wc) := ⟨by rw [← hq_]; exact (by repeat (first | (with_reducible first | exact HB.out | apply below_alloc | apply pw_below_drewN | apply below_drew1 | refine below_set ?_ GE437.out) | exact HB.out))⟩; clear BK437 HB hq_; have BK437 := n0_; have HB := n1_; clear n0_ n1_)); have p21 : 0 ≤ ((ji18) : Int) := of_decide_eq_true (by first | (with_reducible assumption) | assumption); have q21 : (ji18) < (a0.size : Int) := of_decide_eq_true (by first | (with_reducible assumption) | assumption); have hx21 := bt_at a0 (ji18); replace p21 := eq_true p21; replace q21 := eq_true q21) | ((with_reducible refine gate_callee (f := 53) rfl ?_); refine goesL_ (some 49) rfl rfl Try.func53 (by kernel_rfl) rfl #[.int .u8 (bt a0 (ji18))] rfl (by (try simp only [List.map_toArray, List.map_cons, List.map_nil]); first | done | (simp only [hji18]; rfl) | rfl | (simp only [List.length_drop, List.length_take]; rfl)) ?_; (with_reducible refine (masterdiscref01_FromBCD.calls (bt a0 (ji18)) t442 t443 _ A22.out).mono ?_); rintro e w' ⟨rfl, ⟨nd, rfl⟩⟩; refine ⟨_, rfl, ?_⟩; (try (rw [drewN_self wc]; generalize hq_ : World.drewN wc _ = wc; have n0_ : Aside0 (wc.heap[gb437]? = some (.cells #[.int .i64 0, .int .i64 0, .int .i64 0] 25 (0, 0))) := ⟨by rw [← hq_]; exact (by (with_reducible repeat (first | refine blk_drewN ?_ _ | refine blk_drew ?_ | refine blk_alloc ?_ _)); exact BK437.out)⟩; have n1_ : Aside0 (Below w.heap.size w wc) := ⟨by rw [← hq_]; exact (by repeat (first | (with_reducible first | exact HB.out | apply below_alloc | apply pw_below_drewN | apply below_drew1 | refine below_set ?_ GE437.out) | exact HB.out))⟩; clear BK437 HB hq_; have BK437 := n0_; have HB := n1_; clear n0_ n1_))) | ((with_reducible refine gate_dst (N := 12) rfl ?_); (try (refine gate_guard (by rfl) ?_; dsimp only)); refine box_event ?hg (N := 12) ?hd (cs := #[.int .i64 0, .int .i64 0, .int .i64 0]) (t := 25) ?hr ?_; (case hd => rfl); (case hg => rfl); (case hr => first | (go_simp; done) | (go_simp; rfl)); intro gb444 hg w28 hbox hb; have n0_ := Aside0.mk (blk_below (g := gb437) (o := .cells #[.int .i64 0, .int .i64 0, .int .i64 0] 25 (0, 0)) (by (with_reducible repeat (first | refine blk_drewN ?_ _ | refine blk_drew ?_ | refine blk_alloc ?_ _)); exact BK437.out) hb); have n1_ := Aside0.mk (below_step (by repeat (first | (with_reducible first | exact HB.out | apply below_alloc | apply pw_below_drewN | apply below_drew1 | refine below_set ?_ GE437.out) | exact HB.out)) hb); have n2_ := Aside0.mk (hbox); have n3_ := Aside0.mk ((by rw [hg]; exact (below_size (by repeat (first | (with_reducible first | exact HB.out | apply below_alloc | apply pw_below_drewN | apply below_drew1 | refine below_set ?_ GE437.out) | exact HB.out))) : w.heap.size ≤ gb444)); have n4_ := Aside0.mk ((by rw [hg]; exact (below_size (by repeat (first | (with_reducible first | exact HB.out | apply below_alloc | apply pw_below_drewN | apply below_drew1 | refine below_set ?_ GE437.out) | exact HB.out))) : w.heap.size ≤ gb444)); have n5_ := Aside0.mk ((by rw [hg]; exact Nat.ne_of_lt (blk_lt (g := gb437) (o := .cells #[.int .i64 0, .int .i64 0, .int .i64 0] 25 (0, 0)) (by (with_reducible repeat (first | refine blk_drewN ?_ _ | refine blk_drew ?_ | refine blk_alloc ?_ _)); exact BK437.out)) : gb437 ≠ gb444)); have n6_ := Aside0.mk ((by rw [hg]; exact Nat.ne_of_gt (blk_lt (g := gb437) (o := .cells #[.int .i64 0, .int .i64 0, .int .i64 0] 25 (0, 0)) (by (with_reducible repeat (first | refine blk_drewN ?_ _ | refine blk_drew ?_ | refine blk_alloc ?_ _)); exact BK437.out)) : gb444 ≠ gb437)); clear BK437; clear HB; have BK437 := n0_; have HB := n1_; have BK444 := n2_; have GW444 := n3_; have GE444 := n4_; have NB437_444 := n5_; have NB444_437 := n6_; clear n0_ n1_ n2_ n3_ n4_ n5_ n6_; clear hb hbox hg; have hnb29 := NB444_437.out; have hnc29 := NB437_444.out; obtain ⟨hcz30_0, hcz30_1, hcz30_2⟩ := cel3 BK444.out; obtain ⟨hfz30_0, hfz30_1, hfz30_2⟩ := frz3 BK444.out) | (go_at_call 63; (with_reducible refine (masterdiscref06_Valid.calls t438 t440 t442 true _ A26.out).mono ?_); rintro e w31 ⟨rfl, hb⟩; have n0_ := Aside0.mk (blk_below (g := gb437) (o := .cells #[.int .i64 0, .int .i64 0, .int .i64 0] 25 (0, 0)) (by (with_reducible repeat (first | refine blk_drewN ?_ _ | refine blk_drew ?_ | refine blk_alloc ?_ _)); refine blk_far ?_ NB437_444.out _; (with_reducible repeat (first | refine blk_drewN ?_ _ | refine blk_drew ?_ | refine blk_alloc ?_ _)); refine blk_far ?_ NB437_444.out _; (with_reducible repeat (first | refine blk_drewN ?_ _ | refine blk_drew ?_ | refine blk_alloc ?_ _)); refine blk_far ?_ NB437_444.out _; (with_reducible repeat (first | refine blk_drewN ?_ _ | refine blk_drew ?_ | refine blk_alloc ?_ _)); exact BK437.out) hb); have n1_ := Aside0.mk (blk_below (g := gb444) (o := .cells #[.int .i64 t438, .int .i64 t440, .int .i64 t442] 25 (0, 0)) (by (with_reducible repeat (first | refine blk_drewN ?_ _ | refine blk_drew ?_ | refine blk_alloc ?_ _)); refine blk_put (cs := #[.int .i64 t438, .int .i64 t440, .int .i64 0]) ?_ 2 _ rfl; (with_reducible repeat (first | refine blk_drewN ?_ _ | refine blk_drew ?_ | refine blk_alloc ?_ _)); refine blk_put (cs := #[.int .i64 t438, .int .i64 0, .int .i64 0]) ?_ 1 _ rfl; (with_reducible repeat (first | refine blk_drewN ?_ _ | refine blk_drew ?_ | refine blk_alloc ?_ _)); refine blk_put (cs := #[.int .i64 0, .int .i64 0, .int .i64 0]) ?_ 0 _ rfl; (with_reducible repeat (first | refine blk_drewN ?_ _ | refine blk_drew ?_ | refine blk_alloc ?_ _)); exact BK444.out) hb); have n2_ := Aside0.mk (below_step (by repeat (first | (with_reducible first | exact HB.out | apply below_alloc | apply pw_below_drewN | apply below_drew1 | refine below_set ?_ GE437.out | refine below_set ?_ GE444.out) | exact HB.out)) hb); clear BK437; clear BK444; clear HB; have BK437 := n0_; have BK444 := n1_; have HB := n2_; clear n0_ n1_ n2_; (try clear hb); (try clear hb2); (try clear hk); (try clear hi); obtain ⟨hcz32_0, hcz32_1, hcz32_2⟩ := cel3 BK444.out; obtain ⟨hfz32_0, hfz32_1, hfz32_2⟩ := frz3 BK444.out; obtain ⟨hcz33_0, hcz33_1, hcz33_2⟩ := cel3 BK437.out; obtain ⟨hfz33_0, hfz33_1, hfz33_2⟩ := frz3 BK437.out))
                         refine bodyPost_ret (results_ct rfl _ _ gb437 25 #[.int .i64 t438, .int .i64 t440, .int .i64 t442] (0, 0) _ rfl (by (with_reducible repeat (first | refine blk_drewN ?_ _ | refine blk_drew ?_ | refine blk_alloc ?_ _)); refine blk_put (cs := #[.int .i64 t438, .int .i64 t440, .int .i64 0]) ?_ 2 _ rfl; (with_reducible repeat (first | refine blk_drewN ?_ _ | refine blk_drew ?_ | refine blk_alloc ?_ _)); refine blk_put (cs := #[.int .i64 t438, .int .i64 0, .int .i64 0]) ?_ 1 _ rfl; (with_reducible repeat (first | refine blk_drewN ?_ _ | refine blk_drew ?_ | refine blk_alloc ?_ _)); refine blk_put (cs := #[.int .i64 0, .int .i64 0, .int .i64 0]) ?_ 0 _ rfl; (with_reducible repeat (first | refine blk_drewN ?_ _ | refine blk_drew ?_ | refine blk_alloc ?_ _)); exact BK437.out) Try.underlying25 rfl (by kernel_rfl)) rfl ?_
                         exact ⟨by first | rfl | (simp [errW_none, errW_some] <;> rfl) | (simp only [← hji13, ← hji18]; first | rfl | (simp [errW_none, errW_some] <;> rfl)) | (simp [*, errW_none, errW_some] <;> rfl), by repeat (first | (with_reducible first | exact HB.out | apply below_alloc | apply pw_below_drewN | apply below_drew1 | refine below_set ?_ GE437.out | refine below_set ?_ GE444.out) | exact HB.out)⟩
                       · replace c27 := Bool.eq_false_iff.mpr c27
                         subst c27
                         have H1 : (some (0, 0, 0, 10)) = some (r1, r2, r3, r4) := by rw [if_neg (show ¬ (false = true) by decide)] at H; exact H
                         clear H
                         have H := H1
                         clear H1
                         simp only [Option.some.injEq, Prod.mk.injEq] at H
                         obtain ⟨rfl, rfl, rfl, rfl⟩ := H
                         have p11 : 0 ≤ (a1 : Int) := of_decide_eq_true (by first | (with_reducible assumption) | assumption)
                         have q11 : a1 < (a0.size : Int) := of_decide_eq_true (by first | (with_reducible assumption) | assumption)
                         have hx11 := bt_at a0 a1
                         replace p11 := eq_true p11
                         replace q11 := eq_true q11
                         go_wp2_with (first | ((with_reducible refine gate_callee (f := 53) rfl ?_); refine goesL_ (some 33) rfl rfl Try.func53 (by kernel_rfl) rfl #[.int .u8 (bt a0 a1)] rfl (by (try simp only [List.map_toArray, List.map_cons, List.map_nil]); first | done | rfl | (simp only [List.length_drop, List.length_take]; rfl)) ?_; (with_reducible refine (masterdiscref01_FromBCD.calls (bt a0 a1) t438 t439 _ A12.out).mono ?_); rintro e w' ⟨rfl, ⟨nd, rfl⟩⟩; refine ⟨_, rfl, ?_⟩; (try (rw [drewN_self wc]; generalize hq_ : World.drewN wc _ = wc; have n0_ : Aside0 (wc.heap[gb437]? = some (.cells #[.int .i64 0, .int .i64 0, .int .i64 0] 25 (0, 0))) := ⟨by rw [← hq_]; exact (by (with_reducible repeat (first | refine blk_drewN ?_ _ | refine blk_drew ?_ | refine blk_alloc ?_ _)); exact BK437.out)⟩; have n1_ : Aside0 (Below w.heap.size w wc) := ⟨by rw [← hq_]; exact (by repeat (first | (with_reducible first | exact HB.out | apply below_alloc | apply pw_below_drewN | apply below_drew1 | refine below_set ?_ GE437.out) | exact HB.out))⟩; clear BK437 HB hq_; have BK437 := n0_; have HB := n1_; clear n0_ n1_)); have p16 : 0 ≤ ((ji13) : Int) := of_decide_eq_true (by first | (with_reducible assumption) | assumption); have q16 : (ji13) < (a0.size : Int) := of_decide_eq_true (by first | (with_reducible assumption) | assumption); have hx16 := bt_at a0 (ji13); replace p16 := eq_true p16; replace q16 := eq_true q16) | ((with_reducible refine gate_callee (f := 53) rfl ?_); refine goesL_ (some 41) rfl rfl Try.func53 (by kernel_rfl) rfl #[.int .u8 (bt a0 (ji13))] rfl (by (try simp only [List.map_toArray, List.map_cons, List.map_nil]); first | done | (simp only [hji13]; rfl) | rfl | (simp only [List.length_drop, List.length_take]; rfl)) ?_; (with_reducible refine (masterdiscref01_FromBCD.calls (bt a0 (ji13)) t440 t441 _ A17.out).mono ?_); rintro e w' ⟨rfl, ⟨nd, rfl⟩⟩; refine ⟨_, rfl, ?_⟩; (try (rw [drewN_self wc]; generalize hq_ : World.drewN wc _ = wc; have n0_ : Aside0 (wc.heap[gb437]? = some (.cells #[.int .i64 0, .int .i64 0, .int .i64 0] 25 (0, 0))) := ⟨by rw [← hq_]; exact (by (with_reducible repeat (first | refine blk_drewN ?_ _ | refine blk_drew ?_ | refine blk_alloc ?_ _)); exact BK437.out)⟩; have n1_ : Aside0 (Below w.heap.size w wc) := ⟨by rw [← hq_]; exact (by repeat (first | (with_reducible first | exact HB.out | apply below_alloc | apply pw_below_drewN | apply below_drew1 | refine below_set ?_ GE437.out) | exact HB.out))⟩; clear BK437 HB hq_; have BK437 := n0_; have HB := n1_; clear n0_ n1_)); have p21 : 0 ≤ ((ji18) : Int) := of_decide_eq_true (by first | (with_reducible assumption) | assumption); have q21 : (ji18) < (a0.size : Int) := of_decide_eq_true (by first | (with_reducible assumption) | assumption); have hx21 := bt_at a0 (ji18); replace p21 := eq_true p21; replace q21 := eq_true q21) | ((with_reducible refine gate_callee (f := 53) rfl ?_); refine goesL_ (some 49) rfl rfl Try.func53 (by kernel_rfl) rfl #[.int .u8 (bt a0 (ji18))] rfl (by (try simp only [List.map_toArray, List.map_cons, List.map_nil]); first | done | (simp only [hji18]; rfl) | rfl | (simp only [List.length_drop, List.length_take]; rfl)) ?_; (with_reducible refine (masterdiscref01_FromBCD.calls (bt a0 (ji18)) t442 t443 _ A22.out).mono ?_); rintro e w' ⟨rfl, ⟨nd, rfl⟩⟩; refine ⟨_, rfl, ?_⟩; (try (rw [drewN_self wc]; generalize hq_ : World.drewN wc _ = wc; have n0_ : Aside0 (wc.heap[gb437]? = some (.cells #[.int .i64 0, .int .i64 0, .int .i64 0] 25 (0, 0))) := ⟨by rw [← hq_]; exact (by (with_reducible repeat (first | refine blk_drewN ?_ _ | refine blk_drew ?_ | refine blk_alloc ?_ _)); exact BK437.out)⟩; have n1_ : Aside0 (Below w.heap.size w wc) := ⟨by rw [← hq_]; exact (by repeat (first | (with_reducible first | exact HB.out | apply below_alloc | apply pw_below_drewN | apply below_drew1 | refine below_set ?_ GE437.out) | exact HB.out))⟩; clear BK437 HB hq_; have BK437 := n0_; have HB := n1_; clear n0_ n1_))) | ((with_reducible refine gate_dst (N := 12) rfl ?_); (try (refine gate_guard (by rfl) ?_; dsimp only)); refine box_event ?hg (N := 12) ?hd (cs := #[.int .i64 0, .int .i64 0, .int .i64 0]) (t := 25) ?hr ?_; (case hd => rfl); (case hg => rfl); (case hr => first | (go_simp; done) | (go_simp; rfl)); intro gb444 hg w34 hbox hb; have n0_ := Aside0.mk (blk_below (g := gb437) (o := .cells #[.int .i64 0, .int .i64 0, .int .i64 0] 25 (0, 0)) (by (with_reducible repeat (first | refine blk_drewN ?_ _ | refine blk_drew ?_ | refine blk_alloc ?_ _)); exact BK437.out) hb); have n1_ := Aside0.mk (below_step (by repeat (first | (with_reducible first | exact HB.out | apply below_alloc | apply pw_below_drewN | apply below_drew1 | refine below_set ?_ GE437.out) | exact HB.out)) hb); have n2_ := Aside0.mk (hbox); have n3_ := Aside0.mk ((by rw [hg]; exact (below_size (by repeat (first | (with_reducible first | exact HB.out | apply below_alloc | apply pw_below_drewN | apply below_drew1 | refine below_set ?_ GE437.out) | exact HB.out))) : w.heap.size ≤ gb444)); have n4_ := Aside0.mk ((by rw [hg]; exact (below_size (by repeat (first | (with_reducible first | exact HB.out | apply below_alloc | apply pw_below_drewN | apply below_drew1 | refine below_set ?_ GE437.out) | exact HB.out))) : w.heap.size ≤ gb444)); have n5_ := Aside0.mk ((by rw [hg]; exact Nat.ne_of_lt (blk_lt (g := gb437) (o := .cells #[.int .i64 0, .int .i64 0, .int .i64 0] 25 (0, 0)) (by (with_reducible repeat (first | refine blk_drewN ?_ _ | refine blk_drew ?_ | refine blk_alloc ?_ _)); exact BK437.out)) : gb437 ≠ gb444)); have n6_ := Aside0.mk ((by rw [hg]; exact Nat.ne_of_gt (blk_lt (g := gb437) (o := .cells #[.int .i64 0, .int .i64 0, .int .i64 0] 25 (0, 0)) (by (with_reducible repeat (first | refine blk_drewN ?_ _ | refine blk_drew ?_ | refine blk_alloc ?_ _)); exact BK437.out)) : gb444 ≠ gb437)); clear BK437; clear HB; have BK437 := n0_; have HB := n1_; have BK444 := n2_; have GW444 := n3_; have GE444 := n4_; have NB437_444 := n5_; have NB444_437 := n6_; clear n0_ n1_ n2_ n3_ n4_ n5_ n6_; clear hb hbox hg; have hnb35 := NB444_437.out; have hnc35 := NB437_444.out; obtain ⟨hcz36_0, hcz36_1, hcz36_2⟩ := cel3 BK444.out; obtain ⟨hfz36_0, hfz36_1, hfz36_2⟩ := frz3 BK444.out) | (go_at_call 63; (with_reducible refine (masterdiscref06_Valid.calls t438 t440 t442 false _ A26.out).mono ?_); rintro e w37 ⟨rfl, hb⟩; have n0_ := Aside0.mk (blk_below (g := gb437) (o := .cells #[.int .i64 0, .int .i64 0, .int .i64 0] 25 (0, 0)) (by (with_reducible repeat (first | refine blk_drewN ?_ _ | refine blk_drew ?_ | refine blk_alloc ?_ _)); refine blk_far ?_ NB437_444.out _; (with_reducible repeat (first | refine blk_drewN ?_ _ | refine blk_drew ?_ | refine blk_alloc ?_ _)); refine blk_far ?_ NB437_444.out _; (with_reducible repeat (first | refine blk_drewN ?_ _ | refine blk_drew ?_ | refine blk_alloc ?_ _)); refine blk_far ?_ NB437_444.out _; (with_reducible repeat (first | refine blk_drewN ?_ _ | refine blk_drew ?_ | refine blk_alloc ?_ _)); exact BK437.out) hb); have n1_ := Aside0.mk (blk_below (g := gb444) (o := .cells #[.int .i64 t438, .int .i64 t440, .int .i64 t442] 25 (0, 0)) (by (with_reducible repeat (first | refine blk_drewN ?_ _ | refine blk_drew ?_ | refine blk_alloc ?_ _)); refine blk_put (cs := #[.int .i64 t438, .int .i64 t440, .int .i64 0]) ?_ 2 _ rfl; (with_reducible repeat (first | refine blk_drewN ?_ _ | refine blk_drew ?_ | refine blk_alloc ?_ _)); refine blk_put (cs := #[.int .i64 t438, .int .i64 0, .int .i64 0]) ?_ 1 _ rfl; (with_reducible repeat (first | refine blk_drewN ?_ _ | refine blk_drew ?_ | refine blk_alloc ?_ _)); refine blk_put (cs := #[.int .i64 0, .int .i64 0, .int .i64 0]) ?_ 0 _ rfl; (with_reducible repeat (first | refine blk_drewN ?_ _ | refine blk_drew ?_ | refine blk_alloc ?_ _)); exact BK444.out) hb); have n2_ := Aside0.mk (below_step (by repeat (first | (with_reducible first | exact HB.out | apply below_alloc | apply pw_below_drewN | apply below_drew1 | refine below_set ?_ GE437.out | refine below_set ?_ GE444.out) | exact HB.out)) hb); clear BK437; clear BK444; clear HB; have BK437 := n0_; have BK444 := n1_; have HB := n2_; clear n0_ n1_ n2_; (try clear hb); (try clear hb2); (try clear hk); (try clear hi); obtain ⟨hcz38_0, hcz38_1, hcz38_2⟩ := cel3 BK437.out; obtain ⟨hfz38_0, hfz38_1, hfz38_2⟩ := frz3 BK437.out))
                         refine bodyPost_ret (results_ct rfl _ _ gb437 25 #[.int .i64 0, .int .i64 0, .int .i64 0] (0, 0) _ rfl (by (with_reducible repeat (first | refine blk_drewN ?_ _ | refine blk_drew ?_ | refine blk_alloc ?_ _)); refine blk_put (cs := #[.int .i64 0, .int .i64 0, .int .i64 0]) ?_ 2 _ rfl; (with_reducible repeat (first | refine blk_drewN ?_ _ | refine blk_drew ?_ | refine blk_alloc ?_ _)); refine blk_put (cs := #[.int .i64 0, .int .i64 0, .int .i64 0]) ?_ 1 _ rfl; (with_reducible repeat (first | refine blk_drewN ?_ _ | refine blk_drew ?_ | refine blk_alloc ?_ _)); refine blk_put (cs := #[.int .i64 0, .int .i64 0, .int .i64 0]) ?_ 0 _ rfl; (with_reducible repeat (first | refine blk_drewN ?_ _ | refine blk_drew ?_ | refine blk_alloc ?_ _)); exact BK437.out) Try.underlying25 rfl (by kernel_rfl)) rfl ?_
                         exact ⟨by first | rfl | (simp [errW_none, errW_some] <;> rfl) | (simp only [← hji13, ← hji18]; first | rfl | (simp [errW_none, errW_some] <;> rfl)) | (simp [*, errW_none, errW_some] <;> rfl), by repeat (first | (with_reducible first | exact HB.out | apply below_alloc | apply pw_below_drewN | apply below_drew1 | refine below_set ?_ GE437.out | refine below_set ?_ GE444.out) | exact HB.out)⟩
                     · rw [if_neg c25] at H
                       have c25b0 : (t443 == 0) = false := beq_eq_false_iff_ne.mpr c25
                       have c25b1 : (t443 != 0) = true := bne_iff_ne.mpr c25
                       simp only [Option.some.injEq, Prod.mk.injEq] at H
                       obtain ⟨rfl, rfl, rfl, rfl⟩ := H
                       have p11 : 0 ≤ (a1 : Int) := of_decide_eq_true (by first | (with_reducible assumption) | assumption)
                       have q11 : a1 < (a0.size : Int) := of_decide_eq_true (by first | (with_reducible assumption) | assumption)
                       have hx11 := bt_at a0 a1
                       replace p11 := eq_true p11
                       replace q11 := eq_true q11
                       go_wp2_with (first | ((with_reducible refine gate_callee (f := 53) rfl ?_); refine goesL_ (some 33) rfl rfl Try.func53 (by kernel_rfl) rfl #[.int .u8 (bt a0 a1)] rfl (by (try simp only [List.map_toArray, List.map_cons, List.map_nil]); first | done | rfl | (simp only [List.length_drop, List.length_take]; rfl)) ?_; (with_reducible refine (masterdiscref01_FromBCD.calls (bt a0 a1) t438 t439 _ A12.out).mono ?_); rintro e w' ⟨rfl, ⟨nd, rfl⟩⟩; refine ⟨_, rfl, ?_⟩; (try (rw [drewN_self wc]; generalize hq_ : World.drewN wc _ = wc; have n0_ : Aside0 (wc.heap[gb437]? = some (.cells #[.int .i64 0, .int .i64 0, .int .i64 0] 25 (0, 0))) := ⟨by rw [← hq_]; exact (by (with_reducible repeat (first | refine blk_drewN ?_ _ | refine blk_drew ?_ | refine blk_alloc ?_ _)); exact BK437.out)⟩; have n1_ : Aside0 (Below w.heap.size w wc) := ⟨by rw [← hq_]; exact (by repeat (first | (with_reducible first | exact HB.out | apply below_alloc | apply pw_below_drewN | apply below_drew1 | refine below_set ?_ GE437.out) | exact HB.out))⟩; clear BK437 HB hq_; have BK437 := n0_; have HB := n1_; clear n0_ n1_)); have p16 : 0 ≤ ((ji13) : Int) := of_decide_eq_true (by first | (with_reducible assumption) | assumption); have q16 : (ji13) < (a0.size : Int) := of_decide_eq_true (by first | (with_reducible assumption) | assumption); have hx16 := bt_at a0 (ji13); replace p16 := eq_true p16; replace q16 := eq_true q16) | ((with_reducible refine gate_callee (f := 53) rfl ?_); refine goesL_ (some 41) rfl rfl Try.func53 (by kernel_rfl) rfl #[.int .u8 (bt a0 (ji13))] rfl (by (try simp only [List.map_toArray, List.map_cons, List.map_nil]); first | done | (simp only [hji13]; rfl) | rfl | (simp only [List.length_drop, List.length_take]; rfl)) ?_; (with_reducible refine (masterdiscref01_FromBCD.calls (bt a0 (ji13)) t440 t441 _ A17.out).mono ?_); rintro e w' ⟨rfl, ⟨nd, rfl⟩⟩; refine ⟨_, rfl, ?_⟩; (try (rw [drewN_self wc]; generalize hq_ : World.drewN wc _ = wc; have n0_ : Aside0 (wc.heap[gb437]? = some (.cells #[.int .i64 0, .int .i64 0, .int .i64 0] 25 (0, 0))) := ⟨by rw [← hq_]; exact (by (with_reducible repeat (first | refine blk_drewN ?_ _ | refine blk_drew ?_ | refine blk_alloc ?_ _)); exact BK437.out)⟩; have n1_ : Aside0 (Below w.heap.size w wc) := ⟨by rw [← hq_]; exact (by repeat (first | (with_reducible first | exact HB.out | apply below_alloc | apply pw_below_drewN | apply below_drew1 | refine below_set ?_ GE437.out) | exact HB.out))⟩; clear BK437 HB hq_; have BK437 := n0_; have HB := n1_; clear n0_ n1_)); have p21 : 0 ≤ ((ji18) : Int) := of_decide_eq_true (by first | (with_reducible assumption) | assumption); have q21 : (ji18) < (a0.size : Int) := of_decide_eq_true (by first | (with_reducible assumption) | assumption); have hx21 := bt_at a0 (ji18); replace p21 := eq_true p21; replace q21 := eq_true q21) | ((with_reducible refine gate_callee (f := 53) rfl ?_); refine goesL_ (some 49) rfl rfl Try.func53 (by kernel_rfl) rfl #[.int .u8 (bt a0 (ji18))] rfl (by (try simp only [List.map_toArray, List.map_cons, List.map_nil]); first | done | (simp only [hji18]; rfl) | rfl | (simp only [List.length_drop, List.length_take]; rfl)) ?_; (with_reducible refine (masterdiscref01_FromBCD.calls (bt a0 (ji18)) t442 t443 _ A22.out).mono ?_); rintro e w' ⟨rfl, ⟨nd, rfl⟩⟩; refine ⟨_, rfl, ?_⟩; (try (rw [drewN_self wc]; generalize hq_ : World.drewN wc _ = wc; have n0_ : Aside0 (wc.heap[gb437]? = some (.cells #[.int .i64 0, .int .i64 0, .int .i64 0] 25 (0, 0))) := ⟨by rw [← hq_]; exact (by (with_reducible repeat (first | refine blk_drewN ?_ _ | refine blk_drew ?_ | refine blk_alloc ?_ _)); exact BK437.out)⟩; have n1_ : Aside0 (Below w.heap.size w wc) := ⟨by rw [← hq_]; exact (by repeat (first | (with_reducible first | exact HB.out | apply below_alloc | apply pw_below_drewN | apply below_drew1 | refine below_set ?_ GE437.out) | exact HB.out))⟩; clear BK437 HB hq_; have BK437 := n0_; have HB := n1_; clear n0_ n1_))) | ((with_reducible refine gate_dst (N := 12) rfl ?_); (try (refine gate_guard (by rfl) ?_; dsimp only)); refine box_event ?hg (N := 12) ?hd (cs := #[.int .i64 0, .int .i64 0, .int .i64 0]) (t := 25) ?hr ?_; (case hd => rfl); (case hg => rfl); (case hr => first | (go_simp; done) | (go_simp; rfl)); intro gb444 hg w39 hbox hb; have n0_ := Aside0.mk (blk_below (g := gb437) (o := .cells #[.int .i64 0, .int .i64 0, .int .i64 0] 25 (0, 0)) (by (with_reducible repeat (first | refine blk_drewN ?_ _ | refine blk_drew ?_ | refine blk_alloc ?_ _)); exact BK437.out) hb); have n1_ := Aside0.mk (below_step (by repeat (first | (with_reducible first | exact HB.out | apply below_alloc | apply pw_below_drewN | apply below_drew1 | refine below_set ?_ GE437.out) | exact HB.out)) hb); have n2_ := Aside0.mk (hbox); have n3_ := Aside0.mk ((by rw [hg]; exact (below_size (by repeat (first | (with_reducible first | exact HB.out | apply below_alloc | apply pw_below_drewN | apply below_drew1 | refine below_set ?_ GE437.out) | exact HB.out))) : w.heap.size ≤ gb444)); have n4_ := Aside0.mk ((by rw [hg]; exact (below_size (by repeat (first | (with_reducible first | exact HB.out | apply below_alloc | apply pw_below_drewN | apply below_drew1 | refine below_set ?_ GE437.out) | exact HB.out))) : w.heap.size ≤ gb444)); have n5_ := Aside0.mk ((by rw [hg]; exact Nat.ne_of_lt (blk_lt (g := gb437) (o := .cells #[.int .i64 0, .int .i64 0, .int .i64 0] 25 (0, 0)) (by (with_reducible repeat (first | refine blk_drewN ?_ _ | refine blk_drew ?_ | refine blk_alloc ?_ _)); exact BK437.out)) : gb437 ≠ gb444)); have n6_ := Aside0.mk ((by rw [hg]; exact Nat.ne_of_gt (blk_lt (g := gb437) (o := .cells #[.int .i64 0, .int .i64 0, .int .i64 0] 25 (0, 0)) (by (with_reducible repeat (first | refine blk_drewN ?_ _ | refine blk_drew ?_ | refine blk_alloc ?_ _)); exact BK437.out)) : gb444 ≠ gb437)); clear BK437; clear HB; have BK437 := n0_; have HB := n1_; have BK444 := n2_; have GW444 := n3_; have GE444 := n4_; have NB437_444 := n5_; have NB444_437 := n6_; clear n0_ n1_ n2_ n3_ n4_ n5_ n6_; clear hb hbox hg; have hnb40 := NB444_437.out; have hnc40 := NB437_444.out; obtain ⟨hcz41_0, hcz41_1, hcz41_2⟩ := cel3 BK444.out; obtain ⟨hfz41_0, hfz41_1, hfz41_2⟩ := frz3 BK444.out; obtain ⟨hcz42_0, hcz42_1, hcz42_2⟩ := cel3 BK437.out; obtain ⟨hfz42_0, hfz42_1, hfz42_2⟩ := frz3 BK437.out))
                       refine bodyPost_ret (results_ct rfl _ _ gb437 25 #[.int .i64 0, .int .i64 0, .int .i64 0] (0, 0) _ rfl (by (with_reducible repeat (first | refine blk_drewN ?_ _ | refine blk_drew ?_ | refine blk_alloc ?_ _)); refine blk_put (cs := #[.int .i64 0, .int .i64 0, .int .i64 0]) ?_ 2 _ rfl; (with_reducible repeat (first | refine blk_drewN ?_ _ | refine blk_drew ?_ | refine blk_alloc ?_ _)); refine blk_put (cs := #[.int .i64 0, .int .i64 0, .int .i64 0]) ?_ 1 _ rfl; (with_reducible repeat (first | refine blk_drewN ?_ _ | refine blk_drew ?_ | refine blk_alloc ?_ _)); refine blk_put (cs := #[.int .i64 0, .int .i64 0, .int .i64 0]) ?_ 0 _ rfl; (with_reducible repeat (first | refine blk_drewN ?_ _ | refine blk_drew ?_ | refine blk_alloc ?_ _)); refine blk_far ?_ NB437_444.out _; (with_reducible repeat (first | refine blk_drewN ?_ _ | refine blk_drew ?_ | refine blk_alloc ?_ _)); refine blk_far ?_ NB437_444.out _; (with_reducible repeat (first | refine blk_drewN ?_ _ | refine blk_drew ?_ | refine blk_alloc ?_ _)); refine blk_far ?_ NB437_444.out _; (with_reducible repeat (first | refine blk_drewN ?_ _ | refine blk_drew ?_ | refine blk_alloc ?_ _)); exact BK437.out) Try.underlying25 rfl (by kernel_rfl)) rfl ?_
                       exact ⟨by first | rfl | (simp [errW_none, errW_some] <;> rfl) | (simp only [← hji13, ← hji18]; first | rfl | (simp [errW_none, errW_some] <;> rfl)) | (simp [*, errW_none, errW_some] <;> rfl), by repeat (first | (with_reducible first | exact HB.out | apply below_alloc | apply pw_below_drewN | apply below_drew1 | refine below_set ?_ GE437.out | refine below_set ?_ GE444.out) | exact HB.out)⟩
                   · rw [if_neg c24] at H
                     have c24b0 : (t441 == 0) = false := beq_eq_false_iff_ne.mpr c24
                     have c24b1 : (t441 != 0) = true := bne_iff_ne.mpr c24
                     simp only [Option.some.injEq, Prod.mk.injEq] at H
                     obtain ⟨rfl, rfl, rfl, rfl⟩ := H
                     have p11 : 0 ≤ (a1 : Int) := of_decide_eq_true (by first | (with_reducible assumption) | assumption)
                     have q11 : a1 < (a0.size : Int) := of_decide_eq_true (by first | (with_reducible assumption) | assumption)
                     have hx11 := bt_at a0 a1
                     replace p11 := eq_true p11
                     replace q11 := eq_true q11
                     go_wp2_with (first | ((with_reducible refine gate_callee (f := 53) rfl ?_); refine goesL_ (some 33) rfl rfl Try.func53 (by kernel_rfl) rfl #[.int .u8 (bt a0 a1)] rfl (by (try simp only [List.map_toArray, List.map_cons, List.map_nil]); first | done | rfl | (simp only [List.length_drop, List.length_take]; rfl)) ?_; (with_reducible refine (masterdiscref01_FromBCD.calls (bt a0 a1) t438 t439 _ A12.out).mono ?_); rintro e w' ⟨rfl, ⟨nd, rfl⟩⟩; refine ⟨_, rfl, ?_⟩; (try (rw [drewN_self wc]; generalize hq_ : World.drewN wc _ = wc; have n0_ : Aside0 (wc.heap[gb437]? = some (.cells #[.int .i64 0, .int .i64 0, .int .i64 0] 25 (0, 0))) := ⟨by rw [← hq_]; exact (by (with_reducible repeat (first | refine blk_drewN ?_ _ | refine blk_drew ?_ | refine blk_alloc ?_ _)); exact BK437.out)⟩; have n1_ : Aside0 (Below w.heap.size w wc) := ⟨by rw [← hq_]; exact (by repeat (first | (with_reducible first | exact HB.out | apply below_alloc | apply pw_below_drewN | apply below_drew1 | refine below_set ?_ GE437.out) | exact HB.out))⟩; clear BK437 HB hq_; have BK437 := n0_; have HB := n1_; clear n0_ n1_)); have p16 : 0 ≤ ((ji13) : Int) := of_decide_eq_true (by first | (with_reducible assumption) | assumption); have q16 : (ji13) < (a0.size : Int) := of_decide_eq_true (by first | (with_reducible assumption) | assumption); have hx16 := bt_at a0 (ji13); replace p16 := eq_true p16; replace q16 := eq_true q16) | ((with_reducible refine gate_callee (f := 53) rfl ?_); refine goesL_ (some 41) rfl rfl Try.func53 (by kernel_rfl) rfl #[.int .u8 (bt a0 (ji13))] rfl (by (try simp only [List.map_toArray, List.map_cons, List.map_nil]); first | done | (simp only [hji13]; rfl) | rfl | (simp only [List.length_drop, List.length_take]; rfl)) ?_; (with_reducible refine (masterdiscref01_FromBCD.calls (bt a0 (ji13)) t440 t441 _ A17.out).mono ?_); rintro e w' ⟨rfl, ⟨nd, rfl⟩⟩; refine ⟨_, rfl, ?_⟩; (try (rw [drewN_self wc]; generalize hq_ : World.drewN wc _ = wc; have n0_ : Aside0 (wc.heap[gb437]? = some (.cells #[.int .i64 0, .int .i64 0, .int .i64 0] 25 (0, 0))) := ⟨by rw [← hq_]; exact (by (with_reducible repeat (first | refine blk_drewN ?_ _ | refine blk_drew ?_ | refine blk_alloc ?_ _)); exact BK437.out)⟩; have n1_ : Aside0 (Below w.heap.size w wc) := ⟨by rw [← hq_]; exact (by repeat (first | (with_reducible first | exact HB.out | apply below_alloc | apply pw_below_drewN | apply below_drew1 | refine below_set ?_ GE437.out) | exact HB.out))⟩; clear BK437 HB hq_; have BK437 := n0_; have HB := n1_; clear n0_ n1_)); have p21 : 0 ≤ ((ji18) : Int) := of_decide_eq_true (by first | (with_reducible assumption) | assumption); have q21 : (ji18) < (a0.size : Int) := of_decide_eq_true (by first | (with_reducible assumption) | assumption); have hx21 := bt_at a0 (ji18); replace p21 := eq_true p21; replace q21 := eq_true q21) | ((with_reducible refine gate_callee (f := 53) rfl ?_); refine goesL_ (some 49) rfl rfl Try.func53 (by kernel_rfl) rfl #[.int .u8 (bt a0 (ji18))] rfl (by (try simp only [List.map_toArray, List.map_cons, List.map_nil]); first | done | (simp only [hji18]; rfl) | rfl | (simp only [List.length_drop, List.length_take]; rfl)) ?_; (with_reducible refine (masterdiscref01_FromBCD.calls (bt a0 (ji18)) t442 t443 _ A22.out).mono ?_); rintro e w' ⟨rfl, ⟨nd, rfl⟩⟩; refine ⟨_, rfl, ?_⟩; (try (rw [drewN_self wc]; generalize hq_ : World.drewN wc _ = wc; have n0_ : Aside0 (wc.heap[gb437]? = some (.cells #[.int .i64 0, .int .i64 0, .int .i64 0] 25 (0, 0))) := ⟨by rw [← hq_]; exact (by (with_reducible repeat (first | refine blk_drewN ?_ _ | refine blk_drew ?_ | refine blk_alloc ?_ _)); exact BK437.out)⟩; have n1_ : Aside0 (Below w.heap.size w wc) := ⟨by rw [← hq_]; exact (by repeat (first | (with_reducible first | exact HB.out | apply below_alloc | apply pw_below_drewN | apply below_drew1 | refine below_set ?_ GE437.out) | exact HB.out))⟩; clear BK437 HB hq_; have BK437 := n0_; have HB := n1_; clear n0_ n1_))) | ((with_reducible refine gate_dst (N := 12) rfl ?_); (try (refine gate_guard (by rfl) ?_; dsimp only)); refine box_event ?hg (N := 12) ?hd (cs := #[.int .i64 0, .int .i64 0, .int .i64 0]) (t := 25) ?hr ?_; (case hd => rfl); (case hg => rfl); (case hr => first | (go_simp; done) | (go_simp; rfl)); intro gb444 hg w43 hbox hb; have n0_ := Aside0.mk (blk_below (g := gb437) (o := .cells #[.int .i64 0, .int .i64 0, .int .i64 0] 25 (0, 0)) (by (with_reducible repeat (first | refine blk_drewN ?_ _ | refine blk_drew ?_ | refine blk_alloc ?_ _)); exact BK437.out) hb); have n1_ := Aside0.mk (below_step (by repeat (first | (with_reducible first | exact HB.out | apply below_alloc | apply pw_below_drewN | apply below_drew1 | refine below_set ?_ GE437.out) | exact HB.out)) hb); have n2_ := Aside0.mk (hbox); have n3_ := Aside0.mk ((by rw [hg]; exact (below_size (by repeat (first | (with_reducible first | exact HB.out | apply below_alloc | apply pw_below_drewN | apply below_drew1 | refine below_set ?_ GE437.out) | exact HB.out))) : w.heap.size ≤ gb444)); have n4_ := Aside0.mk ((by rw [hg]; exact (below_size (by repeat (first | (with_reducible first | exact HB.out | apply below_alloc | apply pw_below_drewN | apply below_drew1 | refine below_set ?_ GE437.out) | exact HB.out))) : w.heap.size ≤ gb444)); have n5_ := Aside0.mk ((by rw [hg]; exact Nat.ne_of_lt (blk_lt (g := gb437) (o := .cells #[.int .i64 0, .int .i64 0, .int .i64 0] 25 (0, 0)) (by (with_reducible repeat (first | refine blk_drewN ?_ _ | refine blk_drew ?_ | refine blk_alloc ?_ _)); exact BK437.out)) : gb437 ≠ gb444)); have n6_ := Aside0.mk ((by rw [hg]; exact Nat.ne_of_gt (blk_lt (g := gb437) (o := .cells #[.int .i64 0, .int .i64 0, .int .i64 0] 25 (0, 0)) (by (with_reducible repeat (first | refine blk_drewN ?_ _ | refine blk_drew ?_ | refine blk_alloc ?_ _)); exact BK437.out)) : gb444 ≠ gb437)); clear BK437; clear HB; have BK437 := n0_; have HB := n1_; have BK444 := n2_; have GW444 := n3_; have GE444 := n4_; have NB437_444 := n5_; have NB444_437 := n6_; clear n0_ n1_ n2_ n3_ n4_ n5_ n6_; clear hb hbox hg; have hnb44 := NB444_437.out; have hnc44 := NB437_444.out; obtain ⟨hcz45_0, hcz45_1, hcz45_2⟩ := cel3 BK444.out; obtain ⟨hfz45_0, hfz45_1, hfz45_2⟩ := frz3 BK444.out; obtain ⟨hcz46_0, hcz46_1, hcz46_2⟩ := cel3 BK437.out; obtain ⟨hfz46_0, hfz46_1, hfz46_2⟩ := frz3 BK437.out))
                     refine bodyPost_ret (results_ct rfl _ _ gb437 25 #[.int .i64 0, .int .i64 0, .int .i64 0] (0, 0) _ rfl (by (with_reducible repeat (first | refine blk_drewN ?_ _ | refine blk_drew ?_ | refine blk_alloc ?_ _)); refine blk_put (cs := #[.int .i64 0, .int .i64 0, .int .i64 0]) ?_ 2 _ rfl; (with_reducible repeat (first | refine blk_drewN ?_ _ | refine blk_drew ?_ | refine blk_alloc ?_ _)); refine blk_put (cs := #[.int .i64 0, .int .i64 0, .int .i64 0]) ?_ 1 _ rfl; (with_reducible repeat (first | refine blk_drewN ?_ _ | refine blk_drew ?_ | refine blk_alloc ?_ _)); refine blk_put (cs := #[.int .i64 0, .int .i64 0, .int .i64 0]) ?_ 0 _ rfl; (with_reducible repeat (first | refine blk_drewN ?_ _ | refine blk_drew ?_ | refine blk_alloc ?_ _)); refine blk_far ?_ NB437_444.out _; (with_reducible repeat (first | refine blk_drewN ?_ _ | refine blk_drew ?_ | refine blk_alloc ?_ _)); refine blk_far ?_ NB437_444.out _; (with_reducible repeat (first | refine blk_drewN ?_ _ | refine blk_drew ?_ | refine blk_alloc ?_ _)); refine blk_far ?_ NB437_444.out _; (with_reducible repeat (first | refine blk_drewN ?_ _ | refine blk_drew ?_ | refine blk_alloc ?_ _)); exact BK437.out) Try.underlying25 rfl (by kernel_rfl)) rfl ?_
                     exact ⟨by first | rfl | (simp [errW_none, errW_some] <;> rfl) | (simp only [← hji13, ← hji18]; first | rfl | (simp [errW_none, errW_some] <;> rfl)) | (simp [*, errW_none, errW_some] <;> rfl), by repeat (first | (with_reducible first | exact HB.out | apply below_alloc | apply pw_below_drewN | apply below_drew1 | refine below_set ?_ GE437.out | refine below_set ?_ GE444.out) | exact HB.out)⟩
                 · rw [if_neg c23] at H
                   have c23b0 : (t439 == 0) = false := beq_eq_false_iff_ne.mpr c23
                   have c23b1 : (t439 != 0) = true := bne_iff_ne.mpr c23
                   simp only [Option.some.injEq, Prod.mk.injEq] at H
                   obtain ⟨rfl, rfl, rfl, rfl⟩ := H
                   have p11 : 0 ≤ (a1 : Int) := of_decide_eq_true (by first | (with_reducible assumption) | assumption)
                   have q11 : a1 < (a0.size : Int) := of_decide_eq_true (by first | (with_reducible assumption) | assumption)
                   have hx11 := bt_at a0 a1
                   replace p11 := eq_true p11
                   replace q11 := eq_true q11
                   go_wp2_with (first | ((with_reducible refine gate_callee (f := 53) rfl ?_); refine goesL_ (some 33) rfl rfl Try.func53 (by kernel_rfl) rfl #[.int .u8 (bt a0 a1)] rfl (by (try simp only [List.map_toArray, List.map_cons, List.map_nil]); first | done | rfl | (simp only [List.length_drop, List.length_take]; rfl)) ?_; (with_reducible refine (masterdiscref01_FromBCD.calls (bt a0 a1) t438 t439 _ A12.out).mono ?_); rintro e w' ⟨rfl, ⟨nd, rfl⟩⟩; refine ⟨_, rfl, ?_⟩; (try (rw [drewN_self wc]; generalize hq_ : World.drewN wc _ = wc; have n0_ : Aside0 (wc.heap[gb437]? = some (.cells #[.int .i64 0, .int .i64 0, .int .i64 0] 25 (0, 0))) := ⟨by rw [← hq_]; exact (by (with_reducible repeat (first | refine blk_drewN ?_ _ | refine blk_drew ?_ | refine blk_alloc ?_ _)); exact BK437.out)⟩; have n1_ : Aside0 (Below w.heap.size w wc) := ⟨by rw [← hq_]; exact (by repeat (first | (with_reducible first | exact HB.out | apply below_alloc | apply pw_below_drewN | apply below_drew1 | refine below_set ?_ GE437.out) | exact HB.out))⟩; clear BK437 HB hq_; have BK437 := n0_; have HB := n1_; clear n0_ n1_)); have p16 : 0 ≤ ((ji13) : Int) := of_decide_eq_true (by first | (with_reducible assumption) | assumption); have q16 : (ji13) < (a0.size : Int) := of_decide_eq_true (by first | (with_reducible assumption) | assumption); have hx16 := bt_at a0 (ji13); replace p16 := eq_true p16; replace q16 := eq_true q16) | ((with_reducible refine gate_callee (f := 53) rfl ?_); refine goesL_ (some 41) rfl rfl Try.func53 (by kernel_rfl) rfl #[.int .u8 (bt a0 (ji13))] rfl (by (try simp only [List.map_toArray, List.map_cons, List.map_nil]); first | done | (simp only [hji13]; rfl) | rfl | (simp only [List.length_drop, List.length_take]; rfl)) ?_; (with_reducible refine (masterdiscref01_FromBCD.calls (bt a0 (ji13)) t440 t441 _ A17.out).mono ?_); rintro e w' ⟨rfl, ⟨nd, rfl⟩⟩; refine ⟨_, rfl, ?_⟩; (try (rw [drewN_self wc]; generalize hq_ : World.drewN wc _ = wc; have n0_ : Aside0 (wc.heap[gb437]? = some (.cells #[.int .i64 0, .int .i64 0, .int .i64 0] 25 (0, 0))) := ⟨by rw [← hq_]; exact (by (with_reducible repeat (first | refine blk_drewN ?_ _ | refine blk_drew ?_ | refine blk_alloc ?_ _)); exact BK437.out)⟩; have n1_ : Aside0 (Below w.heap.size w wc) := ⟨by rw [← hq_]; exact (by repeat (first | (with_reducible first | exact HB.out | apply below_alloc | apply pw_below_drewN | apply below_drew1 | refine below_set ?_ GE437.out) | exact HB.out))⟩; clear BK437 HB hq_; have BK437 := n0_; have HB := n1_; clear n0_ n1_)); have p21 : 0 ≤ ((ji18) : Int) := of_decide_eq_true (by first | (with_reducible assumption) | assumption); have q21 : (ji18) < (a0.size : Int) := of_decide_eq_true (by first | (with_reducible assumption) | assumption); have hx21 := bt_at a0 (ji18); replace p21 := eq_true p21; replace q21 := eq_true q21) | ((with_reducible refine gate_callee (f := 53) rfl ?_); refine goesL_ (some 49) rfl rfl Try.func53 (by kernel_rfl) rfl #[.int .u8 (bt a0 (ji18))] rfl (by (try simp only [List.map_toArray, List.map_cons, List.map_nil]); first | done | (simp only [hji18]; rfl) | rfl | (simp only [List.length_drop, List.length_take]; rfl)) ?_; (with_reducible refine (masterdiscref01_FromBCD.calls (bt a0 (ji18)) t442 t443 _ A22.out).mono ?_); rintro e w' ⟨rfl, ⟨nd, rfl⟩⟩; refine ⟨_, rfl, ?_⟩; (try (rw [drewN_self wc]; generalize hq_ : World.drewN wc _ = wc; have n0_ : Aside0 (wc.heap[gb437]? = some (.cells #[.int .i64 0, .int .i64 0, .int .i64 0] 25 (0, 0))) := ⟨by rw [← hq_]; exact (by (with_reducible repeat (first | refine blk_drewN ?_ _ | refine blk_drew ?_ | refine blk_alloc ?_ _)); exact BK437.out)⟩; have n1_ : Aside0 (Below w.heap.size w wc) := ⟨by rw [← hq_]; exact (by repeat (first | (with_reducible first | exact HB.out | apply below_alloc | apply pw_below_drewN | apply below_drew1 | refine below_set ?_ GE437.out) | exact HB.out))⟩; clear BK437 HB hq_; have BK437 := n0_; have HB := n1_; clear n0_ n1_))) | ((with_reducible refine gate_dst (N := 12) rfl ?_); (try (refine gate_guard (by rfl) ?_; dsimp only)); refine box_event ?hg (N := 12) ?hd (cs := #[.int .i64 0, .int .i64 0, .int .i64 0]) (t := 25) ?hr ?_; (case hd => rfl); (case hg => rfl); (case hr => first | (go_simp; done) | (go_simp; rfl)); intro gb444 hg w47 hbox hb; have n0_ := Aside0.mk (blk_below (g := gb437) (o := .cells #[.int .i64 0, .int .i64 0, .int .i64 0] 25 (0, 0)) (by (with_reducible repeat (first | refine blk_drewN ?_ _ | refine blk_drew ?_ | refine blk_alloc ?_ _)); exact BK437.out) hb); have n1_ := Aside0.mk (below_step (by repeat (first | (with_reducible first | exact HB.out | apply below_alloc | apply pw_below_drewN | apply below_drew1 | refine below_set ?_ GE437.out) | exact HB.out)) hb); have n2_ := Aside0.mk (hbox); have n3_ := Aside0.mk ((by rw [hg]; exact (below_size (by repeat (first | (with_reducible first | exact HB.out | apply below_alloc | apply pw_below_drewN | apply below_drew1 | refine below_set ?_ GE437.out) | exact HB.out))) : w.heap.size ≤ gb444)); have n4_ := Aside0.mk ((by rw [hg]; exact (below_size (by repeat (first | (with_reducible first | exact HB.out | apply below_alloc | apply pw_below_drewN | apply below_drew1 | refine below_set ?_ GE437.out) | exact HB.out))) : w.heap.size ≤ gb444)); have n5_ := Aside0.mk ((by rw [hg]; exact Nat.ne_of_lt (blk_lt (g := gb437) (o := .cells #[.int .i64 0, .int .i64 0, .int .i64 0] 25 (0, 0)) (by (with_reducible repeat (first | refine blk_drewN ?_ _ | refine blk_drew ?_ | refine blk_alloc ?_ _)); exact BK437.out)) : gb437 ≠ gb444)); have n6_ := Aside0.mk ((by rw [hg]; exact Nat.ne_of_gt (blk_lt (g := gb437) (o := .cells #[.int .i64 0, .int .i64 0, .int .i64 0] 25 (0, 0)) (by (with_reducible repeat (first | refine blk_drewN ?_ _ | refine blk_drew ?_ | refine blk_alloc ?_ _)); exact BK437.out)) : gb444 ≠ gb437)); clear BK437; clear HB; have BK437 := n0_; have HB := n1_; have BK444 := n2_; have GW444 := n3_; have GE444 := n4_; have NB437_444 := n5_; have NB444_437 := n6_; clear n0_ n1_ n2_ n3_ n4_ n5_ n6_; clear hb hbox hg; have hnb48 := NB444_437.out; have hnc48 := NB437_444.out; obtain ⟨hcz49_0, hcz49_1, hcz49_2⟩ := cel3 BK444.out; obtain ⟨hfz49_0, hfz49_1, hfz49_2⟩ := frz3 BK444.out; obtain ⟨hcz50_0, hcz50_1, hcz50_2⟩ := cel3 BK437.out; obtain ⟨hfz50_0, hfz50_1, hfz50_2⟩ := frz3 BK437.out))
                   refine bodyPost_ret (results_ct rfl _ _ gb437 25 #[.int .i64 0, .int .i64 0, .int .i64 0] (0, 0) _ rfl (by (with_reducible repeat (first | refine blk_drewN ?_ _ | refine blk_drew ?_ | refine blk_alloc ?_ _)); refine blk_put (cs := #[.int .i64 0, .int .i64 0, .int .i64 0]) ?_ 2 _ rfl; (with_reducible repeat (first | refine blk_drewN ?_ _ | refine blk_drew ?_ | refine blk_alloc ?_ _)); refine blk_put (cs := #[.int .i64 0, .int .i64 0, .int .i64 0]) ?_ 1 _ rfl; (with_reducible repeat (first | refine blk_drewN ?_ _ | refine blk_drew ?_ | refine blk_alloc ?_ _)); refine blk_put (cs := #[.int .i64 0, .int .i64 0, .int .i64 0]) ?_ 0 _ rfl; (with_reducible repeat (first | refine blk_drewN ?_ _ | refine blk_drew ?_ | refine blk_alloc ?_ _)); refine blk_far ?_ NB437_444.out _; (with_reducible repeat (first | refine blk_drewN ?_ _ | refine blk_drew ?_ | refine blk_alloc ?_ _)); refine blk_far ?_ NB437_444.out _; (with_reducible repeat (first | refine blk_drewN ?_ _ | refine blk_drew ?_ | refine blk_alloc ?_ _)); refine blk_far ?_ NB437_444.out _; (with_reducible repeat (first | refine blk_drewN ?_ _ | refine blk_drew ?_ | refine blk_alloc ?_ _)); exact BK437.out) Try.underlying25 rfl (by kernel_rfl)) rfl ?_
                   exact ⟨by first | rfl | (simp [errW_none, errW_some] <;> rfl) | (simp only [← hji13, ← hji18]; first | rfl | (simp [errW_none, errW_some] <;> rfl)) | (simp [*, errW_none, errW_some] <;> rfl), by repeat (first | (with_reducible first | exact HB.out | apply below_alloc | apply pw_below_drewN | apply below_drew1 | refine below_set ?_ GE437.out | refine below_set ?_ GE444.out) | exact HB.out)⟩
               · rw [if_neg c20] at H
                 exact absurd H (by simp)
             · rw [if_neg c19] at H
               exact absurd H (by simp)
           · rw [if_neg c15] at H
             exact absurd H (by simp)
         · rw [if_neg c14] at H
           exact absurd H (by simp)
       · rw [if_neg c10] at H
         exact absurd H (by simp)
     · rw [if_neg c9] at H
       exact absurd H (by simp)
end Go.Proofs.Ytpmkibggmkibeaa.G
namespace Go.Proofs.Ytpmkibggmkibeaa.G
open Go.RowKit Go.Proofs.YtpmkibggmkibeaaW.PrintWords Go.Proofs.YtpmkibggmkibeaaW.PrintLast Go.Proofs.YtpmkibggmkibeaaW.PrintMore
attribute [local go_sem] max2_int min2_int max_two min_two max_three min_three max_four min_four   -- for this text's walks alone
set_option linter.unusedVariables false
set_option linter.unusedSimpArgs false
mutual
def masterdiscref10_Decode.j0 : Nat → ByteArray → Bool → Int → Int → Int → Int → Int → Int → Option (Int × Int × Int × Int × Int × Int × Int × Int × Int × Int)
 | 0, _, _, _, _, _, _, _, _ => none
 | k + 1, x0, x50, x453000, x453001, x453002, x458000, x458001, x458002 => if x50 = true then (some (0, 0, 0, 0, 0, 0, 0, 0, 0, 10)) else (if 0 < (x0.size : Int) then (if 1 < (x0.size : Int) then ((masterdiscref01_FromBCD.f (bt x0 1)).bind fun bt459 => (if bt459.2 = 0 then (masterdiscref10_Decode.j1 k x0 bt459.1 (wrap64 ((Int.tdiv (bt x0 0) 16) % 256)) 0 0 x453000 x453001 x453002 x458000 x458001 x458002) else (masterdiscref10_Decode.j1 k x0 (wrap64 (bt x0 1)) (wrap64 ((Int.tdiv (bt x0 0) 16) % 256)) 0 0 x453000 x453001 x453002 x458000 x458001 x458002))) else (none)) else (none))
def masterdiscref10_Decode.j1 : Nat → ByteArray → Int → Int → Int → Int → Int → Int → Int → Int → Int → Int → Option (Int × Int × Int × Int × Int × Int × Int × Int × Int × Int)
 | 0, _, _, _, _, _, _, _, _, _, _, _ => none
 | k + 1, x0, x9, x459000, x459001, x459002, x459003, x459004, x459005, x459006, x459007, x459008 => if 2 < (x0.size : Int) then ((masterdiscref01_FromBCD.f (bt x0 2)).bind fun bt461 => (if bt461.2 = 0 then (masterdiscref10_Decode.j2 k x0 x9 bt461.1 x459000 x459001 x459002 x459003 x459004 x459005 x459006 x459007 x459008) else (masterdiscref10_Decode.j2 k x0 x9 (wrap64 (bt x0 2)) x459000 x459001 x459002 x459003 x459004 x459005 x459006 x459007 x459008))) else (none)
def masterdiscref10_Decode.j2 : Nat → ByteArray → Int → Int → Int → Int → Int → Int → Int → Int → Int → Int → Int → Option (Int × Int × Int × Int × Int × Int × Int × Int × Int × Int)
 | 0, _, _, _, _, _, _, _, _, _, _, _, _ => none
 | k + 1, x0, x9, x10, x459000, x459001, x459002, x459003, x459004, x459005, x459006, x459007, x459008 => (masterdiscref10_Encode.f k x459000 x9 x10 x459003 x459004 x459005 x459006 x459007 x459008).bind fun bt463 => (if bt463.2 = 0 then (masterdiscref10_Decode.j3 k (bt463.1.toList != x0.toList) x459000 x9 x10 x459003 x459004 x459005 x459006 x459007 x459008) else (masterdiscref10_Decode.j3 k true x459000 x9 x10 x459003 x459004 x459005 x459006 x459007 x459008))
def masterdiscref10_Decode.j3 : Nat → Bool → Int → Int → Int → Int → Int → Int → Int → Int → Int → Option (Int × Int × Int × Int × Int × Int × Int × Int × Int × Int)
 | 0, _, _, _, _, _, _, _, _, _, _ => none
 | k + 1, x96, x459000, x459001, x459002, x459003, x459004, x459005, x459006, x459007, x459008 => if x96 = true then (some (0, 0, 0, 0, 0, 0, 0, 0, 0, 10)) else (some (x459000, x459001, x459002, x459003, x459004, x459005, x459006, x459007, x459008, 0))
end
def masterdiscref10_Decode.f (k : Nat) (a0 : ByteArray) : Option (Int × Int × Int × Int × Int × Int × Int × Int × Int × Int) := if (a0.size : Int) = 12 then (if 10 ≤ (a0.size : Int) then (if 0 ≤ 10 then ((masterdiscref10_check.f k (a0.extract 0 10)).bind fun t447 => (if (a0.extract 10 a0.size).toList = t447.toList then ((masterdiscref06_Decode.f k a0 3).bind fun bt448 => ((masterdiscref06_Decode.f k a0 7).bind fun bt453 => (if bt448.2.2.2 = 0 then (if bt453.2.2.2 = 0 then (if 6 < (a0.size : Int) then (if (bt a0 6) = 0 then (if 0 < (a0.size : Int) then (masterdiscref10_Decode.j0 k a0 ((Int.tmod (bt a0 0) 16) != 1) bt448.1 bt448.2.1 bt448.2.2.1 bt453.1 bt453.2.1 bt453.2.2.1) else (none)) else (masterdiscref10_Decode.j0 k a0 true bt448.1 bt448.2.1 bt448.2.2.1 bt453.1 bt453.2.1 bt453.2.2.1)) else (none)) else (masterdiscref10_Decode.j0 k a0 true bt448.1 bt448.2.1 bt448.2.2.1 bt453.1 bt453.2.1 bt453.2.2.1)) else (masterdiscref10_Decode.j0 k a0 true bt448.1 bt448.2.1 bt448.2.2.1 bt453.1 bt453.2.1 bt453.2.2.1)))) else (some (0, 0, 0, 0, 0, 0, 0, 0, 0, 9)))) else (none)) else (none)) else (some (0, 0, 0, 0, 0, 0, 0, 0, 0, 1))
theorem masterdiscref10_Decode.mono_l : ∀ k, (∀ y0 y1 y2 y3 y4 y5 y6 y7, LeO (masterdiscref10_Decode.j0 k y0 y1 y2 y3 y4 y5 y6 y7) (masterdiscref10_Decode.j0 (k + 1) y0 y1 y2 y3 y4 y5 y6 y7)) ∧ (∀ y0 y1 y2 y3 y4 y5 y6 y7 y8 y9 y10, LeO (masterdiscref10_Decode.j1 k y0 y1 y2 y3 y4 y5 y6 y7 y8 y9 y10) (masterdiscref10_Decode.j1 (k + 1) y0 y1 y2 y3 y4 y5 y6 y7 y8 y9 y10)) ∧ (∀ y0 y1 y2 y3 y4 y5 y6 y7 y8 y9 y10 y11, LeO (masterdiscref10_Decode.j2 k y0 y1 y2 y3 y4 y5 y6 y7 y8 y9 y10 y11) (masterdiscref10_Decode.j2 (k + 1) y0 y1 y2 y3 y4 y5 y6 y7 y8 y9 y10 y11)) ∧ (∀ y0 y1 y2 y3 y4 y5 y6 y7 y8 y9, LeO (masterdiscref10_Decode.j3 k y0 y1 y2 y3 y4 y5 y6 y7 y8 y9) (masterdiscref10_Decode.j3 (k + 1) y0 y1 y2 y3 y4 y5 y6 y7 y8 y9))
 | 0 => ⟨fun _ _ _ _ _ _ _ _ r h => by simp [masterdiscref10_Decode.j0] at h, fun _ _ _ _ _ _ _ _ _ _ _ r h => by simp [masterdiscref10_Decode.j1] at h, fun _ _ _ _ _ _ _ _ _ _ _ _ r h => by simp [masterdiscref10_Decode.j2] at h, fun _ _ _ _ _ _ _ _ _ _ r h => by simp [masterdiscref10_Decode.j3] at h⟩
 | k + 1 => by
  obtain ⟨ih0, ih1, ih2, ih3⟩ := masterdiscref10_Decode.mono_l k
  refine ⟨?_, ?_, ?_, ?_⟩
  · intro y0 y1 y2 y3 y4 y5 y6 y7
    unfold masterdiscref10_Decode.j0
    repeat' first
    | (with_reducible exact ih0 _ _ _ _ _ _ _ _)
    | (with_reducible exact ih1 _ _ _ _ _ _ _ _ _ _ _)
    | (with_reducible exact ih2 _ _ _ _ _ _ _ _ _ _ _ _)
    | (with_reducible exact ih3 _ _ _ _ _ _ _ _ _ _)
    | (with_reducible exact masterdiscref06_Decode.mono _ _ _)
    | (with_reducible exact masterdiscref10_Encode.mono _ _ _ _ _ _ _ _ _ _)
    | (with_reducible exact masterdiscref10_check.mono _ _)
    | (with_reducible exact LeO.refl _)
    | (with_reducible exact LeO.none _)
    | (with_reducible refine LeO.ite ?_ ?_)
    | (with_reducible refine LeO.bind ?_ (fun _ => ?_))
    | exact ih0 _ _ _ _ _ _ _ _
    | exact ih1 _ _ _ _ _ _ _ _ _ _ _
    | exact ih2 _ _ _ _ _ _ _ _ _ _ _ _
    | exact ih3 _ _ _ _ _ _ _ _ _ _
    | exact masterdiscref06_Decode.mono _ _ _
    | exact masterdiscref10_Encode.mono _ _ _ _ _ _ _ _ _ _
    | exact masterdiscref10_check.mono _ _
    | exact LeO.none _
    | refine LeO.ite ?_ ?_
    | refine LeO.bind ?_ (fun _ => ?_)
  · intro y0 y1 y2 y3 y4 y5 y6 y7 y8 y9 y10
    unfold masterdiscref10_Decode.j1
    repeat' first
    | (with_reducible exact ih0 _ _ _ _ _ _ _ _)
    | (with_reducible exact ih1 _ _ _ _ _ _ _ _ _ _ _)
    | (with_reducible exact ih2 _ _ _ _ _ _ _ _ _ _ _ _)
    | (with_reducible exact ih3 _ _ _ _ _ _ _ _ _ _)
    | (with_reducible exact masterdiscref06_Decode.mono _ _ _)
    | (with_reducible exact masterdiscref10_Encode.mono _ _ _ _ _ _ _ _ _ _)
    | (with_reducible exact masterdiscref10_check.mono _ _)
    | (with_reducible exact LeO.refl _)
    | (with_reducible exact LeO.none _)
    | (with_reducible refine LeO.ite ?_ ?_)
    | (with_reducible refine LeO.bind ?_ (fun _ => ?_))
    | exact ih0 _ _ _ _ _ _ _ _
    | exact ih1 _ _ _ _ _ _ _ _ _ _ _
    | exact ih2 _ _ _ _ _ _ _ _ _ _ _ _
    | exact ih3 _ _ _ _ _ _ _ _ _ _
    | exact masterdiscref06_Decode.mono _ _ _
    | exact masterdiscref10_Encode.mono _ _ _ _ _ _ _ _ _ _
    | exact masterdiscref10_check.mono _ _
    | exact LeO.none _
    | refine LeO.ite ?_ ?_
    | refine LeO.bind ?_ (fun _ => ?_)
  · intro y0 y1 y2 y3 y4 y5 y6 y7 y8 y9 y10 y11
    unfold masterdiscref10_Decode.j2
    repeat' first
    | (with_reducible exact ih0 _ _ _ _ _ _ _ _)
    | (with_reducible exact ih1 _ _ _ _ _ _ _ _ _ _ _)
    | (with_reducible exact ih2 _ _ _ _ _ _ _ _ _ _ _ _)
    | (with_reducible exact ih3 _ _ _ _ _ _ _ _ _ _)
    | (with_reducible exact masterdiscref06_Decode.mono _ _ _)
    | (with_reducible exact masterdiscref10_Encode.mono _ _ _ _ _ _ _ _ _ _)
    | (with_reducible exact masterdiscref10_check.mono _ _)
    | (with_reducible exact LeO.refl _)
    | (with_reducible exact LeO.none _)
    | (with_reducible refine LeO.ite ?_ ?_)
    | (with_reducible refine LeO.bind ?_ (fun _ => ?_))
    | exact ih0 _ _ _ _ _ _ _ _
    | exact ih1 _ _ _ _ _ _ _ _ _ _ _
    | exact ih2 _ _ _ _ _ _ _ _ _ _ _ _
    | exact ih3 _ _ _ _ _ _ _ _ _ _
    | exact masterdiscref06_Decode.mono _ _ _
    | exact masterdiscref10_Encode.mono _ _ _ _ _ _ _ _ _ _
    | exact masterdiscref10_check.mono _ _
    | exact LeO.none _
    | refine LeO.ite ?_ ?_
    | refine LeO.bind ?_ (fun _ => ?_)
  · intro y0 y1 y2 y3 y4 y5 y6 y7 y8 y9
    unfold masterdiscref10_Decode.j3
    repeat' first
    | (with_reducible exact ih0 _ _ _ _ _ _ _ _)
    | (with_reducible exact ih1 _ _ _ _ _ _ _ _ _ _ _)
    | (with_reducible exact ih2 _ _ _ _ _ _ _ _ _ _ _ _)
    | (with_reducible exact ih3 _ _ _ _ _ _ _ _ _ _)
    | (with_reducible exact masterdiscref06_Decode.mono _ _ _)
    | (with_reducible exact masterdiscref10_Encode.mono _ _ _ _ _ _ _ _ _ _)
    | (with_reducible exact masterdiscref10_check.mono _ _)
    | (with_reducible exact LeO.refl _)
    | (with_reducible exact LeO.none _)
    | (with_reducible refine LeO.ite ?_ ?_)
    | (with_reducible refine LeO.bind ?_ (fun _ => ?_))
    | exact ih0 _ _ _ _ _ _ _ _
    | exact ih1 _ _ _ _ _ _ _ _ _ _ _
    | exact ih2 _ _ _ _ _ _ _ _ _ _ _ _
    | exact ih3 _ _ _ _ _ _ _ _ _ _
    | exact masterdiscref06_Decode.mono _ _ _
    | exact masterdiscref10_Encode.mono _ _ _ _ _ _ _ _ _ _
    | exact masterdiscref10_check.mono _ _
    | exact LeO.none _
    | refine LeO.ite ?_ ?_
    | refine LeO.bind ?_ (fun _ => ?_)
theorem masterdiscref10_Decode.mono : ∀ a0 k, LeO (masterdiscref10_Decode.f k a0) (masterdiscref10_Decode.f (k + 1) a0) := by
 intro a0 k
 obtain ⟨ih0, ih1, ih2, ih3⟩ := masterdiscref10_Decode.mono_l k
 unfold masterdiscref10_Decode.f
 repeat' first
  | (with_reducible exact ih0 _ _ _ _ _ _ _ _)
  | (with_reducible exact ih1 _ _ _ _ _ _ _ _ _ _ _)
  | (with_reducible exact ih2 _ _ _ _ _ _ _ _ _ _ _ _)
  | (with_reducible exact ih3 _ _ _ _ _ _ _ _ _ _)
  | (with_reducible exact masterdiscref06_Decode.mono _ _ _)
  | (with_reducible exact masterdiscref10_Encode.mono _ _ _ _ _ _ _ _ _ _)
  | (with_reducible exact masterdiscref10_check.mono _ _)
  | (with_reducible exact LeO.refl _)
  | (with_reducible exact LeO.none _)
  | (with_reducible refine LeO.ite ?_ ?_)
  | (with_reducible refine LeO.bind ?_ (fun _ => ?_))
  | exact ih0 _ _ _ _ _ _ _ _
  | exact ih1 _ _ _ _ _ _ _ _ _ _ _
  | exact ih2 _ _ _ _ _ _ _ _ _ _ _ _
  | exact ih3 _ _ _ _ _ _ _ _ _ _
  | exact masterdiscref06_Decode.mono _ _ _
  | exact masterdiscref10_Encode.mono _ _ _ _ _ _ _ _ _ _
  | exact masterdiscref10_check.mono _ _
  | exact LeO.none _
  | refine LeO.ite ?_ ?_
  | refine LeO.bind ?_ (fun _ => ?_)
def masterdiscref10_Decode.T9 : Bool × List (List Nat × List Nat) := (true, [([], []), ([0], [0]), ([1], [1]), ([2], [2]), ([], []), ([], []), ([3, 4, 5], [3, 4, 5]), ([], []), ([7, 6, 0, 1, 2, 3, 4, 5, 6, 7], [6, 7])])
def masterdiscref10_Decode.B9 : List Nat := [0, 1, 3, 7, 0, 0, 63, 0, 255]
theorem masterdiscref10_Decode.tab9 : rtab .any (opsOf Try.f24 9) = masterdiscref10_Decode.T9 := by kernel_rfl
theorem masterdiscref10_Decode.bits9 : waitsOk masterdiscref10_Decode.T9.2 masterdiscref10_Decode.B9 = true := by kernel_rfl
set_option maxHeartbeats 8000000 in
set_option maxRecDepth 100000 in
theorem masterdiscref10_Decode.calls (k : Nat) (a0 : ByteArray) (r1 : Int) (r2 : Int) (r3 : Int) (r4 : Int) (r5 : Int) (r6 : Int) (r7 : Int) (r8 : Int) (r9 : Int) (r10 : Int) (w : World) (h : masterdiscref10_Decode.f k a0 = some (r1, r2, r3, r4, r5, r6, r7, r8, r9, r10)) :
 Calls Try.prog 24 #[.string a0] w fun e w' => e = .returned (.tuple #[.agg #[.int .i64 r1, .int .i64 r2, .int .i64 r3, .int .i64 r4, .int .i64 r5, .int .i64 r6, .int .i64 r7, .int .i64 r8, .int .i64 r9], .int .i64 r10]) ∧ Below w.heap.size w w' := by
 have hu27 := Try.underlying27
 have hu25 := Try.underlying25
 have HB := Aside0.mk (Below.refl w.heap.size w)
 have H : (if (a0.size : Int) = 12 then (if 10 ≤ (a0.size : Int) then (if 0 ≤ 10 then ((masterdiscref10_check.f k (a0.extract 0 10)).bind fun t447 => (if (a0.extract 10 a0.size).toList = t447.toList then ((masterdiscref06_Decode.f k a0 3).bind fun bt448 => ((masterdiscref06_Decode.f k a0 7).bind fun bt453 => (if bt448.2.2.2 = 0 then (if bt453.2.2.2 = 0 then (if 6 < (a0.size : Int) then (if (bt a0 6) = 0 then (if 0 < (a0.size : Int) then (masterdiscref10_Decode.j0 k a0 ((Int.tmod (bt a0 0) 16) != 1) bt448.1 bt448.2.1 bt448.2.2.1 bt453.1 bt453.2.1 bt453.2.2.1) else (none)) else (masterdiscref10_Decode.j0 k a0 true bt448.1 bt448.2.1 bt448.2.2.1 bt453.1 bt453.2.1 bt453.2.2.1)) else (none)) else (masterdiscref10_Decode.j0 k a0 true bt448.1 bt448.2.1 bt448.2.2.1 bt453.1 bt453.2.1 bt453.2.2.1)) else (masterdiscref10_Decode.j0 k a0 true bt448.1 bt448.2.1 bt448.2.2.1 bt453.1 bt453.2.1 bt453.2.2.1)))) else (some (0, 0, 0, 0, 0, 0, 0, 0, 0, 9)))) else (none)) else (none)) else (some (0, 0, 0, 0, 0, 0, 0, 0, 0, 1))) = some (r1, r2, r3, r4, r5, r6, r7, r8, r9, r10) := h
 clear h
 by_cases c2 : (a0.size : Int) = 12
 · rw [if_pos c2] at H
   have c2b0 : ((a0.size : Int) == 12) = true := beq_iff_eq.mpr c2
   have c2b1 : ((a0.size : Int) != 12) = false := bne_eq_false_iff_eq.mpr c2
   clear c2
   by_cases c3 : 10 ≤ (a0.size : Int)
   · rw [if_pos c3] at H
     have c3b0 := eq_true c3
     have c3b1 : decide (10 ≤ (a0.size : Int)) = true := decide_eq_true c3
     clear c3
     by_cases c4 : 0 ≤ 10
     · rw [if_pos c4] at H
       have c4b0 := eq_true c4
       have c4b1 : decide (0 ≤ 10) = true := decide_eq_true c4
       clear c4
       have c5b0 := eq_true (of_decide_eq_true (by first | (with_reducible assumption) | assumption) : 10 ≤ (a0.size : Int))
       replace H := Option.bind_eq_some_iff.mp H
       obtain ⟨t447, A60, H⟩ := H
       replace H : (if (a0.extract 10 a0.size).toList = t447.toList then ((masterdiscref06_Decode.f k a0 3).bind fun bt448 => ((masterdiscref06_Decode.f k a0 7).bind fun bt453 => (if bt448.2.2.2 = 0 then (if bt453.2.2.2 = 0 then (if 6 < (a0.size : Int) then (if (bt a0 6) = 0 then (if 0 < (a0.size : Int) then (masterdiscref10_Decode.j0 k a0 ((Int.tmod (bt a0 0) 16) != 1) bt448.1 bt448.2.1 bt448.2.2.1 bt453.1 bt453.2.1 bt453.2.2.1) else (none)) else (masterdiscref10_Decode.j0 k a0 true bt448.1 bt448.2.1 bt448.2.2.1 bt453.1 bt453.2.1 bt453.2.2.1)) else (none)) else (masterdiscref10_Decode.j0 k a0 true bt448.1 bt448.2.1 bt448.2.2.1 bt453.1 bt453.2.1 bt453.2.2.1)) else (masterdiscref10_Decode.j0 k a0 true bt448.1 bt448.2.1 bt448.2.2.1 bt453.1 bt453.2.1 bt453.2.2.1)))) else (some (0, 0, 0, 0, 0, 0, 0, 0, 0, 9))) = some (r1, r2, r3, r4, r5, r6, r7, r8, r9, r10) := H
       have A6 := Aside0.mk A60
       clear A60
       by_cases c7 : (a0.extract 10 a0.size).toList = t447.toList
       · rw [if_pos c7] at H
         have c7b0 : ((a0.extract 10 a0.size).toList == t447.toList) = true := beq_iff_eq.mpr c7
         have c7b1 : ((a0.extract 10 a0.size).toList != t447.toList) = false := bne_eq_false_iff_eq.mpr c7
         clear c7
         replace H := Option.bind_eq_some_iff.mp H
         obtain ⟨⟨t448, t449, t450, t451⟩, A80, H⟩ := H
         replace H : ((masterdiscref06_Decode.f k a0 7).bind fun bt453 => (if t451 = 0 then (if bt453.2.2.2 = 0 then (if 6 < (a0.size : Int) then (if (bt a0 6) = 0 then (if 0 < (a0.size : Int) then (masterdiscref10_Decode.j0 k a0 ((Int.tmod (bt a0 0) 16) != 1) t448 t449 t450 bt453.1 bt453.2.1 bt453.2.2.1) else (none)) else (masterdiscref10_Decode.j0 k a0 true t448 t449 t450 bt453.1 bt453.2.1 bt453.2.2.1)) else (none)) else (masterdiscref10_Decode.j0 k a0 true t448 t449 t450 bt453.1 bt453.2.1 bt453.2.2.1)) else (masterdiscref10_Decode.j0 k a0 true t448 t449 t450 bt453.1 bt453.2.1 bt453.2.2.1))) = some (r1, r2, r3, r4, r5, r6, r7, r8, r9, r10) := H
         have A8 := Aside0.mk A80
         clear A80
         replace H := Option.bind_eq_some_iff.mp H
         obtain ⟨⟨t453, t454, t455, t456⟩, A90, H⟩ := H
         replace H : (if t451 = 0 then (if t456 = 0 then (if 6 < (a0.size : Int) then (if (bt a0 6) = 0 then (if 0 < (a0.size : Int) then (masterdiscref10_Decode.j0 k a0 ((Int.tmod (bt a0 0) 16) != 1) t448 t449 t450 t453 t454 t455) else (none)) else (masterdiscref10_Decode.j0 k a0 true t448 t449 t450 t453 t454 t455)) else (none)) else (masterdiscref10_Decode.j0 k a0 true t448 t449 t450 t453 t454 t455)) else (masterdiscref10_Decode.j0 k a0 true t448 t449 t450 t453 t454 t455)) = some (r1, r2, r3, r4, r5, r6, r7, r8, r9, r10) := H
         have A9 := Aside0.mk A90
         clear A90
         have HC10 := Aside0.mk H
         clear H
         go_enter Try.func24, Try.ntmps24
         try go_wp2_with (first | ((with_reducible refine gate_dst (N := 2) rfl ?_); refine box_event ?hg (N := 2) ?hd (cs := #[.int .i64 0, .int .i64 0, .int .i64 0, .int .i64 0, .int .i64 0, .int .i64 0, .int .i64 0, .int .i64 0, .int .i64 0]) (t := 27) ?hr ?_; (case hd => rfl); (case hg => rfl); (case hr => first | (go_simp; done) | (go_simp; rfl)); intro gb446 hg w11 hbox hb; have n0_ := Aside0.mk (below_step (by repeat (first | (with_reducible first | exact HB.out | apply below_alloc | apply pw_below_drewN | apply below_drew1) | exact HB.out)) hb); have n1_ := Aside0.mk (hbox); have n2_ := Aside0.mk ((by rw [hg]; exact (below_size (by repeat (first | (with_reducible first | exact HB.out | apply below_alloc | apply pw_below_drewN | apply below_drew1) | exact HB.out))) : w.heap.size ≤ gb446)); have n3_ := Aside0.mk ((by rw [hg]; exact (below_size (by repeat (first | (with_reducible first | exact HB.out | apply below_alloc | apply pw_below_drewN | apply below_drew1) | exact HB.out))) : w.heap.size ≤ gb446)); clear HB; have HB := n0_; have BK446 := n1_; have GW446 := n2_; have GE446 := n3_; clear n0_ n1_ n2_ n3_; clear hb hbox hg))
         have n0_ := Aside0.mk (blk_drew BK446.out)
         have n1_ := Aside0.mk (below_drew1 HB.out)
         clear BK446
         clear HB
         have BK446 := n0_
         have HB := n1_
         clear n0_ n1_
         refine start_ (n := 6) (S := fun w' => True) (ds := []) #[false, false, false, false, false, false] (by kernel_rfl) rfl rfl trivial (fun hHeld => ?_)
         generalize w11.drew = w12 at BK446 HB hHeld ⊢
         refine pure_ (i := 0) (N := some 17) (v := ?_) (a' := ?_) (mS 6 1) rfl rfl (by kernel_rfl) (fun _ _ _ h => h) (Or.inl ⟨by rfl, ?_⟩) ?_ ?_
         rotate_left
         · intro w'
           go_simp
           with_reducible rfl
         rotate_left
         · simp only [Act.put, List.setIfInBounds_toArray, List.set_cons_zero, List.set_cons_succ, i64_w, i32_w]
           rfl
         refine pure_ (i := 1) (N := some 18) (v := ?_) (a' := ?_) (mS 6 3) rfl rfl (by kernel_rfl) (fun _ _ _ h => h) (Or.inl ⟨by rfl, ?_⟩) ?_ ?_
         rotate_left
         · intro w'
           go_simp
           with_reducible rfl
         rotate_left
         · simp only [Act.put, List.setIfInBounds_toArray, List.set_cons_zero, List.set_cons_succ, i64_w, i32_w]
           rfl
         refine pure_ (i := 2) (N := some 19) (v := ?_) (a' := ?_) (mS 6 7) rfl rfl (by kernel_rfl) (fun _ _ _ h => h) (Or.inl ⟨by rfl, ?_⟩) ?_ ?_
         rotate_left
         · intro w'
           go_simp
           with_reducible rfl
         rotate_left
         · simp only [Act.put, List.setIfInBounds_toArray, List.set_cons_zero, List.set_cons_succ, i64_w, i32_w]
           rfl
         refine pure_ (i := 3) (N := some 20) (v := ?_) (a' := ?_) (mS 6 15) rfl rfl (by kernel_rfl) (fun _ _ _ h => h) (Or.inl ⟨by rfl, ?_⟩) ?_ ?_
         rotate_left
         · intro w'
           go_simp
           with_reducible rfl
         rotate_left
         · simp only [Act.put, List.setIfInBounds_toArray, List.set_cons_zero, List.set_cons_succ, i64_w, i32_w]
           rfl
         refine one_ (i := 4) (N := some 21) (mS 6 31) rfl rfl (by kernel_rfl) (by decide) (fun K hK => ?_)
         refine goes_ Try.func49 (by kernel_rfl) rfl #[.string (a0.extract 0 10)] (by rfl) rfl rfl (by (try simp only [List.map_toArray, List.map_cons, List.map_nil]); first | done | rfl | (simp only [List.length_drop, List.length_take]; rfl)) ?_
         with_reducible refine (masterdiscref10_check.calls k (a0.extract 0 10) t447 _ A6.out).mono ?_
         rintro e w13 ⟨rfl, hb⟩
         refine ⟨_, rfl, ?_⟩
         have n0_ := Aside0.mk (blk_below (g := gb446) (o := .cells #[.int .i64 0, .int .i64 0, .int .i64 0, .int .i64 0, .int .i64 0, .int .i64 0, .int .i64 0, .int .i64 0, .int .i64 0] 27 (0, 0)) (by (with_reducible repeat (first | refine blk_drewN ?_ _ | refine blk_drew ?_ | refine blk_alloc ?_ _)); exact BK446.out) hb)
         have n1_ := Aside0.mk (below_step (by repeat (first | (with_reducible first | exact HB.out | apply below_alloc | apply pw_below_drewN | apply below_drew1 | refine below_set ?_ GE446.out) | exact HB.out)) hb)
         clear BK446
         clear HB
         have BK446 := n0_
         have HB := n1_
         clear n0_ n1_
         (try clear hb)
         (try clear hb2)
         (try clear hk)
         (try clear hi)
         refine hK.out _ _ trivial (fun hHeld => ?_)
         clear hK K
         refine norm_ (a' := ?_) ?_ ?_
         rotate_left
         · show Act.put _ (some 21) _ = _
           simp only [Act.put, List.setIfInBounds_toArray, List.set_cons_zero, List.set_cons_succ, i64_w, i32_w]
           rfl
         refine pure_ (i := 5) (N := some 22) (v := ?_) (a' := ?_) (mS 6 63) rfl rfl (by kernel_rfl) (fun _ _ _ h => h) (Or.inl ⟨by rfl, ?_⟩) ?_ ?_
         rotate_left
         · intro w'
           go_simp
           with_reducible rfl
         rotate_left
         · simp only [Act.put, List.setIfInBounds_toArray, List.set_cons_zero, List.set_cons_succ, i64_w, i32_w]
           rfl
         refine done_ (by kernel_rfl) ?_
         go_upto_region 7 with (first | ((with_reducible refine gate_callee (f := 52) rfl ?_); refine goesL_ (some 26) rfl rfl Try.func52 (by kernel_rfl) rfl #[.string a0, .int .i64 3] rfl (by (try simp only [List.map_toArray, List.map_cons, List.map_nil]); first | done | rfl | (simp only [List.length_drop, List.length_take]; rfl)) ?_; (with_reducible refine (masterdiscref06_Decode.calls k a0 3 t448 t449 t450 t451 _ A8.out).mono ?_); rintro e w14 ⟨rfl, hb⟩; refine ⟨_, rfl, ?_⟩; have n0_ := Aside0.mk (blk_below (g := gb446) (o := .cells #[.int .i64 0, .int .i64 0, .int .i64 0, .int .i64 0, .int .i64 0, .int .i64 0, .int .i64 0, .int .i64 0, .int .i64 0] 27 (0, 0)) (by (with_reducible repeat (first | refine blk_drewN ?_ _ | refine blk_drew ?_ | refine blk_alloc ?_ _)); exact BK446.out) hb); have n1_ := Aside0.mk (below_step (by repeat (first | (with_reducible first | exact HB.out | apply below_alloc | apply pw_below_drewN | apply below_drew1 | refine below_set ?_ GE446.out) | exact HB.out)) hb); clear BK446; clear HB; have BK446 := n0_; have HB := n1_; clear n0_ n1_; (try clear hb); (try clear hb2); (try clear hk); (try clear hi)) | ((with_reducible refine gate_dst (N := 4) rfl ?_); refine box_event ?hg (N := 4) ?hd (cs := #[.int .i64 0, .int .i64 0, .int .i64 0]) (t := 25) ?hr ?_; (case hd => rfl); (case hg => rfl); (case hr => first | (go_simp; done) | (go_simp; rfl)); intro gb452 hg w15 hbox hb; have n0_ := Aside0.mk (blk_below (g := gb446) (o := .cells #[.int .i64 0, .int .i64 0, .int .i64 0, .int .i64 0, .int .i64 0, .int .i64 0, .int .i64 0, .int .i64 0, .int .i64 0] 27 (0, 0)) (by (with_reducible repeat (first | refine blk_drewN ?_ _ | refine blk_drew ?_ | refine blk_alloc ?_ _)); exact BK446.out) hb); have n1_ := Aside0.mk (below_step (by repeat (first | (with_reducible first | exact HB.out | apply below_alloc | apply pw_below_drewN | apply below_drew1 | refine below_set ?_ GE446.out) | exact HB.out)) hb); have n2_ := Aside0.mk (hbox); have n3_ := Aside0.mk ((by rw [hg]; exact (below_size (by repeat (first | (with_reducible first | exact HB.out | apply below_alloc | apply pw_below_drewN | apply below_drew1 | refine below_set ?_ GE446.out) | exact HB.out))) : w.heap.size ≤ gb452)); have n4_ := Aside0.mk ((by rw [hg]; exact (below_size (by repeat (first | (with_reducible first | exact HB.out | apply below_alloc | apply pw_below_drewN | apply below_drew1 | refine below_set ?_ GE446.out) | exact HB.out))) : w.heap.size ≤ gb452)); have n5_ := Aside0.mk ((by rw [hg]; exact Nat.ne_of_lt (blk_lt (g := gb446) (o := .cells #[.int .i64 0, .int .i64 0, .int .i64 0, .int .i64 0, .int .i64 0, .int .i64 0, .int .i64 0, .int .i64 0, .int .i64 0] 27 (0, 0)) (by (with_reducible repeat (first | refine blk_drewN ?_ _ | refine blk_drew ?_ | refine blk_alloc ?_ _)); exact BK446.out)) : gb446 ≠ gb452)); have n6_ := Aside0.mk ((by rw [hg]; exact Nat.ne_of_gt (blk_lt (g := gb446) (o := .cells #[.int .i64 0, .int .i64 0, .int .i64 0, .int .i64 0, .int .i64 0, .int .i64 0, .int .i64 0, .int .i64 0, .int .i64 0] 27 (0, 0)) (by (with_reducible repeat (first | refine blk_drewN ?_ _ | refine blk_drew ?_ | refine blk_alloc ?_ _)); exact BK446.out)) : gb452 ≠ gb446)); clear BK446; clear HB; have BK446 := n0_; have HB := n1_; have BK452 := n2_; have GW452 := n3_; have GE452 := n4_; have NB446_452 := n5_; have NB452_446 := n6_; clear n0_ n1_ n2_ n3_ n4_ n5_ n6_; clear hb hbox hg; have hnb16 := NB452_446.out; have hnc16 := NB446_452.out; obtain ⟨hcz17_0, hcz17_1, hcz17_2⟩ := cel3 BK452.out; obtain ⟨hfz17_0, hfz17_1, hfz17_2⟩ := frz3 BK452.out) | ((with_reducible refine gate_callee (f := 52) rfl ?_); refine goesL_ (some 31) rfl rfl Try.func52 (by kernel_rfl) rfl #[.string a0, .int .i64 7] rfl (by (try simp only [List.map_toArray, List.map_cons, List.map_nil]); first | done | rfl | (simp only [List.length_drop, List.length_take]; rfl)) ?_; (with_reducible refine (masterdiscref06_Decode.calls k a0 7 t453 t454 t455 t456 _ A9.out).mono ?_); rintro e w18 ⟨rfl, hb⟩; refine ⟨_, rfl, ?_⟩; have n0_ := Aside0.mk (blk_below (g := gb446) (o := .cells #[.int .i64 0, .int .i64 0, .int .i64 0, .int .i64 0, .int .i64 0, .int .i64 0, .int .i64 0, .int .i64 0, .int .i64 0] 27 (0, 0)) (by (with_reducible repeat (first | refine blk_drewN ?_ _ | refine blk_drew ?_ | refine blk_alloc ?_ _)); refine blk_far ?_ NB446_452.out _; (with_reducible repeat (first | refine blk_drewN ?_ _ | refine blk_drew ?_ | refine blk_alloc ?_ _)); refine blk_far ?_ NB446_452.out _; (with_reducible repeat (first | refine blk_drewN ?_ _ | refine blk_drew ?_ | refine blk_alloc ?_ _)); refine blk_far ?_ NB446_452.out _; (with_reducible repeat (first | refine blk_drewN ?_ _ | refine blk_drew ?_ | refine blk_alloc ?_ _)); exact BK446.out) hb); have n1_ := Aside0.mk (blk_below (g := gb452) (o := .cells #[.int .i64 t448, .int .i64 t449, .int .i64 t450] 25 (0, 0)) (by (with_reducible repeat (first | refine blk_drewN ?_ _ | refine blk_drew ?_ | refine blk_alloc ?_ _)); refine blk_put (cs := #[.int .i64 t448, .int .i64 t449, .int .i64 0]) ?_ 2 _ rfl; (with_reducible repeat (first | refine blk_drewN ?_ _ | refine blk_drew ?_ | refine blk_alloc ?_ _)); refine blk_put (cs := #[.int .i64 t448, .int .i64 0, .int .i64 0]) ?_ 1 _ rfl; (with_reducible repeat (first | refine blk_drewN ?_ _ | refine blk_drew ?_ | refine blk_alloc ?_ _)); refine blk_put (cs := #[.int .i64 0, .int .i64 0, .int .i64 0]) ?_ 0 _ rfl; (with_reducible repeat (first | refine blk_drewN ?_ _ | refine blk_drew ?_ | refine blk_alloc ?_ _)); exact BK452.out) hb); have n2_ := Aside0.mk (below_step (by repeat (first | (with_reducible first | exact HB.out | apply below_alloc | apply pw_below_drewN | apply below_drew1 | refine below_set ?_ GE446.out | refine below_set ?_ GE452.out) | exact HB.out)) hb); clear BK446; clear BK452; clear HB; have BK446 := n0_; have BK452 := n1_; have HB := n2_; clear n0_ n1_ n2_; (try clear hb); (try clear hb2); (try clear hk); (try clear hi)) | ((with_reducible refine gate_dst (N := 6) rfl ?_); refine box_event ?hg (N := 6) ?hd (cs := #[.int .i64 0, .int .i64 0, .int .i64 0]) (t := 25) ?hr ?_; (case hd => rfl); (case hg => rfl); (case hr => first | (go_simp; done) | (go_simp; rfl)); intro gb457 hg w19 hbox hb; have n0_ := Aside0.mk (blk_below (g := gb446) (o := .cells #[.int .i64 0, .int .i64 0, .int .i64 0, .int .i64 0, .int .i64 0, .int .i64 0, .int .i64 0, .int .i64 0, .int .i64 0] 27 (0, 0)) (by (with_reducible repeat (first | refine blk_drewN ?_ _ | refine blk_drew ?_ | refine blk_alloc ?_ _)); exact BK446.out) hb); have n1_ := Aside0.mk (blk_below (g := gb452) (o := .cells #[.int .i64 t448, .int .i64 t449, .int .i64 t450] 25 (0, 0)) (by (with_reducible repeat (first | refine blk_drewN ?_ _ | refine blk_drew ?_ | refine blk_alloc ?_ _)); exact BK452.out) hb); have n2_ := Aside0.mk (below_step (by repeat (first | (with_reducible first | exact HB.out | apply below_alloc | apply pw_below_drewN | apply below_drew1 | refine below_set ?_ GE446.out | refine below_set ?_ GE452.out) | exact HB.out)) hb); have n3_ := Aside0.mk (hbox); have n4_ := Aside0.mk ((by rw [hg]; exact (below_size (by repeat (first | (with_reducible first | exact HB.out | apply below_alloc | apply pw_below_drewN | apply below_drew1 | refine below_set ?_ GE446.out | refine below_set ?_ GE452.out) | exact HB.out))) : w.heap.size ≤ gb457)); have n5_ := Aside0.mk ((by rw [hg]; exact (below_size (by repeat (first | (with_reducible first | exact HB.out | apply below_alloc | apply pw_below_drewN | apply below_drew1 | refine below_set ?_ GE446.out | refine below_set ?_ GE452.out) | exact HB.out))) : w.heap.size ≤ gb457)); have n6_ := Aside0.mk ((by rw [hg]; exact Nat.ne_of_lt (blk_lt (g := gb446) (o := .cells #[.int .i64 0, .int .i64 0, .int .i64 0, .int .i64 0, .int .i64 0, .int .i64 0, .int .i64 0, .int .i64 0, .int .i64 0] 27 (0, 0)) (by (with_reducible repeat (first | refine blk_drewN ?_ _ | refine blk_drew ?_ | refine blk_alloc ?_ _)); exact BK446.out)) : gb446 ≠ gb457)); have n7_ := Aside0.mk ((by rw [hg]; exact Nat.ne_of_gt (blk_lt (g := gb446) (o := .cells #[.int .i64 0, .int .i64 0, .int .i64 0, .int .i64 0, .int .i64 0, .int .i64 0, .int .i64 0, .int .i64 0, .int .i64 0] 27 (0, 0)) (by (with_reducible repeat (first | refine blk_drewN ?_ _ | refine blk_drew ?_ | refine blk_alloc ?_ _)); exact BK446.out)) : gb457 ≠ gb446)); have n8_ := Aside0.mk ((by rw [hg]; exact Nat.ne_of_lt (blk_lt (g := gb452) (o := .cells #[.int .i64 t448, .int .i64 t449, .int .i64 t450] 25 (0, 0)) (by (with_reducible repeat (first | refine blk_drewN ?_ _ | refine blk_drew ?_ | refine blk_alloc ?_ _)); exact BK452.out)) : gb452 ≠ gb457)); have n9_ := Aside0.mk ((by rw [hg]; exact Nat.ne_of_gt (blk_lt (g := gb452) (o := .cells #[.int .i64 t448, .int .i64 t449, .int .i64 t450] 25 (0, 0)) (by (with_reducible repeat (first | refine blk_drewN ?_ _ | refine blk_drew ?_ | refine blk_alloc ?_ _)); exact BK452.out)) : gb457 ≠ gb452)); clear BK446; clear BK452; clear HB; have BK446 := n0_; have BK452 := n1_; have HB := n2_; have BK457 := n3_; have GW457 := n4_; have GE457 := n5_; have NB446_457 := n6_; have NB457_446 := n7_; have NB452_457 := n8_; have NB457_452 := n9_; clear n0_ n1_ n2_ n3_ n4_ n5_ n6_ n7_ n8_ n9_; clear hb hbox hg; have hnb20 := NB457_446.out; have hnc20 := NB446_457.out; have hnb21 := NB457_452.out; have hnc21 := NB452_457.out; obtain ⟨hcz22_0, hcz22_1, hcz22_2⟩ := cel3 BK457.out; obtain ⟨hfz22_0, hfz22_1, hfz22_2⟩ := frz3 BK457.out))
         (try simp only [Act.put, List.setIfInBounds_toArray, List.set_cons_zero, List.set_cons_succ])
         go_cut [50] (fun v50 wc => ∃ (kq : Nat) (x50_9 : Bool), v50 = .bool x50_9 ∧ Aside0 (masterdiscref10_Decode.j0 kq a0 x50_9 t448 t449 t450 t453 t454 t455 = some (r1, r2, r3, r4, r5, r6, r7, r8, r9, r10)) ∧ Aside0 (kq ≤ k) ∧ Aside0 (wc.heap[gb446]? = some (.cells #[.int .i64 0, .int .i64 0, .int .i64 0, .int .i64 0, .int .i64 0, .int .i64 0, .int .i64 0, .int .i64 0, .int .i64 0] 27 (0, 0))) ∧ Aside0 (wc.heap[gb452]? = some (.cells #[.int .i64 t448, .int .i64 t449, .int .i64 t450] 25 (0, 0))) ∧ Aside0 (wc.heap[gb457]? = some (.cells #[.int .i64 t453, .int .i64 t454, .int .i64 t455] 25 (0, 0))) ∧ Aside0 (Below w.heap.size w wc))
         case first =>
          have H := HC10.out
          clear HC10
          by_cases c23 : t451 = 0
          · rw [if_pos c23] at H
            have c23b0 : (t451 == 0) = true := beq_iff_eq.mpr c23
            have c23b1 : (t451 != 0) = false := bne_eq_false_iff_eq.mpr c23
            clear c23
            (first | rw [c23b0] | (simp only [i64_w, i32_w]; rw [c23b0]) | skip)
            by_cases c24 : t456 = 0
            · rw [if_pos c24] at H
              have c24b0 : (t456 == 0) = true := beq_iff_eq.mpr c24
              have c24b1 : (t456 != 0) = false := bne_eq_false_iff_eq.mpr c24
              clear c24
              by_cases c25 : 6 < (a0.size : Int)
              · rw [if_pos c25] at H
                have c25b0 : decide (6 < (a0.size : Int)) = true := decide_eq_true c25
                have c25b1 : decide (6 < a0.size) = true := decide_eq_true (by omega)
                clear c25
                by_cases c27 : (bt a0 6) = 0
                · rw [if_pos c27] at H
                  have c27b0 : ((bt a0 6) == 0) = true := beq_iff_eq.mpr c27
                  have c27b1 : ((bt a0 6) != 0) = false := bne_eq_false_iff_eq.mpr c27
                  clear c27
                  by_cases c28 : 0 < (a0.size : Int)
                  · rw [if_pos c28] at H
                    have c28b0 : decide (0 < (a0.size : Int)) = true := decide_eq_true c28
                    have c28b1 : decide (0 < a0.size) = true := decide_eq_true (by omega)
                    clear c28
                    have H' := Aside0.mk H
                    clear H
                    have p26 : 0 ≤ (6 : Int) := (by omega)
                    have q26 : 6 < a0.size := (by have : (6 : Int) < (a0.size : Int) := of_decide_eq_true (by first | (with_reducible assumption) | assumption); omega)
                    have hx26 : ∀ h : 6 < a0.size, ((a0[6]'h).toNat : Int) = bt a0 6 := bt_at a0 6
                    clear p26
                    have qi26 : (6 < (a0.size : Int)) = True := eq_true (of_decide_eq_true (by first | (with_reducible assumption) | assumption))
                    replace q26 := eq_true q26
                    have p29 : 0 ≤ (0 : Int) := (by omega)
                    have q29 : 0 < a0.size := (by have : (0 : Int) < (a0.size : Int) := of_decide_eq_true (by first | (with_reducible assumption) | assumption); omega)
                    have hx29 : ∀ h : 0 < a0.size, ((a0[0]'h).toNat : Int) = bt a0 0 := bt_at a0 0
                    clear p29
                    have qi29 : (0 < (a0.size : Int)) = True := eq_true (of_decide_eq_true (by first | (with_reducible assumption) | assumption))
                    replace q29 := eq_true q29
                    go_wp2
                    go_meet
                    case rel => exact ⟨_, (((Int.tmod (bt a0 0) 16) != 1)), (by first | rfl | (simp; done) | (simp [*]; done)), H', ⟨by first | omega | exact Nat.le_refl _⟩, ⟨by (with_reducible repeat (first | refine blk_drewN ?_ _ | refine blk_drew ?_ | refine blk_alloc ?_ _)); refine blk_far ?_ NB446_457.out _; (with_reducible repeat (first | refine blk_drewN ?_ _ | refine blk_drew ?_ | refine blk_alloc ?_ _)); refine blk_far ?_ NB446_457.out _; (with_reducible repeat (first | refine blk_drewN ?_ _ | refine blk_drew ?_ | refine blk_alloc ?_ _)); refine blk_far ?_ NB446_457.out _; (with_reducible repeat (first | refine blk_drewN ?_ _ | refine blk_drew ?_ | refine blk_alloc ?_ _)); exact BK446.out⟩, ⟨by (with_reducible repeat (first | refine blk_drewN ?_ _ | refine blk_drew ?_ | refine blk_alloc ?_ _)); refine blk_far ?_ NB452_457.out _; (with_reducible repeat (first | refine blk_drewN ?_ _ | refine blk_drew ?_ | refine blk_alloc ?_ _)); refine blk_far ?_ NB452_457.out _; (with_reducible repeat (first | refine blk_drewN ?_ _ | refine blk_drew ?_ | refine blk_alloc ?_ _)); refine blk_far ?_ NB452_457.out _; (with_reducible repeat (first | refine blk_drewN ?_ _ | refine blk_drew ?_ | refine blk_alloc ?_ _)); exact BK452.out⟩, ⟨by (with_reducible repeat (first | refine blk_drewN ?_ _ | refine blk_drew ?_ | refine blk_alloc ?_ _)); refine blk_put (cs := #[.int .i64 t453, .int .i64 t454, .int .i64 0]) ?_ 2 _ rfl; (with_reducible repeat (first | refine blk_drewN ?_ _ | refine blk_drew ?_ | refine blk_alloc ?_ _)); refine blk_put (cs := #[.int .i64 t453, .int .i64 0, .int .i64 0]) ?_ 1 _ rfl; (with_reducible repeat (first | refine blk_drewN ?_ _ | refine blk_drew ?_ | refine blk_alloc ?_ _)); refine blk_put (cs := #[.int .i64 0, .int .i64 0, .int .i64 0]) ?_ 0 _ rfl; (with_reducible repeat (first | refine blk_drewN ?_ _ | refine blk_drew ?_ | refine blk_alloc ?_ _)); exact BK457.out⟩, ⟨by repeat (first | (with_reducible first | exact HB.out | apply below_alloc | apply pw_below_drewN | apply below_drew1 | refine below_set ?_ GE446.out | refine below_set ?_ GE452.out | refine below_set ?_ GE457.out) | exact HB.out)⟩⟩
                  · rw [if_neg c28] at H
                    exact absurd H (by simp)
                · rw [if_neg c27] at H
                  have c27b0 : ((bt a0 6) == 0) = false := beq_eq_false_iff_ne.mpr c27
                  have c27b1 : ((bt a0 6) != 0) = true := bne_iff_ne.mpr c27
                  have H' := Aside0.mk H
                  clear H
                  have p26 : 0 ≤ (6 : Int) := (by omega)
                  have q26 : 6 < a0.size := (by have : (6 : Int) < (a0.size : Int) := of_decide_eq_true (by first | (with_reducible assumption) | assumption); omega)
                  have hx26 : ∀ h : 6 < a0.size, ((a0[6]'h).toNat : Int) = bt a0 6 := bt_at a0 6
                  clear p26
                  have qi26 : (6 < (a0.size : Int)) = True := eq_true (of_decide_eq_true (by first | (with_reducible assumption) | assumption))
                  replace q26 := eq_true q26
                  go_wp2
                  go_meet
                  case rel => exact ⟨_, (true), (by first | rfl | (simp; done) | (simp [*]; done)), H', ⟨by first | omega | exact Nat.le_refl _⟩, ⟨by (with_reducible repeat (first | refine blk_drewN ?_ _ | refine blk_drew ?_ | refine blk_alloc ?_ _)); refine blk_far ?_ NB446_457.out _; (with_reducible repeat (first | refine blk_drewN ?_ _ | refine blk_drew ?_ | refine blk_alloc ?_ _)); refine blk_far ?_ NB446_457.out _; (with_reducible repeat (first | refine blk_drewN ?_ _ | refine blk_drew ?_ | refine blk_alloc ?_ _)); refine blk_far ?_ NB446_457.out _; (with_reducible repeat (first | refine blk_drewN ?_ _ | refine blk_drew ?_ | refine blk_alloc ?_ _)); exact BK446.out⟩, ⟨by (with_reducible repeat (first | refine blk_drewN ?_ _ | refine blk_drew ?_ | refine blk_alloc ?_ _)); refine blk_far ?_ NB452_457.out _; (with_reducible repeat (first | refine blk_drewN ?_ _ | refine blk_drew ?_ | refine blk_alloc ?_ _)); refine blk_far ?_ NB452_457.out _; (with_reducible repeat (first | refine blk_drewN ?_ _ | refine blk_drew ?_ | refine blk_alloc ?_ _)); refine blk_far ?_ NB452_457.out _; (with_reducible repeat (first | refine blk_drewN ?_ _ | refine blk_drew ?_ | refine blk_alloc ?_ _)); exact BK452.out⟩, ⟨by (with_reducible repeat (first | refine blk_drewN ?_ _ | refine blk_drew ?_ | refine blk_alloc ?_ _)); refine blk_put (cs := #[.int .i64 t453, .int .i64 t454, .int .i64 0]) ?_ 2 _ rfl; (with_reducible repeat (first | refine blk_drewN ?_ _ | refine blk_drew ?_ | refine blk_alloc ?_ _)); refine blk_put (cs := #[.int .i64 t453, .int .i64 0, .int .i64 0]) ?_ 1 _ rfl; (with_reducible repeat (first | refine blk_drewN ?_ _ | refine blk_drew ?_ | refine blk_alloc ?_ _)); refine blk_put (cs := #[.int .i64 0, .int .i64 0, .int .i64 0]) ?_ 0 _ rfl; (with_reducible repeat (first | refine blk_drewN ?_ _ | refine blk_drew ?_ | refine blk_alloc ?_ _)); exact BK457.out⟩, ⟨by repeat (first | (with_reducible first | exact HB.out | apply below_alloc | apply pw_below_drewN | apply below_drew1 | refine below_set ?_ GE446.out | refine below_set ?_ GE452.out | refine below_set ?_ GE457.out) | exact HB.out)⟩⟩
              · rw [if_neg c25] at H
                exact absurd H (by simp)
            · rw [if_neg c24] at H
              have c24b0 : (t456 == 0) = false := beq_eq_false_iff_ne.mpr c24
              have c24b1 : (t456 != 0) = true := bne_iff_ne.mpr c24
              have H' := Aside0.mk H
              clear H
              go_wp2
              go_meet
              case rel => exact ⟨_, (true), (by first | rfl | (simp; done) | (simp [*]; done)), H', ⟨by first | omega | exact Nat.le_refl _⟩, ⟨by (with_reducible repeat (first | refine blk_drewN ?_ _ | refine blk_drew ?_ | refine blk_alloc ?_ _)); refine blk_far ?_ NB446_457.out _; (with_reducible repeat (first | refine blk_drewN ?_ _ | refine blk_drew ?_ | refine blk_alloc ?_ _)); refine blk_far ?_ NB446_457.out _; (with_reducible repeat (first | refine blk_drewN ?_ _ | refine blk_drew ?_ | refine blk_alloc ?_ _)); refine blk_far ?_ NB446_457.out _; (with_reducible repeat (first | refine blk_drewN ?_ _ | refine blk_drew ?_ | refine blk_alloc ?_ _)); exact BK446.out⟩, ⟨by (with_reducible repeat (first | refine blk_drewN ?_ _ | refine blk_drew ?_ | refine blk_alloc ?_ _)); refine blk_far ?_ NB452_457.out _; (with_reducible repeat (first | refine blk_drewN ?_ _ | refine blk_drew ?_ | refine blk_alloc ?_ _)); refine blk_far ?_ NB452_457.out _; (with_reducible repeat (first | refine blk_drewN ?_ _ | refine blk_drew ?_ | refine blk_alloc ?_ _)); refine blk_far ?_ NB452_457.out _; (with_reducible repeat (first | refine blk_drewN ?_ _ | refine blk_drew ?_ | refine blk_alloc ?_ _)); exact BK452.out⟩, ⟨by (with_reducible repeat (first | refine blk_drewN ?_ _ | refine blk_drew ?_ | refine blk_alloc ?_ _)); refine blk_put (cs := #[.int .i64 t453, .int .i64 t454, .int .i64 0]) ?_ 2 _ rfl; (with_reducible repeat (first | refine blk_drewN ?_ _ | refine blk_drew ?_ | refine blk_alloc ?_ _)); refine blk_put (cs := #[.int .i64 t453, .int .i64 0, .int .i64 0]) ?_ 1 _ rfl; (with_reducible repeat (first | refine blk_drewN ?_ _ | refine blk_drew ?_ | refine blk_alloc ?_ _)); refine blk_put (cs := #[.int .i64 0, .int .i64 0, .int .i64 0]) ?_ 0 _ rfl; (with_reducible repeat (first | refine blk_drewN ?_ _ | refine blk_drew ?_ | refine blk_alloc ?_ _)); exact BK457.out⟩, ⟨by repeat (first | (with_reducible first | exact HB.out | apply below_alloc | apply pw_below_drewN | apply below_drew1 | refine below_set ?_ GE446.out | refine below_set ?_ GE452.out | refine below_set ?_ GE457.out) | exact HB.out)⟩⟩
          · rw [if_neg c23] at H
            have c23b0 : (t451 == 0) = false := beq_eq_false_iff_ne.mpr c23
            have c23b1 : (t451 != 0) = true := bne_iff_ne.mpr c23
            (first | rw [c23b0] | (simp only [i64_w, i32_w]; rw [c23b0]) | skip)
            have H' := Aside0.mk H
            clear H
            go_wp2
            go_meet
            case rel => exact ⟨_, (true), (by first | rfl | (simp; done) | (simp [*]; done)), H', ⟨by first | omega | exact Nat.le_refl _⟩, ⟨by (with_reducible repeat (first | refine blk_drewN ?_ _ | refine blk_drew ?_ | refine blk_alloc ?_ _)); refine blk_far ?_ NB446_457.out _; (with_reducible repeat (first | refine blk_drewN ?_ _ | refine blk_drew ?_ | refine blk_alloc ?_ _)); refine blk_far ?_ NB446_457.out _; (with_reducible repeat (first | refine blk_drewN ?_ _ | refine blk_drew ?_ | refine blk_alloc ?_ _)); refine blk_far ?_ NB446_457.out _; (with_reducible repeat (first | refine blk_drewN ?_ _ | refine blk_drew ?_ | refine blk_alloc ?_ _)); exact BK446.out⟩, ⟨by (with_reducible repeat (first | refine blk_drewN ?_ _ | refine blk_drew ?_ | refine blk_alloc ?_ _)); refine blk_far ?_ NB452_457.out _; (with_reducible repeat (first | refine blk_drewN ?_ _ | refine blk_drew ?_ | refine blk_alloc ?_ _)); refine blk_far ?_ NB452_457.out _; (with_reducible repeat (first | refine blk_drewN ?_ _ | refine blk_drew ?_ | refine blk_alloc ?_ _)); refine blk_far ?_ NB452_457.out _; (with_reducible repeat (first | refine blk_drewN ?_ _ | refine blk_drew ?_ | refine blk_alloc ?_ _)); exact BK452.out⟩, ⟨by (with_reducible repeat (first | refine blk_drewN ?_ _ | refine blk_drew ?_ | refine blk_alloc ?_ _)); refine blk_put (cs := #[.int .i64 t453, .int .i64 t454, .int .i64 0]) ?_ 2 _ rfl; (with_reducible repeat (first | refine blk_drewN ?_ _ | refine blk_drew ?_ | refine blk_alloc ?_ _)); refine blk_put (cs := #[.int .i64 t453, .int .i64 0, .int .i64 0]) ?_ 1 _ rfl; (with_reducible repeat (first | refine blk_drewN ?_ _ | refine blk_drew ?_ | refine blk_alloc ?_ _)); refine blk_put (cs := #[.int .i64 0, .int .i64 0, .int .i64 0]) ?_ 0 _ rfl; (with_reducible repeat (first | refine blk_drewN ?_ _ | refine blk_drew ?_ | refine blk_alloc ?_ _)); exact BK457.out⟩, ⟨by repeat (first | (with_reducible first | exact HB.out | apply below_alloc | apply pw_below_drewN | apply below_drew1 | refine below_set ?_ GE446.out | refine below_set ?_ GE452.out | refine below_set ?_ GE457.out) | exact HB.out)⟩⟩
         case rest =>
          clear HC10
          try clear c1
          try clear c2
          try clear c2b0
          try clear c2b1
          try clear p2
          try clear q2
          try clear hx2
          try clear qi2
          try clear c3
          try clear c3b0
          try clear c3b1
          try clear c4
          try clear c4b0
          try clear c4b1
          try clear c5
          try clear c5b0
          try clear c7
          try clear c7b0
          try clear c7b1
          try clear c16
          try clear c20
          try clear c21
          try clear c23
          try clear c23b0
          try clear c23b1
          try clear c24
          try clear c24b0
          try clear c24b1
          try clear c25
          try clear c25b0
          try clear c25b1
          try clear p26
          try clear q26
          try clear hx26
          try clear qi26
          try clear c27
          try clear c27b0
          try clear c27b1
          try clear c28
          try clear c28b0
          try clear c28b1
          try clear p29
          try clear q29
          try clear hx29
          try clear qi29
          try clear hcz17_0
          try clear hcz17_1
          try clear hcz17_2
          try clear hcz22_0
          try clear hcz22_1
          try clear hcz22_2
          try clear hfz17_0
          try clear hfz17_1
          try clear hfz17_2
          try clear hfz22_0
          try clear hfz22_1
          try clear hfz22_2
          try clear p26
          try clear p29
          try clear q26
          try clear q29
          obtain ⟨kq, x50_9, rfl, HA, HJ9, BK446, BK452, BK457, HB⟩ := hcut
          cases kq with
          | zero => exact absurd HA.out (by simp [masterdiscref10_Decode.j0])
          | succ kj9 =>
           have H := HA.out
           clear HA
           simp only [masterdiscref10_Decode.j0] at H
           by_cases c30 : x50_9 = true
           · subst c30
             have H1 : (some (0, 0, 0, 0, 0, 0, 0, 0, 0, 10)) = some (r1, r2, r3, r4, r5, r6, r7, r8, r9, r10) := by rw [if_pos rfl] at H; exact H
             clear H
             have H := H1
             clear H1
             simp only [Option.some.injEq, Prod.mk.injEq] at H
             obtain ⟨rfl, rfl, rfl, rfl, rfl, rfl, rfl, rfl, rfl, rfl⟩ := H
             have hnb31 := NB446_452.out
             have hnc31 := NB452_446.out
             have hnb32 := NB446_457.out
             have hnc32 := NB457_446.out
             have hcz33_0 : wc.cell? ⟨gb446, 0, none⟩ = some (.int .i64 0) := (blk_cell BK446.out 0).trans rfl
             have hcz33_1 : wc.cell? ⟨gb446, 1, none⟩ = some (.int .i64 0) := (blk_cell BK446.out 1).trans rfl
             have hcz33_2 : wc.cell? ⟨gb446, 2, none⟩ = some (.int .i64 0) := (blk_cell BK446.out 2).trans rfl
             have hcz33_3 : wc.cell? ⟨gb446, 3, none⟩ = some (.int .i64 0) := (blk_cell BK446.out 3).trans rfl
             have hcz33_4 : wc.cell? ⟨gb446, 4, none⟩ = some (.int .i64 0) := (blk_cell BK446.out 4).trans rfl
             have hcz33_5 : wc.cell? ⟨gb446, 5, none⟩ = some (.int .i64 0) := (blk_cell BK446.out 5).trans rfl
             have hcz33_6 : wc.cell? ⟨gb446, 6, none⟩ = some (.int .i64 0) := (blk_cell BK446.out 6).trans rfl
             have hcz33_7 : wc.cell? ⟨gb446, 7, none⟩ = some (.int .i64 0) := (blk_cell BK446.out 7).trans rfl
             have hcz33_8 : wc.cell? ⟨gb446, 8, none⟩ = some (.int .i64 0) := (blk_cell BK446.out 8).trans rfl
             have hfz33_0 := blk_frozen BK446.out 0
             have hfz33_1 := blk_frozen BK446.out 1
             have hfz33_2 := blk_frozen BK446.out 2
             have hfz33_3 := blk_frozen BK446.out 3
             have hfz33_4 := blk_frozen BK446.out 4
             have hfz33_5 := blk_frozen BK446.out 5
             have hfz33_6 := blk_frozen BK446.out 6
             have hfz33_7 := blk_frozen BK446.out 7
             have hfz33_8 := blk_frozen BK446.out 8
             go_wp2
             refine bodyPost_ret (results_ct rfl _ _ gb446 27 #[.int .i64 0, .int .i64 0, .int .i64 0, .int .i64 0, .int .i64 0, .int .i64 0, .int .i64 0, .int .i64 0, .int .i64 0] (0, 0) _ rfl (by (with_reducible repeat (first | refine blk_drewN ?_ _ | refine blk_drew ?_ | refine blk_alloc ?_ _)); refine blk_put (cs := #[.int .i64 0, .int .i64 0, .int .i64 0, .int .i64 0, .int .i64 0, .int .i64 0, .int .i64 0, .int .i64 0, .int .i64 0]) ?_ 8 _ rfl; (with_reducible repeat (first | refine blk_drewN ?_ _ | refine blk_drew ?_ | refine blk_alloc ?_ _)); refine blk_put (cs := #[.int .i64 0, .int .i64 0, .int .i64 0, .int .i64 0, .int .i64 0, .int .i64 0, .int .i64 0, .int .i64 0, .int .i64 0]) ?_ 7 _ rfl; (with_reducible repeat (first | refine blk_drewN ?_ _ | refine blk_drew ?_ | refine blk_alloc ?_ _)); refine blk_put (cs := #[.int .i64 0, .int .i64 0, .int .i64 0, .int .i64 0, .int .i64 0, .int .i64 0, .int .i64 0, .int .i64 0, .int .i64 0]) ?_ 6 _ rfl; (with_reducible repeat (first | refine blk_drewN ?_ _ | refine blk_drew ?_ | refine blk_alloc ?_ _)); refine blk_put (cs := #[.int .i64 0, .int .i64 0, .int .i64 0, .int .i64 0, .int .i64 0, .int .i64 0, .int .i64 0, .int .i64 0, .int .i64 0]) ?_ 5 _ rfl; (with_reducible repeat (first | refine blk_drewN ?_ _ | refine blk_drew ?_ | refine blk_alloc ?_ _)); refine blk_put (cs := #[.int .i64 0, .int .i64 0, .int .i64 0, .int .i64 0, .int .i64 0, .int .i64 0, .int .i64 0, .int .i64 0, .int .i64 0]) ?_ 4 _ rfl; (with_reducible repeat (first | refine blk_drewN ?_ _ | refine blk_drew ?_ | refine blk_alloc ?_ _)); refine blk_put (cs := #[.int .i64 0, .int .i64 0, .int .i64 0, .int .i64 0, .int .i64 0, .int .i64 0, .int .i64 0, .int .i64 0, .int .i64 0]) ?_ 3 _ rfl; (with_reducible repeat (first | refine blk_drewN ?_ _ | refine blk_drew ?_ | refine blk_alloc ?_ _)); refine blk_put (cs := #[.int .i64 0, .int .i64 0, .int .i64 0, .int .i64 0, .int .i64 0, .int .i64 0, .int .i64 0, .int .i64 0, .int .i64 0]) ?_ 2 _ rfl; (with_reducible repeat (first | refine blk_drewN ?_ _ | refine blk_drew ?_ | refine blk_alloc ?_ _)); refine blk_put (cs := #[.int .i64 0, .int .i64 0, .int .i64 0, .int .i64 0, .int .i64 0, .int .i64 0, .int .i64 0, .int .i64 0, .int .i64 0]) ?_ 1 _ rfl; (with_reducible repeat (first | refine blk_drewN ?_ _ | refine blk_drew ?_ | refine blk_alloc ?_ _)); refine blk_put (cs := #[.int .i64 0, .int .i64 0, .int .i64 0, .int .i64 0, .int .i64 0, .int .i64 0, .int .i64 0, .int .i64 0, .int .i64 0]) ?_ 0 _ rfl; (with_reducible repeat (first | refine blk_drewN ?_ _ | refine blk_drew ?_ | refine blk_alloc ?_ _)); exact BK446.out) Try.underlying27 rfl (by kernel_rfl)) rfl ?_
             exact ⟨by first | rfl | (simp [errW_none, errW_some] <;> rfl) | (simp [*, errW_none, errW_some] <;> rfl), by repeat (first | (with_reducible first | exact HB.out | apply below_alloc | apply pw_below_drewN | apply below_drew1 | refine below_set ?_ GE446.out | refine below_set ?_ GE452.out | refine below_set ?_ GE457.out) | exact HB.out)⟩
           · replace c30 := Bool.eq_false_iff.mpr c30
             subst c30
             have H1 : (if 0 < (a0.size : Int) then (if 1 < (a0.size : Int) then ((masterdiscref01_FromBCD.f (bt a0 1)).bind fun bt459 => (if bt459.2 = 0 then (masterdiscref10_Decode.j1 kj9 a0 bt459.1 (wrap64 ((Int.tdiv (bt a0 0) 16) % 256)) 0 0 t448 t449 t450 t453 t454 t455) else (masterdiscref10_Decode.j1 kj9 a0 (wrap64 (bt a0 1)) (wrap64 ((Int.tdiv (bt a0 0) 16) % 256)) 0 0 t448 t449 t450 t453 t454 t455))) else (none)) else (none)) = some (r1, r2, r3, r4, r5, r6, r7, r8, r9, r10) := by rw [if_neg (show ¬ (false = true) by decide)] at H; exact H
             clear H
             have H := H1
             clear H1
             by_cases c34 : 0 < (a0.size : Int)
             · rw [if_pos c34] at H
               have c34b0 : decide (0 < (a0.size : Int)) = true := decide_eq_true c34
               have c34b1 : decide (0 < a0.size) = true := decide_eq_true (by omega)
               clear c34
               by_cases c36 : 1 < (a0.size : Int)
               · rw [if_pos c36] at H
                 have c36b0 : decide (1 < (a0.size : Int)) = true := decide_eq_true c36
                 have c36b1 : decide (1 < a0.size) = true := decide_eq_true (by omega)
                 clear c36
                 replace H := Option.bind_eq_some_iff.mp H
                 obtain ⟨⟨t459, t460⟩, A380, H⟩ := H
                 replace H : (if t460 = 0 then (masterdiscref10_Decode.j1 kj9 a0 t459 (wrap64 ((Int.tdiv (bt a0 0) 16) % 256)) 0 0 t448 t449 t450 t453 t454 t455) else (masterdiscref10_Decode.j1 kj9 a0 (wrap64 (bt a0 1)) (wrap64 ((Int.tdiv (bt a0 0) 16) % 256)) 0 0 t448 t449 t450 t453 t454 t455)) = some (r1, r2, r3, r4, r5, r6, r7, r8, r9, r10) := H
                 have A38 := Aside0.mk A380
                 clear A380
                 have HC39 := Aside0.mk H
                 clear H
                 try go_wp2
                 have n0_ := Aside0.mk (blk_drew BK446.out)
                 have n1_ := Aside0.mk (blk_drew BK452.out)
                 have n2_ := Aside0.mk (blk_drew BK457.out)
                 have n3_ := Aside0.mk (below_drew1 HB.out)
                 clear BK446
                 clear BK452
                 clear BK457
                 clear HB
                 have BK446 := n0_
                 have BK452 := n1_
                 have BK457 := n2_
                 have HB := n3_
                 clear n0_ n1_ n2_ n3_
                 have p35 : 0 ≤ (0 : Int) := (by omega)
                 have q35 : 0 < a0.size := (by have : (0 : Int) < (a0.size : Int) := of_decide_eq_true (by first | (with_reducible assumption) | assumption); omega)
                 have hx35 : ∀ h : 0 < a0.size, ((a0[0]'h).toNat : Int) = bt a0 0 := bt_at a0 0
                 clear p35
                 have qi35 : (0 < (a0.size : Int)) = True := eq_true (of_decide_eq_true (by first | (with_reducible assumption) | assumption))
                 replace q35 := eq_true q35
                 refine start_ (n := 9) (S := fun w' => w'.cell? ⟨gb452, 0, none⟩ = some (.int .i64 t448) ∧ w'.cell? ⟨gb452, 1, none⟩ = some (.int .i64 t449) ∧ w'.cell? ⟨gb452, 2, none⟩ = some (.int .i64 t450) ∧ w'.cell? ⟨gb457, 0, none⟩ = some (.int .i64 t453) ∧ w'.cell? ⟨gb457, 1, none⟩ = some (.int .i64 t454) ∧ w'.cell? ⟨gb457, 2, none⟩ = some (.int .i64 t455)) (ds := []) #[false, false, false, false, false, false, false, false, false] (by kernel_rfl) rfl rfl ⟨(blk_cell BK452.out 0).trans rfl, (blk_cell BK452.out 1).trans rfl, (blk_cell BK452.out 2).trans rfl, (blk_cell BK457.out 0).trans rfl, (blk_cell BK457.out 1).trans rfl, (blk_cell BK457.out 2).trans rfl⟩ (fun hHeld => ?_); refine with_tabW masterdiscref10_Decode.tab9 masterdiscref10_Decode.bits9 (fun HT_ HW_ => ?_)
                 generalize wc.drew = w40 at BK446 BK452 BK457 HB hHeld ⊢
                 refine pure_ (i := 0) (N := some 52) (v := ?_) (a' := ?_) (mS 9 1) rfl rfl (any_of HT_.out (by kernel_rfl)) (fun _ _ _ h => h) (Or.inl ⟨by rfl, ?_⟩) ?_ ?_
                 rotate_left
                 · intro w'
                   go_simp
                   with_reducible rfl
                 rotate_left
                 · simp only [Act.put, List.setIfInBounds_toArray, List.set_cons_zero, List.set_cons_succ, i64_w, i32_w]
                   rfl
                 refine take_ (i := 1) (N := some 53) (v := ?_) (a' := ?_) (mS 9 3) rfl rfl (take_ofW HT_.out HW_.out (by kernel_rfl)) (fun _ _ _ h => h) (Or.inl ⟨by rfl, ?_⟩) hHeld ?_ ?_
                 rotate_left
                 · rintro w' ⟨s0, s1, s2, s3, s4, s5⟩
                   go_simp
                   with_reducible rfl
                 rotate_left
                 · simp only [Act.put, List.setIfInBounds_toArray, List.set_cons_zero, List.set_cons_succ, i64_w, i32_w]
                   rfl
                 refine pure_ (i := 2) (N := some 54) (v := ?_) (a' := ?_) (mS 9 7) rfl rfl (any_of HT_.out (by kernel_rfl)) (fun _ _ _ h => h) (Or.inl ⟨by rfl, ?_⟩) ?_ ?_
                 rotate_left
                 · intro w'
                   go_simp
                   with_reducible rfl
                 rotate_left
                 · simp only [Act.put, List.setIfInBounds_toArray, List.set_cons_zero, List.set_cons_succ, i64_w, i32_w]
                   rfl
                 refine pure_ (i := 3) (N := some 55) (v := ?_) (a' := ?_) (mS 9 15) rfl rfl (any_of HT_.out (by kernel_rfl)) (fun _ _ _ h => h) (Or.inl ⟨by rfl, ?_⟩) ?_ ?_
                 rotate_left
                 · intro w'
                   go_simp
                   with_reducible rfl
                 rotate_left
                 · simp only [Act.put, List.setIfInBounds_toArray, List.set_cons_zero, List.set_cons_succ, i64_w, i32_w]
                   rfl
                 refine take_ (i := 4) (N := some 56) (v := ?_) (a' := ?_) (mS 9 31) rfl rfl (take_ofW HT_.out HW_.out (by kernel_rfl)) (fun _ _ _ h => h) (Or.inl ⟨by rfl, ?_⟩) hHeld ?_ ?_
                 rotate_left
                 · rintro w' ⟨s0, s1, s2, s3, s4, s5⟩
                   go_simp
                   with_reducible rfl
                 rotate_left
                 · simp only [Act.put, List.setIfInBounds_toArray, List.set_cons_zero, List.set_cons_succ, i64_w, i32_w]
                   rfl
                 refine take_ (i := 5) (N := some 57) (v := ?_) (a' := ?_) (mS 9 63) rfl rfl (take_ofW HT_.out HW_.out (by kernel_rfl)) (fun _ _ _ h => h) (Or.inl ⟨by rfl, ?_⟩) hHeld ?_ ?_
                 rotate_left
                 · rintro w' ⟨s0, s1, s2, s3, s4, s5⟩
                   go_simp
                   with_reducible rfl
                 rotate_left
                 · simp only [Act.put, List.setIfInBounds_toArray, List.set_cons_zero, List.set_cons_succ, i64_w, i32_w]
                   rfl
                 refine pure_ (i := 6) (N := some 58) (v := ?_) (a' := ?_) (mS 9 127) rfl rfl (any_of HT_.out (by kernel_rfl)) (fun _ _ _ h => h) (Or.inl ⟨by rfl, ?_⟩) ?_ ?_
                 rotate_left
                 · intro w'
                   go_simp
                   with_reducible rfl
                 rotate_left
                 · simp only [Act.put, List.setIfInBounds_toArray, List.set_cons_zero, List.set_cons_succ, i64_w, i32_w]
                   rfl
                 refine one_ (i := 7) (N := some 8) (mS 9 255) rfl rfl (one_of HT_.out (by kernel_rfl)) (by decide) (fun K hK => ?_)
                 refine box_step ?hg (N := 8) ?hd (cs := #[.int .i64 0, .int .i64 0, .int .i64 0, .int .i64 0, .int .i64 0, .int .i64 0, .int .i64 0, .int .i64 0, .int .i64 0]) (t := 27) ?hr ?_; (case hd => rfl); (case hg => rfl); (case hr => first | (go_simp; done) | (go_simp; rfl))
                 intro gb458 hg w41 hbox hb
                 have n0_ := Aside0.mk (blk_below (g := gb446) (o := .cells #[.int .i64 0, .int .i64 0, .int .i64 0, .int .i64 0, .int .i64 0, .int .i64 0, .int .i64 0, .int .i64 0, .int .i64 0] 27 (0, 0)) (by (with_reducible repeat (first | refine blk_drewN ?_ _ | refine blk_drew ?_ | refine blk_alloc ?_ _)); exact BK446.out) hb)
                 have n1_ := Aside0.mk (blk_below (g := gb452) (o := .cells #[.int .i64 t448, .int .i64 t449, .int .i64 t450] 25 (0, 0)) (by (with_reducible repeat (first | refine blk_drewN ?_ _ | refine blk_drew ?_ | refine blk_alloc ?_ _)); exact BK452.out) hb)
                 have n2_ := Aside0.mk (blk_below (g := gb457) (o := .cells #[.int .i64 t453, .int .i64 t454, .int .i64 t455] 25 (0, 0)) (by (with_reducible repeat (first | refine blk_drewN ?_ _ | refine blk_drew ?_ | refine blk_alloc ?_ _)); exact BK457.out) hb)
                 have n3_ := Aside0.mk (below_step (by repeat (first | (with_reducible first | exact HB.out | apply below_alloc | apply pw_below_drewN | apply below_drew1 | refine below_set ?_ GE446.out | refine below_set ?_ GE452.out | refine below_set ?_ GE457.out) | exact HB.out)) hb)
                 have n4_ := Aside0.mk (hbox)
                 have n5_ := Aside0.mk ((by rw [hg]; exact (below_size (by repeat (first | (with_reducible first | exact HB.out | apply below_alloc | apply pw_below_drewN | apply below_drew1 | refine below_set ?_ GE446.out | refine below_set ?_ GE452.out | refine below_set ?_ GE457.out) | exact HB.out))) : w.heap.size ≤ gb458))
                 have n6_ := Aside0.mk ((by rw [hg]; exact (below_size (by repeat (first | (with_reducible first | exact HB.out | apply below_alloc | apply pw_below_drewN | apply below_drew1 | refine below_set ?_ GE446.out | refine below_set ?_ GE452.out | refine below_set ?_ GE457.out) | exact HB.out))) : w.heap.size ≤ gb458))
                 have n7_ := Aside0.mk ((by rw [hg]; exact Nat.ne_of_lt (blk_lt (g := gb446) (o := .cells #[.int .i64 0, .int .i64 0, .int .i64 0, .int .i64 0, .int .i64 0, .int .i64 0, .int .i64 0, .int .i64 0, .int .i64 0] 27 (0, 0)) (by (with_reducible repeat (first | refine blk_drewN ?_ _ | refine blk_drew ?_ | refine blk_alloc ?_ _)); exact BK446.out)) : gb446 ≠ gb458))
                 have n8_ := Aside0.mk ((by rw [hg]; exact Nat.ne_of_gt (blk_lt (g := gb446) (o := .cells #[.int .i64 0, .int .i64 0, .int .i64 0, .int .i64 0, .int .i64 0, .int .i64 0, .int .i64 0, .int .i64 0, .int .i64 0] 27 (0, 0)) (by (with_reducible repeat (first | refine blk_drewN ?_ _ | refine blk_drew ?_ | refine blk_alloc ?_ _)); exact BK446.out)) : gb458 ≠ gb446))
                 have n9_ := Aside0.mk ((by rw [hg]; exact Nat.ne_of_lt (blk_lt (g := gb452) (o := .cells #[.int .i64 t448, .int .i64 t449, .int .i64 t450] 25 (0, 0)) (by (with_reducible repeat (first | refine blk_drewN ?_ _ | refine blk_drew ?_ | refine blk_alloc ?_ _)); exact BK452.out)) : gb452 ≠ gb458))
                 have n10_ := Aside0.mk ((by rw [hg]; exact Nat.ne_of_gt (blk_lt (g := gb452) (o := .cells #[.int .i64 t448, .int .i64 t449, .int .i64 t450] 25 (0, 0)) (by (with_reducible repeat (first | refine blk_drewN ?_ _ | refine blk_drew ?_ | refine blk_alloc ?_ _)); exact BK452.out)) : gb458 ≠ gb452))
                 have n11_ := Aside0.mk ((by rw [hg]; exact Nat.ne_of_lt (blk_lt (g := gb457) (o := .cells #[.int .i64 t453, .int .i64 t454, .int .i64 t455] 25 (0, 0)) (by (with_reducible repeat (first | refine blk_drewN ?_ _ | refine blk_drew ?_ | refine blk_alloc ?_ _)); exact BK457.out)) : gb457 ≠ gb458))
                 have n12_ := Aside0.mk ((by rw [hg]; exact Nat.ne_of_gt (blk_lt (g := gb457) (o := .cells #[.int .i64 t453, .int .i64 t454, .int .i64 t455] 25 (0, 0)) (by (with_reducible repeat (first | refine blk_drewN ?_ _ | refine blk_drew ?_ | refine blk_alloc ?_ _)); exact BK457.out)) : gb458 ≠ gb457))
                 clear BK446
                 clear BK452
                 clear BK457
                 clear HB
                 have BK446 := n0_
                 have BK452 := n1_
                 have BK457 := n2_
                 have HB := n3_
                 have BK458 := n4_
                 have GW458 := n5_
                 have GE458 := n6_
                 have NB446_458 := n7_
                 have NB458_446 := n8_
                 have NB452_458 := n9_
                 have NB458_452 := n10_
                 have NB457_458 := n11_
                 have NB458_457 := n12_
                 clear n0_ n1_ n2_ n3_ n4_ n5_ n6_ n7_ n8_ n9_ n10_ n11_ n12_
                 clear hb hbox hg
                 refine hK.out _ _ ⟨(blk_cell BK452.out 0).trans rfl, (blk_cell BK452.out 1).trans rfl, (blk_cell BK452.out 2).trans rfl, (blk_cell BK457.out 0).trans rfl, (blk_cell BK457.out 1).trans rfl, (blk_cell BK457.out 2).trans rfl⟩ (fun hHeld => ?_)
                 clear hK K
                 refine norm_ (a' := ?_) ?_ ?_
                 rotate_left
                 · show Act.put _ (some 8) _ = _
                   simp only [Act.put, List.setIfInBounds_toArray, List.set_cons_zero, List.set_cons_succ, i64_w, i32_w]
                   rfl
                 refine one_ (i := 8) (N := none) (mS 9 511) rfl rfl (one_of HT_.out (by kernel_rfl)) (by decide) (fun K hK => ?_)
                 have hs42 : w41.cell? ⟨gb458, 0, none⟩ = some (.int .i64 0) := (blk_cell BK458.out 0).trans rfl
                 have hfs42 := blk_frozen BK458.out 0
                 have hns42_0 := NB446_458.out
                 have hns42_1 := NB452_458.out
                 have hns42_2 := NB457_458.out
                 have hms42_0 := NB458_446.out
                 have hms42_1 := NB458_452.out
                 have hms42_2 := NB458_457.out
                 have hs43 : w41.cell? ⟨gb458, 1, none⟩ = some (.int .i64 0) := (blk_cell BK458.out 1).trans rfl
                 have hfs43 := blk_frozen BK458.out 1
                 have hns43_0 := NB446_458.out
                 have hns43_1 := NB452_458.out
                 have hns43_2 := NB457_458.out
                 have hms43_0 := NB458_446.out
                 have hms43_1 := NB458_452.out
                 have hms43_2 := NB458_457.out
                 have hs44 : w41.cell? ⟨gb458, 2, none⟩ = some (.int .i64 0) := (blk_cell BK458.out 2).trans rfl
                 have hfs44 := blk_frozen BK458.out 2
                 have hns44_0 := NB446_458.out
                 have hns44_1 := NB452_458.out
                 have hns44_2 := NB457_458.out
                 have hms44_0 := NB458_446.out
                 have hms44_1 := NB458_452.out
                 have hms44_2 := NB458_457.out
                 have hs45 : w41.cell? ⟨gb458, 3, none⟩ = some (.int .i64 0) := (blk_cell BK458.out 3).trans rfl
                 have hfs45 := blk_frozen BK458.out 3
                 have hns45_0 := NB446_458.out
                 have hns45_1 := NB452_458.out
                 have hns45_2 := NB457_458.out
                 have hms45_0 := NB458_446.out
                 have hms45_1 := NB458_452.out
                 have hms45_2 := NB458_457.out
                 have hs46 : w41.cell? ⟨gb458, 4, none⟩ = some (.int .i64 0) := (blk_cell BK458.out 4).trans rfl
                 have hfs46 := blk_frozen BK458.out 4
                 have hns46_0 := NB446_458.out
                 have hns46_1 := NB452_458.out
                 have hns46_2 := NB457_458.out
                 have hms46_0 := NB458_446.out
                 have hms46_1 := NB458_452.out
                 have hms46_2 := NB458_457.out
                 have hs47 : w41.cell? ⟨gb458, 5, none⟩ = some (.int .i64 0) := (blk_cell BK458.out 5).trans rfl
                 have hfs47 := blk_frozen BK458.out 5
                 have hns47_0 := NB446_458.out
                 have hns47_1 := NB452_458.out
                 have hns47_2 := NB457_458.out
                 have hms47_0 := NB458_446.out
                 have hms47_1 := NB458_452.out
                 have hms47_2 := NB458_457.out
                 have hs48 : w41.cell? ⟨gb458, 6, none⟩ = some (.int .i64 0) := (blk_cell BK458.out 6).trans rfl
                 have hfs48 := blk_frozen BK458.out 6
                 have hns48_0 := NB446_458.out
                 have hns48_1 := NB452_458.out
                 have hns48_2 := NB457_458.out
                 have hms48_0 := NB458_446.out
                 have hms48_1 := NB458_452.out
                 have hms48_2 := NB458_457.out
                 have hs49 : w41.cell? ⟨gb458, 7, none⟩ = some (.int .i64 0) := (blk_cell BK458.out 7).trans rfl
                 have hfs49 := blk_frozen BK458.out 7
                 have hns49_0 := NB446_458.out
                 have hns49_1 := NB452_458.out
                 have hns49_2 := NB457_458.out
                 have hms49_0 := NB458_446.out
                 have hms49_1 := NB458_452.out
                 have hms49_2 := NB458_457.out
                 have hs50 : w41.cell? ⟨gb458, 8, none⟩ = some (.int .i64 0) := (blk_cell BK458.out 8).trans rfl
                 have hfs50 := blk_frozen BK458.out 8
                 have hns50_0 := NB446_458.out
                 have hns50_1 := NB452_458.out
                 have hns50_2 := NB457_458.out
                 have hms50_0 := NB458_446.out
                 have hms50_1 := NB458_452.out
                 have hms50_2 := NB458_457.out
                 refine skip_ (w1 := ?_) (by rfl) rfl ?_ ?_
                 rotate_left
                 · go_simp
                   rfl
                 refine hK.out _ _ ⟨((cell_far (p := ⟨gb458, _, none⟩) NB452_458.out _).trans (((cell_far (p := ⟨gb458, _, none⟩) NB452_458.out _).trans (((cell_far (p := ⟨gb458, _, none⟩) NB452_458.out _).trans (((cell_far (p := ⟨gb458, _, none⟩) NB452_458.out _).trans (((cell_far (p := ⟨gb458, _, none⟩) NB452_458.out _).trans (((cell_far (p := ⟨gb458, _, none⟩) NB452_458.out _).trans (((cell_far (p := ⟨gb458, _, none⟩) NB452_458.out _).trans (((cell_far (p := ⟨gb458, _, none⟩) NB452_458.out _).trans (((cell_far (p := ⟨gb458, _, none⟩) NB452_458.out _).trans (hHeld.1)))))))))))))))))), ((cell_far (p := ⟨gb458, _, none⟩) NB452_458.out _).trans (((cell_far (p := ⟨gb458, _, none⟩) NB452_458.out _).trans (((cell_far (p := ⟨gb458, _, none⟩) NB452_458.out _).trans (((cell_far (p := ⟨gb458, _, none⟩) NB452_458.out _).trans (((cell_far (p := ⟨gb458, _, none⟩) NB452_458.out _).trans (((cell_far (p := ⟨gb458, _, none⟩) NB452_458.out _).trans (((cell_far (p := ⟨gb458, _, none⟩) NB452_458.out _).trans (((cell_far (p := ⟨gb458, _, none⟩) NB452_458.out _).trans (((cell_far (p := ⟨gb458, _, none⟩) NB452_458.out _).trans (hHeld.2.1)))))))))))))))))), ((cell_far (p := ⟨gb458, _, none⟩) NB452_458.out _).trans (((cell_far (p := ⟨gb458, _, none⟩) NB452_458.out _).trans (((cell_far (p := ⟨gb458, _, none⟩) NB452_458.out _).trans (((cell_far (p := ⟨gb458, _, none⟩) NB452_458.out _).trans (((cell_far (p := ⟨gb458, _, none⟩) NB452_458.out _).trans (((cell_far (p := ⟨gb458, _, none⟩) NB452_458.out _).trans (((cell_far (p := ⟨gb458, _, none⟩) NB452_458.out _).trans (((cell_far (p := ⟨gb458, _, none⟩) NB452_458.out _).trans (((cell_far (p := ⟨gb458, _, none⟩) NB452_458.out _).trans (hHeld.2.2.1)))))))))))))))))), ((cell_far (p := ⟨gb458, _, none⟩) NB457_458.out _).trans (((cell_far (p := ⟨gb458, _, none⟩) NB457_458.out _).trans (((cell_far (p := ⟨gb458, _, none⟩) NB457_458.out _).trans (((cell_far (p := ⟨gb458, _, none⟩) NB457_458.out _).trans (((cell_far (p := ⟨gb458, _, none⟩) NB457_458.out _).trans (((cell_far (p := ⟨gb458, _, none⟩) NB457_458.out _).trans (((cell_far (p := ⟨gb458, _, none⟩) NB457_458.out _).trans (((cell_far (p := ⟨gb458, _, none⟩) NB457_458.out _).trans (((cell_far (p := ⟨gb458, _, none⟩) NB457_458.out _).trans (hHeld.2.2.2.1)))))))))))))))))), ((cell_far (p := ⟨gb458, _, none⟩) NB457_458.out _).trans (((cell_far (p := ⟨gb458, _, none⟩) NB457_458.out _).trans (((cell_far (p := ⟨gb458, _, none⟩) NB457_458.out _).trans (((cell_far (p := ⟨gb458, _, none⟩) NB457_458.out _).trans (((cell_far (p := ⟨gb458, _, none⟩) NB457_458.out _).trans (((cell_far (p := ⟨gb458, _, none⟩) NB457_458.out _).trans (((cell_far (p := ⟨gb458, _, none⟩) NB457_458.out _).trans (((cell_far (p := ⟨gb458, _, none⟩) NB457_458.out _).trans (((cell_far (p := ⟨gb458, _, none⟩) NB457_458.out _).trans (hHeld.2.2.2.2.1)))))))))))))))))), ((cell_far (p := ⟨gb458, _, none⟩) NB457_458.out _).trans (((cell_far (p := ⟨gb458, _, none⟩) NB457_458.out _).trans (((cell_far (p := ⟨gb458, _, none⟩) NB457_458.out _).trans (((cell_far (p := ⟨gb458, _, none⟩) NB457_458.out _).trans (((cell_far (p := ⟨gb458, _, none⟩) NB457_458.out _).trans (((cell_far (p := ⟨gb458, _, none⟩) NB457_458.out _).trans (((cell_far (p := ⟨gb458, _, none⟩) NB457_458.out _).trans (((cell_far (p := ⟨gb458, _, none⟩) NB457_458.out _).trans (((cell_far (p := ⟨gb458, _, none⟩) NB457_458.out _).trans (hHeld.2.2.2.2.2))))))))))))))))))⟩ (fun hHeld => ?_)
                 clear hK K
                 refine done_ (done_of HT_.out (by kernel_rfl)) ?_
                 have p37 : 0 ≤ (1 : Int) := (by omega)
                 have q37 : 1 < a0.size := (by have : (1 : Int) < (a0.size : Int) := of_decide_eq_true (by first | (with_reducible assumption) | assumption); omega)
                 have hx37 : ∀ h : 1 < a0.size, ((a0[1]'h).toNat : Int) = bt a0 1 := bt_at a0 1
                 clear p37
                 have qi37 : (1 < (a0.size : Int)) = True := eq_true (of_decide_eq_true (by first | (with_reducible assumption) | assumption))
                 replace q37 := eq_true q37
                 go_upto_if 66 with (first | ((with_reducible refine gate_callee (f := 53) rfl ?_); refine goesL_ (some 62) rfl rfl Try.func53 (by kernel_rfl) rfl #[.int .u8 (bt a0 1)] rfl (by (try simp only [List.map_toArray, List.map_cons, List.map_nil]); first | done | rfl | (simp only [List.length_drop, List.length_take]; rfl)) ?_; (with_reducible refine (masterdiscref01_FromBCD.calls (bt a0 1) t459 t460 _ A38.out).mono ?_); rintro e w' ⟨rfl, ⟨nd, rfl⟩⟩; refine ⟨_, rfl, ?_⟩))
                 (try simp only [Act.put, List.setIfInBounds_toArray, List.set_cons_zero, List.set_cons_succ])
                 go_cut [9] (fun v9 wc => ∃ (kq : Nat) (x9_38 : Int), v9 = .int .i64 x9_38 ∧ Aside0 (masterdiscref10_Decode.j1 kq a0 x9_38 (wrap64 ((Int.tdiv (bt a0 0) 16) % 256)) 0 0 t448 t449 t450 t453 t454 t455 = some (r1, r2, r3, r4, r5, r6, r7, r8, r9, r10)) ∧ Aside0 (kq ≤ kj9) ∧ Aside0 (wc.heap[gb446]? = some (.cells #[.int .i64 0, .int .i64 0, .int .i64 0, .int .i64 0, .int .i64 0, .int .i64 0, .int .i64 0, .int .i64 0, .int .i64 0] 27 (0, 0))) ∧ Aside0 (wc.heap[gb452]? = some (.cells #[.int .i64 t448, .int .i64 t449, .int .i64 t450] 25 (0, 0))) ∧ Aside0 (wc.heap[gb457]? = some (.cells #[.int .i64 t453, .int .i64 t454, .int .i64 t455] 25 (0, 0))) ∧ Aside0 (wc.heap[gb458]? = some (.cells #[.int .i64 (wrap64 ((Int.tdiv (bt a0 0) 16) % 256)), .int .i64 0, .int .i64 0, .int .i64 t448, .int .i64 t449, .int .i64 t450, .int .i64 t453, .int .i64 t454, .int .i64 t455] 27 (0, 0))) ∧ Aside0 (Below w.heap.size w wc))
                 case first =>
                  have H := HC39.out
                  clear HC39
                  by_cases c51 : t460 = 0
                  · rw [if_pos c51] at H
                    have c51b0 : (t460 == 0) = true := beq_iff_eq.mpr c51
                    have c51b1 : (t460 != 0) = false := bne_eq_false_iff_eq.mpr c51
                    clear c51
                    (first | rw [c51b0] | (simp only [i64_w, i32_w]; rw [c51b0]) | skip)
                    have H' := Aside0.mk H
                    clear H
                    go_wp2
                    go_meet
                    case rel => exact ⟨_, (t459), (by first | rfl | (simp; done) | (simp [*]; done)), H', ⟨by have := HJ9.out; first | omega | exact Nat.le_refl _⟩, ⟨by (with_reducible repeat (first | refine blk_drewN ?_ _ | refine blk_drew ?_ | refine blk_alloc ?_ _)); refine blk_far ?_ NB446_458.out _; (with_reducible repeat (first | refine blk_drewN ?_ _ | refine blk_drew ?_ | refine blk_alloc ?_ _)); refine blk_far ?_ NB446_458.out _; (with_reducible repeat (first | refine blk_drewN ?_ _ | refine blk_drew ?_ | refine blk_alloc ?_ _)); refine blk_far ?_ NB446_458.out _; (with_reducible repeat (first | refine blk_drewN ?_ _ | refine blk_drew ?_ | refine blk_alloc ?_ _)); refine blk_far ?_ NB446_458.out _; (with_reducible repeat (first | refine blk_drewN ?_ _ | refine blk_drew ?_ | refine blk_alloc ?_ _)); refine blk_far ?_ NB446_458.out _; (with_reducible repeat (first | refine blk_drewN ?_ _ | refine blk_drew ?_ | refine blk_alloc ?_ _)); refine blk_far ?_ NB446_458.out _; (with_reducible repeat (first | refine blk_drewN ?_ _ | refine blk_drew ?_ | refine blk_alloc ?_ _)); refine blk_far ?_ NB446_458.out _; (with_reducible repeat (first | refine blk_drewN ?_ _ | refine blk_drew ?_ | refine blk_alloc ?_ _)); refine blk_far ?_ NB446_458.out _; (with_reducible repeat (first | refine blk_drewN ?_ _ | refine blk_drew ?_ | refine blk_alloc ?_ _)); refine blk_far ?_ NB446_458.out _; (with_reducible repeat (first | refine blk_drewN ?_ _ | refine blk_drew ?_ | refine blk_alloc ?_ _)); exact BK446.out⟩, ⟨by (with_reducible repeat (first | refine blk_drewN ?_ _ | refine blk_drew ?_ | refine blk_alloc ?_ _)); refine blk_far ?_ NB452_458.out _; (with_reducible repeat (first | refine blk_drewN ?_ _ | refine blk_drew ?_ | refine blk_alloc ?_ _)); refine blk_far ?_ NB452_458.out _; (with_reducible repeat (first | refine blk_drewN ?_ _ | refine blk_drew ?_ | refine blk_alloc ?_ _)); refine blk_far ?_ NB452_458.out _; (with_reducible repeat (first | refine blk_drewN ?_ _ | refine blk_drew ?_ | refine blk_alloc ?_ _)); refine blk_far ?_ NB452_458.out _; (with_reducible repeat (first | refine blk_drewN ?_ _ | refine blk_drew ?_ | refine blk_alloc ?_ _)); refine blk_far ?_ NB452_458.out _; (with_reducible repeat (first | refine blk_drewN ?_ _ | refine blk_drew ?_ | refine blk_alloc ?_ _)); refine blk_far ?_ NB452_458.out _; (with_reducible repeat (first | refine blk_drewN ?_ _ | refine blk_drew ?_ | refine blk_alloc ?_ _)); refine blk_far ?_ NB452_458.out _; (with_reducible repeat (first | refine blk_drewN ?_ _ | refine blk_drew ?_ | refine blk_alloc ?_ _)); refine blk_far ?_ NB452_458.out _; (with_reducible repeat (first | refine blk_drewN ?_ _ | refine blk_drew ?_ | refine blk_alloc ?_ _)); refine blk_far ?_ NB452_458.out _; (with_reducible repeat (first | refine blk_drewN ?_ _ | refine blk_drew ?_ | refine blk_alloc ?_ _)); exact BK452.out⟩, ⟨by (with_reducible repeat (first | refine blk_drewN ?_ _ | refine blk_drew ?_ | refine blk_alloc ?_ _)); refine blk_far ?_ NB457_458.out _; (with_reducible repeat (first | refine blk_drewN ?_ _ | refine blk_drew ?_ | refine blk_alloc ?_ _)); refine blk_far ?_ NB457_458.out _; (with_reducible repeat (first | refine blk_drewN ?_ _ | refine blk_drew ?_ | refine blk_alloc ?_ _)); refine blk_far ?_ NB457_458.out _; (with_reducible repeat (first | refine blk_drewN ?_ _ | refine blk_drew ?_ | refine blk_alloc ?_ _)); refine blk_far ?_ NB457_458.out _; (with_reducible repeat (first | refine blk_drewN ?_ _ | refine blk_drew ?_ | refine blk_alloc ?_ _)); refine blk_far ?_ NB457_458.out _; (with_reducible repeat (first | refine blk_drewN ?_ _ | refine blk_drew ?_ | refine blk_alloc ?_ _)); refine blk_far ?_ NB457_458.out _; (with_reducible repeat (first | refine blk_drewN ?_ _ | refine blk_drew ?_ | refine blk_alloc ?_ _)); refine blk_far ?_ NB457_458.out _; (with_reducible repeat (first | refine blk_drewN ?_ _ | refine blk_drew ?_ | refine blk_alloc ?_ _)); refine blk_far ?_ NB457_458.out _; (with_reducible repeat (first | refine blk_drewN ?_ _ | refine blk_drew ?_ | refine blk_alloc ?_ _)); refine blk_far ?_ NB457_458.out _; (with_reducible repeat (first | refine blk_drewN ?_ _ | refine blk_drew ?_ | refine blk_alloc ?_ _)); exact BK457.out⟩, ⟨by (with_reducible repeat (first | refine blk_drewN ?_ _ | refine blk_drew ?_ | refine blk_alloc ?_ _)); refine blk_put (cs := #[.int .i64 (wrap64 ((Int.tdiv (bt a0 0) 16) % 256)), .int .i64 0, .int .i64 0, .int .i64 t448, .int .i64 t449, .int .i64 t450, .int .i64 t453, .int .i64 t454, .int .i64 0]) ?_ 8 _ rfl; (with_reducible repeat (first | refine blk_drewN ?_ _ | refine blk_drew ?_ | refine blk_alloc ?_ _)); refine blk_put (cs := #[.int .i64 (wrap64 ((Int.tdiv (bt a0 0) 16) % 256)), .int .i64 0, .int .i64 0, .int .i64 t448, .int .i64 t449, .int .i64 t450, .int .i64 t453, .int .i64 0, .int .i64 0]) ?_ 7 _ rfl; (with_reducible repeat (first | refine blk_drewN ?_ _ | refine blk_drew ?_ | refine blk_alloc ?_ _)); refine blk_put (cs := #[.int .i64 (wrap64 ((Int.tdiv (bt a0 0) 16) % 256)), .int .i64 0, .int .i64 0, .int .i64 t448, .int .i64 t449, .int .i64 t450, .int .i64 0, .int .i64 0, .int .i64 0]) ?_ 6 _ rfl; (with_reducible repeat (first | refine blk_drewN ?_ _ | refine blk_drew ?_ | refine blk_alloc ?_ _)); refine blk_put (cs := #[.int .i64 (wrap64 ((Int.tdiv (bt a0 0) 16) % 256)), .int .i64 0, .int .i64 0, .int .i64 t448, .int .i64 t449, .int .i64 0, .int .i64 0, .int .i64 0, .int .i64 0]) ?_ 5 _ rfl; (with_reducible repeat (first | refine blk_drewN ?_ _ | refine blk_drew ?_ | refine blk_alloc ?_ _)); refine blk_put (cs := #[.int .i64 (wrap64 ((Int.tdiv (bt a0 0) 16) % 256)), .int .i64 0, .int .i64 0, .int .i64 t448, .int .i64 0, .int .i64 0, .int .i64 0, .int .i64 0, .int .i64 0]) ?_ 4 _ rfl; (with_reducible repeat (first | refine blk_drewN ?_ _ | refine blk_drew ?_ | refine blk_alloc ?_ _)); refine blk_put (cs := #[.int .i64 (wrap64 ((Int.tdiv (bt a0 0) 16) % 256)), .int .i64 0, .int .i64 0, .int .i64 0, .int .i64 0, .int .i64 0, .int .i64 0, .int .i64 0, .int .i64 0]) ?_ 3 _ rfl; (with_reducible repeat (first | refine blk_drewN ?_ _ | refine blk_drew ?_ | refine blk_alloc ?_ _)); refine blk_put (cs := #[.int .i64 (wrap64 ((Int.tdiv (bt a0 0) 16) % 256)), .int .i64 0, .int .i64 0, .int .i64 0, .int .i64 0, .int .i64 0, .int .i64 0, .int .i64 0, .int .i64 0]) ?_ 2 _ rfl; (with_reducible repeat (first | refine blk_drewN ?_ _ | refine blk_drew ?_ | refine blk_alloc ?_ _)); refine blk_put (cs := #[.int .i64 (wrap64 ((Int.tdiv (bt a0 0) 16) % 256)), .int .i64 0, .int .i64 0, .int .i64 0, .int .i64 0, .int .i64 0, .int .i64 0, .int .i64 0, .int .i64 0]) ?_ 1 _ rfl; (with_reducible repeat (first | refine blk_drewN ?_ _ | refine blk_drew ?_ | refine blk_alloc ?_ _)); refine blk_put (cs := #[.int .i64 0, .int .i64 0, .int .i64 0, .int .i64 0, .int .i64 0, .int .i64 0, .int .i64 0, .int .i64 0, .int .i64 0]) ?_ 0 _ rfl; (with_reducible repeat (first | refine blk_drewN ?_ _ | refine blk_drew ?_ | refine blk_alloc ?_ _)); exact BK458.out⟩, ⟨by repeat (first | (with_reducible first | exact HB.out | apply below_alloc | apply pw_below_drewN | apply below_drew1 | refine below_set ?_ GE446.out | refine below_set ?_ GE452.out | refine below_set ?_ GE457.out | refine below_set ?_ GE458.out) | exact HB.out)⟩⟩
                  · rw [if_neg c51] at H
                    have c51b0 : (t460 == 0) = false := beq_eq_false_iff_ne.mpr c51
                    have c51b1 : (t460 != 0) = true := bne_iff_ne.mpr c51
                    (first | rw [c51b0] | (simp only [i64_w, i32_w]; rw [c51b0]) | skip)
                    have H' := Aside0.mk H
                    clear H
                    have p52 : 0 ≤ (1 : Int) := (by omega)
                    have q52 : 1 < a0.size := (by have : (1 : Int) < (a0.size : Int) := of_decide_eq_true (by first | (with_reducible assumption) | assumption); omega)
                    have hx52 : ∀ h : 1 < a0.size, ((a0[1]'h).toNat : Int) = bt a0 1 := bt_at a0 1
                    clear p52
                    have qi52 : (1 < (a0.size : Int)) = True := eq_true (of_decide_eq_true (by first | (with_reducible assumption) | assumption))
                    replace q52 := eq_true q52
                    go_wp2
                    go_meet
                    case rel => exact ⟨_, (wrap64 (bt a0 1)), (by first | rfl | (simp; done) | (simp [*]; done)), H', ⟨by have := HJ9.out; first | omega | exact Nat.le_refl _⟩, ⟨by (with_reducible repeat (first | refine blk_drewN ?_ _ | refine blk_drew ?_ | refine blk_alloc ?_ _)); refine blk_far ?_ NB446_458.out _; (with_reducible repeat (first | refine blk_drewN ?_ _ | refine blk_drew ?_ | refine blk_alloc ?_ _)); refine blk_far ?_ NB446_458.out _; (with_reducible repeat (first | refine blk_drewN ?_ _ | refine blk_drew ?_ | refine blk_alloc ?_ _)); refine blk_far ?_ NB446_458.out _; (with_reducible repeat (first | refine blk_drewN ?_ _ | refine blk_drew ?_ | refine blk_alloc ?_ _)); refine blk_far ?_ NB446_458.out _; (with_reducible repeat (first | refine blk_drewN ?_ _ | refine blk_drew ?_ | refine blk_alloc ?_ _)); refine blk_far ?_ NB446_458.out _; (with_reducible repeat (first | refine blk_drewN ?_ _ | refine blk_drew ?_ | refine blk_alloc ?_ _)); refine blk_far ?_ NB446_458.out _; (with_reducible repeat (first | refine blk_drewN ?_ _ | refine blk_drew ?_ | refine blk_alloc ?_ _)); refine blk_far ?_ NB446_458.out _; (with_reducible repeat (first | refine blk_drewN ?_ _ | refine blk_drew ?_ | refine blk_alloc ?_ _)); refine blk_far ?_ NB446_458.out _; (with_reducible repeat (first | refine blk_drewN ?_ _ | refine blk_drew ?_ | refine blk_alloc ?_ _)); refine blk_far ?_ NB446_458.out _; (with_reducible repeat (first | refine blk_drewN ?_ _ | refine blk_drew ?_ | refine blk_alloc ?_ _)); exact BK446.out⟩, ⟨by (with_reducible repeat (first | refine blk_drewN ?_ _ | refine blk_drew ?_ | refine blk_alloc ?_ _)); refine blk_far ?_ NB452_458.out _; (with_reducible repeat (first | refine blk_drewN ?_ _ | refine blk_drew ?_ | refine blk_alloc ?_ _)); refine blk_far ?_ NB452_458.out _; (with_reducible repeat (first | refine blk_drewN ?_ _ | refine blk_drew ?_ | refine blk_alloc ?_ _)); refine blk_far ?_ NB452_458.out _; (with_reducible repeat (first | refine blk_drewN ?_ _ | refine blk_drew ?_ | refine blk_alloc ?_ _)); refine blk_far ?_ NB452_458.out _; (with_reducible repeat (first | refine blk_drewN ?_ _ | refine blk_drew ?_ | refine blk_alloc ?_ _)); refine blk_far ?_ NB452_458.out _; (with_reducible repeat (first | refine blk_drewN ?_ _ | refine blk_drew ?_ | refine blk_alloc ?_ _)); refine blk_far ?_ NB452_458.out _; (with_reducible repeat (first | refine blk_drewN ?_ _ | refine blk_drew ?_ | refine blk_alloc ?_ _)); refine blk_far ?_ NB452_458.out _; (with_reducible repeat (first | refine blk_drewN ?_ _ | refine blk_drew ?_ | refine blk_alloc ?_ _)); refine blk_far ?_ NB452_458.out _; (with_reducible repeat (first | refine blk_drewN ?_ _ | refine blk_drew ?_ | refine blk_alloc ?_ _)); refine blk_far ?_ NB452_458.out _; (with_reducible repeat (first | refine blk_drewN ?_ _ | refine blk_drew ?_ | refine blk_alloc ?_ _)); exact BK452.out⟩, ⟨by (with_reducible repeat (first | refine blk_drewN ?_ _ | refine blk_drew ?_ | refine blk_alloc ?_ _)); refine blk_far ?_ NB457_458.out _; (with_reducible repeat (first | refine blk_drewN ?_ _ | refine blk_drew ?_ | refine blk_alloc ?_ _)); refine blk_far ?_ NB457_458.out _; (with_reducible repeat (first | refine blk_drewN ?_ _ | refine blk_drew ?_ | refine blk_alloc ?_ _)); refine blk_far ?_ NB457_458.out _; (with_reducible repeat (first | refine blk_drewN ?_ _ | refine blk_drew ?_ | refine blk_alloc ?_ _)); refine blk_far ?_ NB457_458.out _; (with_reducible repeat (first | refine blk_drewN ?_ _ | refine blk_drew ?_ | refine blk_alloc ?_ _)); refine blk_far ?_ NB457_458.out _; (with_reducible repeat (first | refine blk_drewN ?_ _ | refine blk_drew ?_ | refine blk_alloc ?_ _)); refine blk_far ?_ NB457_458.out _; (with_reducible repeat (first | refine blk_drewN ?_ _ | refine blk_drew ?_ | refine blk_alloc ?_ _)); refine blk_far ?_ NB457_458.out _; (with_reducible repeat (first | refine blk_drewN ?_ _ | refine blk_drew ?_ | refine blk_alloc ?_ _)); refine blk_far ?_ NB457_458.out _; (with_reducible repeat (first | refine blk_drewN ?_ _ | refine blk_drew ?_ | refine blk_alloc ?_ _)); refine blk_far ?_ NB457_458.out _; (with_reducible repeat (first | refine blk_drewN ?_ _ | refine blk_drew ?_ | refine blk_alloc ?_ _)); exact BK457.out⟩, ⟨by (with_reducible repeat (first | refine blk_drewN ?_ _ | refine blk_drew ?_ | refine blk_alloc ?_ _)); refine blk_put (cs := #[.int .i64 (wrap64 ((Int.tdiv (bt a0 0) 16) % 256)), .int .i64 0, .int .i64 0, .int .i64 t448, .int .i64 t449, .int .i64 t450, .int .i64 t453, .int .i64 t454, .int .i64 0]) ?_ 8 _ rfl; (with_reducible repeat (first | refine blk_drewN ?_ _ | refine blk_drew ?_ | refine blk_alloc ?_ _)); refine blk_put (cs := #[.int .i64 (wrap64 ((Int.tdiv (bt a0 0) 16) % 256)), .int .i64 0, .int .i64 0, .int .i64 t448, .int .i64 t449, .int .i64 t450, .int .i64 t453, .int .i64 0, .int .i64 0]) ?_ 7 _ rfl; (with_reducible repeat (first | refine blk_drewN ?_ _ | refine blk_drew ?_ | refine blk_alloc ?_ _)); refine blk_put (cs := #[.int .i64 (wrap64 ((Int.tdiv (bt a0 0) 16) % 256)), .int .i64 0, .int .i64 0, .int .i64 t448, .int .i64 t449, .int .i64 t450, .int .i64 0, .int .i64 0, .int .i64 0]) ?_ 6 _ rfl; (with_reducible repeat (first | refine blk_drewN ?_ _ | refine blk_drew ?_ | refine blk_alloc ?_ _)); refine blk_put (cs := #[.int .i64 (wrap64 ((Int.tdiv (bt a0 0) 16) % 256)), .int .i64 0, .int .i64 0, .int .i64 t448, .int .i64 t449, .int .i64 0, .int .i64 0, .int .i64 0, .int .i64 0]) ?_ 5 _ rfl; (with_reducible repeat (first | refine blk_drewN ?_ _ | refine blk_drew ?_ | refine blk_alloc ?_ _)); refine blk_put (cs := #[.int .i64 (wrap64 ((Int.tdiv (bt a0 0) 16) % 256)), .int .i64 0, .int .i64 0, .int .i64 t448, .int .i64 0, .int .i64 0, .int .i64 0, .int .i64 0, .int .i64 0]) ?_ 4 _ rfl; (with_reducible repeat (first | refine blk_drewN ?_ _ | refine blk_drew ?_ | refine blk_alloc ?_ _)); refine blk_put (cs := #[.int .i64 (wrap64 ((Int.tdiv (bt a0 0) 16) % 256)), .int .i64 0, .int .i64 0, .int .i64 0, .int .i64 0, .int .i64 0, .int .i64 0, .int .i64 0, .int .i64 0]) ?_ 3 _ rfl; (with_reducible repeat (first | refine blk_drewN ?_ _ | refine blk_drew ?_ | refine blk_alloc ?_ _)); refine blk_put (cs := #[.int .i64 (wrap64 ((Int.tdiv (bt a0 0) 16) % 256)), .int .i64 0, .int .i64 0, .int .i64 0, .int .i64 0, .int .i64 0, .int .i64 0, .int .i64 0, .int .i64 0]) ?_ 2 _ rfl; (with_reducible repeat (first | refine blk_drewN ?_ _ | refine blk_drew ?_ | refine blk_alloc ?_ _)); refine blk_put (cs := #[.int .i64 (wrap64 ((Int.tdiv (bt a0 0) 16) % 256)), .int .i64 0, .int .i64 0, .int .i64 0, .int .i64 0, .int .i64 0, .int .i64 0, .int .i64 0, .int .i64 0]) ?_ 1 _ rfl; (with_reducible repeat (first | refine blk_drewN ?_ _ | refine blk_drew ?_ | refine blk_alloc ?_ _)); refine blk_put (cs := #[.int .i64 0, .int .i64 0, .int .i64 0, .int .i64 0, .int .i64 0, .int .i64 0, .int .i64 0, .int .i64 0, .int .i64 0]) ?_ 0 _ rfl; (with_reducible repeat (first | refine blk_drewN ?_ _ | refine blk_drew ?_ | refine blk_alloc ?_ _)); exact BK458.out⟩, ⟨by repeat (first | (with_reducible first | exact HB.out | apply below_alloc | apply pw_below_drewN | apply below_drew1 | refine below_set ?_ GE446.out | refine below_set ?_ GE452.out | refine below_set ?_ GE457.out | refine below_set ?_ GE458.out) | exact HB.out)⟩⟩
                 case rest =>
                  clear HC39
                  try clear c1
                  try clear c2
                  try clear c2b0
                  try clear c2b1
                  try clear p2
                  try clear q2
                  try clear hx2
                  try clear qi2
                  try clear c3
                  try clear c3b0
                  try clear c3b1
                  try clear p3
                  try clear q3
                  try clear hx3
                  try clear qi3
                  try clear c4
                  try clear c4b0
                  try clear c4b1
                  try clear c5
                  try clear c5b0
                  try clear p5
                  try clear q5
                  try clear hx5
                  try clear qi5
                  try clear p6
                  try clear c7
                  try clear c7b0
                  try clear c7b1
                  try clear c16
                  try clear c20
                  try clear c21
                  try clear c23
                  try clear c23b0
                  try clear c23b1
                  try clear c24
                  try clear c24b0
                  try clear c24b1
                  try clear c25
                  try clear c25b0
                  try clear c25b1
                  try clear p26
                  try clear q26
                  try clear hx26
                  try clear qi26
                  try clear c27
                  try clear c27b0
                  try clear c27b1
                  try clear c28
                  try clear c28b0
                  try clear c28b1
                  try clear p29
                  try clear q29
                  try clear hx29
                  try clear qi29
                  try clear c30
                  try clear c31
                  try clear c32
                  try clear c34
                  try clear c34b0
                  try clear c34b1
                  try clear p35
                  try clear q35
                  try clear hx35
                  try clear qi35
                  try clear c36
                  try clear c36b0
                  try clear c36b1
                  try clear p37
                  try clear q37
                  try clear hx37
                  try clear qi37
                  try clear c49
                  try clear c51
                  try clear c51b0
                  try clear c51b1
                  try clear c52
                  try clear p52
                  try clear q52
                  try clear hx52
                  try clear qi52
                  try clear hcz17_0
                  try clear hcz17_1
                  try clear hcz17_2
                  try clear hcz22_0
                  try clear hcz22_1
                  try clear hcz22_2
                  try clear hcz33_0
                  try clear hcz33_1
                  try clear hcz33_2
                  try clear hcz33_3
                  try clear hcz33_4
                  try clear hcz33_5
                  try clear hcz33_6
                  try clear hcz33_7
                  try clear hcz33_8
                  try clear hfz17_0
                  try clear hfz17_1
                  try clear hfz17_2
                  try clear hfz22_0
                  try clear hfz22_1
                  try clear hfz22_2
                  try clear hfz33_0
                  try clear hfz33_1
                  try clear hfz33_2
                  try clear hfz33_3
                  try clear hfz33_4
                  try clear hfz33_5
                  try clear hfz33_6
                  try clear hfz33_7
                  try clear hfz33_8
                  try clear p2
                  try clear p26
                  try clear p29
                  try clear p35
                  try clear p37
                  try clear p52
                  try clear q2
                  try clear q26
                  try clear q29
                  try clear q35
                  try clear q37
                  try clear q52
                  obtain ⟨kq, x9_38, rfl, HA, HJ38, BK446, BK452, BK457, BK458, HB⟩ := hcut
                  cases kq with
                  | zero => exact absurd HA.out (by simp [masterdiscref10_Decode.j1])
                  | succ kj38 =>
                   have H := HA.out
                   clear HA
                   simp only [masterdiscref10_Decode.j1] at H
                   by_cases c53 : 2 < (a0.size : Int)
                   · rw [if_pos c53] at H
                     have c53b0 : decide (2 < (a0.size : Int)) = true := decide_eq_true c53
                     have c53b1 : decide (2 < a0.size) = true := decide_eq_true (by omega)
                     clear c53
                     replace H := Option.bind_eq_some_iff.mp H
                     obtain ⟨⟨t461, t462⟩, A550, H⟩ := H
                     replace H : (if t462 = 0 then (masterdiscref10_Decode.j2 kj38 a0 x9_38 t461 (wrap64 ((Int.tdiv (bt a0 0) 16) % 256)) 0 0 t448 t449 t450 t453 t454 t455) else (masterdiscref10_Decode.j2 kj38 a0 x9_38 (wrap64 (bt a0 2)) (wrap64 ((Int.tdiv (bt a0 0) 16) % 256)) 0 0 t448 t449 t450 t453 t454 t455)) = some (r1, r2, r3, r4, r5, r6, r7, r8, r9, r10) := H
                     have A55 := Aside0.mk A550
                     clear A550
                     have HC56 := Aside0.mk H
                     clear H
                     have p54 : 0 ≤ (2 : Int) := (by omega)
                     have q54 : 2 < a0.size := (by have : (2 : Int) < (a0.size : Int) := of_decide_eq_true (by first | (with_reducible assumption) | assumption); omega)
                     have hx54 : ∀ h : 2 < a0.size, ((a0[2]'h).toNat : Int) = bt a0 2 := bt_at a0 2
                     clear p54
                     have qi54 : (2 < (a0.size : Int)) = True := eq_true (of_decide_eq_true (by first | (with_reducible assumption) | assumption))
                     replace q54 := eq_true q54
                     go_upto_if 77 with (first | ((with_reducible refine gate_callee (f := 53) rfl ?_); refine goesL_ (some 73) rfl rfl Try.func53 (by kernel_rfl) rfl #[.int .u8 (bt a0 2)] rfl (by (try simp only [List.map_toArray, List.map_cons, List.map_nil]); first | done | rfl | (simp only [List.length_drop, List.length_take]; rfl)) ?_; (with_reducible refine (masterdiscref01_FromBCD.calls (bt a0 2) t461 t462 _ A55.out).mono ?_); rintro e w' ⟨rfl, ⟨nd, rfl⟩⟩; refine ⟨_, rfl, ?_⟩))
                     (try simp only [Act.put, List.setIfInBounds_toArray, List.set_cons_zero, List.set_cons_succ])
                     go_cut [10] (fun v10 wc => ∃ (kq : Nat) (x10_55 : Int), v10 = .int .i64 x10_55 ∧ Aside0 (masterdiscref10_Decode.j2 kq a0 x9_38 x10_55 (wrap64 ((Int.tdiv (bt a0 0) 16) % 256)) 0 0 t448 t449 t450 t453 t454 t455 = some (r1, r2, r3, r4, r5, r6, r7, r8, r9, r10)) ∧ Aside0 (kq ≤ kj38) ∧ Aside0 (wc.heap[gb446]? = some (.cells #[.int .i64 0, .int .i64 0, .int .i64 0, .int .i64 0, .int .i64 0, .int .i64 0, .int .i64 0, .int .i64 0, .int .i64 0] 27 (0, 0))) ∧ Aside0 (wc.heap[gb452]? = some (.cells #[.int .i64 t448, .int .i64 t449, .int .i64 t450] 25 (0, 0))) ∧ Aside0 (wc.heap[gb457]? = some (.cells #[.int .i64 t453, .int .i64 t454, .int .i64 t455] 25 (0, 0))) ∧ Aside0 (wc.heap[gb458]? = some (.cells #[.int .i64 (wrap64 ((Int.tdiv (bt a0 0) 16) % 256)), .int .i64 0, .int .i64 0, .int .i64 t448, .int .i64 t449, .int .i64 t450, .int .i64 t453, .int .i64 t454, .int .i64 t455] 27 (0, 0))) ∧ Aside0 (Below w.heap.size w wc))
                     case first =>
                      have H := HC56.out
                      clear HC56
                      by_cases c57 : t462 = 0
                      · rw [if_pos c57] at H
                        have c57b0 : (t462 == 0) = true := beq_iff_eq.mpr c57
                        have c57b1 : (t462 != 0) = false := bne_eq_false_iff_eq.mpr c57
                        clear c57
                        (first | rw [c57b0] | (simp only [i64_w, i32_w]; rw [c57b0]) | skip)
                        have H' := Aside0.mk H
                        clear H
                        go_wp2
                        go_meet
                        case rel => exact ⟨_, (t461), (by first | rfl | (simp; done) | (simp [*]; done)), H', ⟨by have := HJ9.out; have := HJ38.out; first | omega | exact Nat.le_refl _⟩, ⟨by (with_reducible repeat (first | refine blk_drewN ?_ _ | refine blk_drew ?_ | refine blk_alloc ?_ _)); exact BK446.out⟩, ⟨by (with_reducible repeat (first | refine blk_drewN ?_ _ | refine blk_drew ?_ | refine blk_alloc ?_ _)); exact BK452.out⟩, ⟨by (with_reducible repeat (first | refine blk_drewN ?_ _ | refine blk_drew ?_ | refine blk_alloc ?_ _)); exact BK457.out⟩, ⟨by (with_reducible repeat (first | refine blk_drewN ?_ _ | refine blk_drew ?_ | refine blk_alloc ?_ _)); exact BK458.out⟩, ⟨by repeat (first | (with_reducible first | exact HB.out | apply below_alloc | apply pw_below_drewN | apply below_drew1 | refine below_set ?_ GE446.out | refine below_set ?_ GE452.out | refine below_set ?_ GE457.out | refine below_set ?_ GE458.out) | exact HB.out)⟩⟩
                      · rw [if_neg c57] at H
                        have c57b0 : (t462 == 0) = false := beq_eq_false_iff_ne.mpr c57
                        have c57b1 : (t462 != 0) = true := bne_iff_ne.mpr c57
                        (first | rw [c57b0] | (simp only [i64_w, i32_w]; rw [c57b0]) | skip)
                        have H' := Aside0.mk H
                        clear H
                        have p58 : 0 ≤ (2 : Int) := (by omega)
                        have q58 : 2 < a0.size := (by have : (2 : Int) < (a0.size : Int) := of_decide_eq_true (by first | (with_reducible assumption) | assumption); omega)
                        have hx58 : ∀ h : 2 < a0.size, ((a0[2]'h).toNat : Int) = bt a0 2 := bt_at a0 2
                        clear p58
                        have qi58 : (2 < (a0.size : Int)) = True := eq_true (of_decide_eq_true (by first | (with_reducible assumption) | assumption))
                        replace q58 := eq_true q58
                        go_wp2
                        go_meet
                        case rel => exact ⟨_, (wrap64 (bt a0 2)), (by first | rfl | (simp; done) | (simp [*]; done)), H', ⟨by have := HJ9.out; have := HJ38.out; first | omega | exact Nat.le_refl _⟩, ⟨by (with_reducible repeat (first | refine blk_drewN ?_ _ | refine blk_drew ?_ | refine blk_alloc ?_ _)); exact BK446.out⟩, ⟨by (with_reducible repeat (first | refine blk_drewN ?_ _ | refine blk_drew ?_ | refine blk_alloc ?_ _)); exact BK452.out⟩, ⟨by (with_reducible repeat (first | refine blk_drewN ?_ _ | refine blk_drew ?_ | refine blk_alloc ?_ _)); exact BK457.out⟩, ⟨by (with_reducible repeat (first | refine blk_drewN ?_ _ | refine blk_drew ?_ | refine blk_alloc ?_ _)); exact BK458.out⟩, ⟨by repeat (first | (with_reducible first | exact HB.out | apply below_alloc | apply pw_below_drewN | apply below_drew1 | refine below_set ?_ GE446.out | refine below_set ?_ GE452.out | refine below_set ?_ GE457.out | refine below_set ?_ GE458.out) | exact HB.out)⟩⟩
                     case rest =>
                      clear HC56
                      try clear c1
                      try clear c2
                      try clear c2b0
                      try clear c2b1
                      try clear p2
                      try clear q2
                      try clear hx2
                      try clear qi2
                      try clear c3
                      try clear c3b0
                      try clear c3b1
                      try clear p3
                      try clear q3
                      try clear hx3
                      try clear qi3
                      try clear c4
                      try clear c4b0
                      try clear c4b1
                      try clear c5
                      try clear c5b0
                      try clear p5
                      try clear q5
                      try clear hx5
                      try clear qi5
                      try clear p6
                      try clear c7
                      try clear c7b0
                      try clear c7b1
                      try clear c16
                      try clear c20
                      try clear c21
                      try clear c23
                      try clear c23b0
                      try clear c23b1
                      try clear c24
                      try clear c24b0
                      try clear c24b1
                      try clear c25
                      try clear c25b0
                      try clear c25b1
                      try clear p26
                      try clear q26
                      try clear hx26
                      try clear qi26
                      try clear c27
                      try clear c27b0
                      try clear c27b1
                      try clear c28
                      try clear c28b0
                      try clear c28b1
                      try clear p29
                      try clear q29
                      try clear hx29
                      try clear qi29
                      try clear c30
                      try clear c31
                      try clear c32
                      try clear c34
                      try clear c34b0
                      try clear c34b1
                      try clear p35
                      try clear q35
                      try clear hx35
                      try clear qi35
                      try clear c36
                      try clear c36b0
                      try clear c36b1
                      try clear p37
                      try clear q37
                      try clear hx37
                      try clear qi37
                      try clear c49
                      try clear c51
                      try clear c51b0
                      try clear c51b1
                      try clear c52
                      try clear p52
                      try clear q52
                      try clear hx52
                      try clear qi52
                      try clear c53
                      try clear c53b0
                      try clear c53b1
                      try clear p54
                      try clear q54
                      try clear hx54
                      try clear qi54
                      try clear c57
                      try clear c57b0
                      try clear c57b1
                      try clear p58
                      try clear q58
                      try clear hx58
                      try clear qi58
                      try clear hcz17_0
                      try clear hcz17_1
                      try clear hcz17_2
                      try clear hcz22_0
                      try clear hcz22_1
                      try clear hcz22_2
                      try clear hcz33_0
                      try clear hcz33_1
                      try clear hcz33_2
                      try clear hcz33_3
                      try clear hcz33_4
                      try clear hcz33_5
                      try clear hcz33_6
                      try clear hcz33_7
                      try clear hcz33_8
                      try clear hfz17_0
                      try clear hfz17_1
                      try clear hfz17_2
                      try clear hfz22_0
                      try clear hfz22_1
                      try clear hfz22_2
                      try clear hfz33_0
                      try clear hfz33_1
                      try clear hfz33_2
                      try clear hfz33_3
                      try clear hfz33_4
                      try clear hfz33_5
                      try clear hfz33_6
                      try clear hfz33_7
                      try clear hfz33_8
                      try clear p2
                      try clear p26
                      try clear p29
                      try clear p3
                      try clear p35
                      try clear p37
                      try clear p5
                      try clear p52
                      try clear p54
                      try clear p58
                      try clear p6
                      try clear q2
                      try clear q26
                      try clear q29
                      try clear q3
                      try clear q35
                      try clear q37
                      try clear q5
                      try clear q52
                      try clear q54
                      try clear q58
                      obtain ⟨kq, x10_55, rfl, HA, HJ55, BK446, BK452, BK457, BK458, HB⟩ := hcut
                      cases kq with
                      | zero => exact absurd HA.out (by simp [masterdiscref10_Decode.j2])
                      | succ kj55 =>
                       have H := HA.out
                       clear HA
                       simp only [masterdiscref10_Decode.j2] at H
                       replace H := Option.bind_eq_some_iff.mp H
                       obtain ⟨⟨t463, t464⟩, A590, H⟩ := H
                       replace H : (if t464 = 0 then (masterdiscref10_Decode.j3 kj55 (t463.toList != a0.toList) (wrap64 ((Int.tdiv (bt a0 0) 16) % 256)) x9_38 x10_55 t448 t449 t450 t453 t454 t455) else (masterdiscref10_Decode.j3 kj55 true (wrap64 ((Int.tdiv (bt a0 0) 16) % 256)) x9_38 x10_55 t448 t449 t450 t453 t454 t455)) = some (r1, r2, r3, r4, r5, r6, r7, r8, r9, r10) := H
                       have A59 := Aside0.mk A590
                       clear A590
                       have HC60 := Aside0.mk H
                       clear H
                       have hnb61 := NB458_446.out
                       have hnc61 := NB446_458.out
                       have hnb62 := NB458_452.out
                       have hnc62 := NB452_458.out
                       have hnb63 := NB458_457.out
                       have hnc63 := NB457_458.out
                       have hcz64_0 : wc.cell? ⟨gb458, 0, none⟩ = some (.int .i64 (wrap64 ((Int.tdiv (bt a0 0) 16) % 256))) := (blk_cell BK458.out 0).trans rfl
                       have hcz64_1 : wc.cell? ⟨gb458, 1, none⟩ = some (.int .i64 0) := (blk_cell BK458.out 1).trans rfl
                       have hcz64_2 : wc.cell? ⟨gb458, 2, none⟩ = some (.int .i64 0) := (blk_cell BK458.out 2).trans rfl
                       have hcz64_3 : wc.cell? ⟨gb458, 3, none⟩ = some (.int .i64 t448) := (blk_cell BK458.out 3).trans rfl
                       have hcz64_4 : wc.cell? ⟨gb458, 4, none⟩ = some (.int .i64 t449) := (blk_cell BK458.out 4).trans rfl
                       have hcz64_5 : wc.cell? ⟨gb458, 5, none⟩ = some (.int .i64 t450) := (blk_cell BK458.out 5).trans rfl
                       have hcz64_6 : wc.cell? ⟨gb458, 6, none⟩ = some (.int .i64 t453) := (blk_cell BK458.out 6).trans rfl
                       have hcz64_7 : wc.cell? ⟨gb458, 7, none⟩ = some (.int .i64 t454) := (blk_cell BK458.out 7).trans rfl
                       have hcz64_8 : wc.cell? ⟨gb458, 8, none⟩ = some (.int .i64 t455) := (blk_cell BK458.out 8).trans rfl
                       have hfz64_0 := blk_frozen BK458.out 0
                       have hfz64_1 := blk_frozen BK458.out 1
                       have hfz64_2 := blk_frozen BK458.out 2
                       have hfz64_3 := blk_frozen BK458.out 3
                       have hfz64_4 := blk_frozen BK458.out 4
                       have hfz64_5 := blk_frozen BK458.out 5
                       have hfz64_6 := blk_frozen BK458.out 6
                       have hfz64_7 := blk_frozen BK458.out 7
                       have hfz64_8 := blk_frozen BK458.out 8
                       go_upto_region 18 with (first | ((with_reducible refine gate_callee (f := 22) rfl ?_); refine goesL_ (some 87) rfl rfl Try.func22 (by kernel_rfl) rfl #[.agg #[.int .i64 (wrap64 ((Int.tdiv (bt a0 0) 16) % 256)), .int .i64 x9_38, .int .i64 x10_55, .int .i64 t448, .int .i64 t449, .int .i64 t450, .int .i64 t453, .int .i64 t454, .int .i64 t455]] rfl (by (try simp only [List.map_toArray, List.map_cons, List.map_nil]); first | done | rfl | (simp only [List.length_drop, List.length_take]; rfl)) ?_; (with_reducible refine (masterdiscref10_Encode.calls kj55 (wrap64 ((Int.tdiv (bt a0 0) 16) % 256)) x9_38 x10_55 t448 t449 t450 t453 t454 t455 t463 t464 _ A59.out).mono ?_); rintro e w65 ⟨rfl, hb⟩; refine ⟨_, rfl, ?_⟩; have n0_ := Aside0.mk (blk_below (g := gb446) (o := .cells #[.int .i64 0, .int .i64 0, .int .i64 0, .int .i64 0, .int .i64 0, .int .i64 0, .int .i64 0, .int .i64 0, .int .i64 0] 27 (0, 0)) (by (with_reducible repeat (first | refine blk_drewN ?_ _ | refine blk_drew ?_ | refine blk_alloc ?_ _)); refine blk_far ?_ NB446_458.out _; (with_reducible repeat (first | refine blk_drewN ?_ _ | refine blk_drew ?_ | refine blk_alloc ?_ _)); refine blk_far ?_ NB446_458.out _; (with_reducible repeat (first | refine blk_drewN ?_ _ | refine blk_drew ?_ | refine blk_alloc ?_ _)); exact BK446.out) hb); have n1_ := Aside0.mk (blk_below (g := gb452) (o := .cells #[.int .i64 t448, .int .i64 t449, .int .i64 t450] 25 (0, 0)) (by (with_reducible repeat (first | refine blk_drewN ?_ _ | refine blk_drew ?_ | refine blk_alloc ?_ _)); refine blk_far ?_ NB452_458.out _; (with_reducible repeat (first | refine blk_drewN ?_ _ | refine blk_drew ?_ | refine blk_alloc ?_ _)); refine blk_far ?_ NB452_458.out _; (with_reducible repeat (first | refine blk_drewN ?_ _ | refine blk_drew ?_ | refine blk_alloc ?_ _)); exact BK452.out) hb); have n2_ := Aside0.mk (blk_below (g := gb457) (o := .cells #[.int .i64 t453, .int .i64 t454, .int .i64 t455] 25 (0, 0)) (by (with_reducible repeat (first | refine blk_drewN ?_ _ | refine blk_drew ?_ | refine blk_alloc ?_ _)); refine blk_far ?_ NB457_458.out _; (with_reducible repeat (first | refine blk_drewN ?_ _ | refine blk_drew ?_ | refine blk_alloc ?_ _)); refine blk_far ?_ NB457_458.out _; (with_reducible repeat (first | refine blk_drewN ?_ _ | refine blk_drew ?_ | refine blk_alloc ?_ _)); exact BK457.out) hb); have n3_ := Aside0.mk (blk_below (g := gb458) (o := .cells #[.int .i64 (wrap64 ((Int.tdiv (bt a0 0) 16) % 256)), .int .i64 x9_38, .int .i64 x10_55, .int .i64 t448, .int .i64 t449, .int .i64 t450, .int .i64 t453, .int .i64 t454, .int .i64 t455] 27 (0, 0)) (by (with_reducible repeat (first | refine blk_drewN ?_ _ | refine blk_drew ?_ | refine blk_alloc ?_ _)); refine blk_put (cs := #[.int .i64 (wrap64 ((Int.tdiv (bt a0 0) 16) % 256)), .int .i64 x9_38, .int .i64 0, .int .i64 t448, .int .i64 t449, .int .i64 t450, .int .i64 t453, .int .i64 t454, .int .i64 t455]) ?_ 2 _ rfl; (with_reducible repeat (first | refine blk_drewN ?_ _ | refine blk_drew ?_ | refine blk_alloc ?_ _)); refine blk_put (cs := #[.int .i64 (wrap64 ((Int.tdiv (bt a0 0) 16) % 256)), .int .i64 0, .int .i64 0, .int .i64 t448, .int .i64 t449, .int .i64 t450, .int .i64 t453, .int .i64 t454, .int .i64 t455]) ?_ 1 _ rfl; (with_reducible repeat (first | refine blk_drewN ?_ _ | refine blk_drew ?_ | refine blk_alloc ?_ _)); exact BK458.out) hb); have n4_ := Aside0.mk (below_step (by repeat (first | (with_reducible first | exact HB.out | apply below_alloc | apply pw_below_drewN | apply below_drew1 | refine below_set ?_ GE446.out | refine below_set ?_ GE452.out | refine below_set ?_ GE457.out | refine below_set ?_ GE458.out) | exact HB.out)) hb); clear BK446; clear BK452; clear BK457; clear BK458; clear HB; have BK446 := n0_; have BK452 := n1_; have BK457 := n2_; have BK458 := n3_; have HB := n4_; clear n0_ n1_ n2_ n3_ n4_; (try clear hb); (try clear hb2); (try clear hk); (try clear hi)))
                       (try simp only [Act.put, List.setIfInBounds_toArray, List.set_cons_zero, List.set_cons_succ])
                       go_cut [96] (fun v96 wc => ∃ (kq : Nat) (x96_59 : Bool), v96 = .bool x96_59 ∧ Aside0 (masterdiscref10_Decode.j3 kq x96_59 (wrap64 ((Int.tdiv (bt a0 0) 16) % 256)) x9_38 x10_55 t448 t449 t450 t453 t454 t455 = some (r1, r2, r3, r4, r5, r6, r7, r8, r9, r10)) ∧ Aside0 (kq ≤ kj55) ∧ Aside0 (wc.heap[gb446]? = some (.cells #[.int .i64 0, .int .i64 0, .int .i64 0, .int .i64 0, .int .i64 0, .int .i64 0, .int .i64 0, .int .i64 0, .int .i64 0] 27 (0, 0))) ∧ Aside0 (wc.heap[gb452]? = some (.cells #[.int .i64 t448, .int .i64 t449, .int .i64 t450] 25 (0, 0))) ∧ Aside0 (wc.heap[gb457]? = some (.cells #[.int .i64 t453, .int .i64 t454, .int .i64 t455] 25 (0, 0))) ∧ Aside0 (wc.heap[gb458]? = some (.cells #[.int .i64 (wrap64 ((Int.tdiv (bt a0 0) 16) % 256)), .int .i64 x9_38, .int .i64 x10_55, .int .i64 t448, .int .i64 t449, .int .i64 t450, .int .i64 t453, .int .i64 t454, .int .i64 t455] 27 (0, 0))) ∧ Aside0 (Below w.heap.size w wc))
                       case first =>
                        have H := HC60.out
                        clear HC60
                        by_cases c66 : t464 = 0
                        · rw [if_pos c66] at H
                          have c66b0 : (t464 == 0) = true := beq_iff_eq.mpr c66
                          have c66b1 : (t464 != 0) = false := bne_eq_false_iff_eq.mpr c66
                          clear c66
                          (first | rw [c66b0] | (simp only [i64_w, i32_w]; rw [c66b0]) | skip)
                          have H' := Aside0.mk H
                          clear H
                          go_wp2
                          go_meet
                          case rel => exact ⟨_, ((t463.toList != a0.toList)), (by first | rfl | (simp; done) | (simp [*]; done)), H', ⟨by have := HJ9.out; have := HJ38.out; have := HJ55.out; first | omega | exact Nat.le_refl _⟩, ⟨by (with_reducible repeat (first | refine blk_drewN ?_ _ | refine blk_drew ?_ | refine blk_alloc ?_ _)); exact BK446.out⟩, ⟨by (with_reducible repeat (first | refine blk_drewN ?_ _ | refine blk_drew ?_ | refine blk_alloc ?_ _)); exact BK452.out⟩, ⟨by (with_reducible repeat (first | refine blk_drewN ?_ _ | refine blk_drew ?_ | refine blk_alloc ?_ _)); exact BK457.out⟩, ⟨by (with_reducible repeat (first | refine blk_drewN ?_ _ | refine blk_drew ?_ | refine blk_alloc ?_ _)); exact BK458.out⟩, ⟨by repeat (first | (with_reducible first | exact HB.out | apply below_alloc | apply pw_below_drewN | apply below_drew1 | refine below_set ?_ GE446.out | refine below_set ?_ GE452.out | refine below_set ?_ GE457.out | refine below_set ?_ GE458.out) | exact HB.out)⟩⟩
                        · rw [if_neg c66] at H
                          have c66b0 : (t464 == 0) = false := beq_eq_false_iff_ne.mpr c66
                          have c66b1 : (t464 != 0) = true := bne_iff_ne.mpr c66
                          (first | rw [c66b0] | (simp only [i64_w, i32_w]; rw [c66b0]) | skip)
                          have H' := Aside0.mk H
                          clear H
                          go_wp2
                          go_meet
                          case rel => exact ⟨_, (true), (by first | rfl | (simp; done) | (simp [*]; done)), H', ⟨by have := HJ9.out; have := HJ38.out; have := HJ55.out; first | omega | exact Nat.le_refl _⟩, ⟨by (with_reducible repeat (first | refine blk_drewN ?_ _ | refine blk_drew ?_ | refine blk_alloc ?_ _)); exact BK446.out⟩, ⟨by (with_reducible repeat (first | refine blk_drewN ?_ _ | refine blk_drew ?_ | refine blk_alloc ?_ _)); exact BK452.out⟩, ⟨by (with_reducible repeat (first | refine blk_drewN ?_ _ | refine blk_drew ?_ | refine blk_alloc ?_ _)); exact BK457.out⟩, ⟨by (with_reducible repeat (first | refine blk_drewN ?_ _ | refine blk_drew ?_ | refine blk_alloc ?_ _)); exact BK458.out⟩, ⟨by repeat (first | (with_reducible first | exact HB.out | apply below_alloc | apply pw_below_drewN | apply below_drew1 | refine below_set ?_ GE446.out | refine below_set ?_ GE452.out | refine below_set ?_ GE457.out | refine below_set ?_ GE458.out) | exact HB.out)⟩⟩
                       case rest =>
                        clear HC60
                        try clear c1
                        try clear c2
                        try clear c2b0
                        try clear c2b1
                        try clear p2
                        try clear q2
                        try clear hx2
                        try clear qi2
                        try clear c3
                        try clear c3b0
                        try clear c3b1
                        try clear p3
                        try clear q3
                        try clear hx3
                        try clear qi3
                        try clear c4
                        try clear c4b0
                        try clear c4b1
                        try clear c5
                        try clear c5b0
                        try clear p5
                        try clear q5
                        try clear hx5
                        try clear qi5
                        try clear c6
                        try clear p6
                        try clear c7
                        try clear c7b0
                        try clear c7b1
                        try clear c16
                        try clear c20
                        try clear c21
                        try clear c22
                        try clear c23
                        try clear c23b0
                        try clear c23b1
                        try clear c24
                        try clear c24b0
                        try clear c24b1
                        try clear c25
                        try clear c25b0
                        try clear c25b1
                        try clear p26
                        try clear q26
                        try clear hx26
                        try clear qi26
                        try clear c27
                        try clear c27b0
                        try clear c27b1
                        try clear c28
                        try clear c28b0
                        try clear c28b1
                        try clear p29
                        try clear q29
                        try clear hx29
                        try clear qi29
                        try clear c30
                        try clear c31
                        try clear c32
                        try clear c34
                        try clear c34b0
                        try clear c34b1
                        try clear p35
                        try clear q35
                        try clear hx35
                        try clear qi35
                        try clear c36
                        try clear c36b0
                        try clear c36b1
                        try clear p37
                        try clear q37
                        try clear hx37
                        try clear qi37
                        try clear c49
                        try clear c51
                        try clear c51b0
                        try clear c51b1
                        try clear c52
                        try clear p52
                        try clear q52
                        try clear hx52
                        try clear qi52
                        try clear c53
                        try clear c53b0
                        try clear c53b1
                        try clear p54
                        try clear q54
                        try clear hx54
                        try clear qi54
                        try clear c57
                        try clear c57b0
                        try clear c57b1
                        try clear p58
                        try clear q58
                        try clear hx58
                        try clear qi58
                        try clear c61
                        try clear c62
                        try clear c63
                        try clear p64
                        try clear c66
                        try clear c66b0
                        try clear c66b1
                        try clear hcz17_0
                        try clear hcz17_1
                        try clear hcz17_2
                        try clear hcz22_0
                        try clear hcz22_1
                        try clear hcz22_2
                        try clear hcz33_0
                        try clear hcz33_1
                        try clear hcz33_2
                        try clear hcz33_3
                        try clear hcz33_4
                        try clear hcz33_5
                        try clear hcz33_6
                        try clear hcz33_7
                        try clear hcz33_8
                        try clear hcz64_0
                        try clear hcz64_1
                        try clear hcz64_2
                        try clear hcz64_3
                        try clear hcz64_4
                        try clear hcz64_5
                        try clear hcz64_6
                        try clear hcz64_7
                        try clear hcz64_8
                        try clear hfz17_0
                        try clear hfz17_1
                        try clear hfz17_2
                        try clear hfz22_0
                        try clear hfz22_1
                        try clear hfz22_2
                        try clear hfz33_0
                        try clear hfz33_1
                        try clear hfz33_2
                        try clear hfz33_3
                        try clear hfz33_4
                        try clear hfz33_5
                        try clear hfz33_6
                        try clear hfz33_7
                        try clear hfz33_8
                        try clear hfz64_0
                        try clear hfz64_1
                        try clear hfz64_2
                        try clear hfz64_3
                        try clear hfz64_4
                        try clear hfz64_5
                        try clear hfz64_6
                        try clear hfz64_7
                        try clear hfz64_8
                        try clear p2
                        try clear p26
                        try clear p29
                        try clear p3
                        try clear p35
                        try clear p37
                        try clear p5
                        try clear p52
                        try clear p54
                        try clear p58
                        try clear p6
                        try clear q2
                        try clear q26
                        try clear q29
                        try clear q3
                        try clear q35
                        try clear q37
                        try clear q5
                        try clear q52
                        try clear q54
                        try clear q58
                        obtain ⟨kq, x96_59, rfl, HA, HJ59, BK446, BK452, BK457, BK458, HB⟩ := hcut
                        cases kq with
                        | zero => exact absurd HA.out (by simp [masterdiscref10_Decode.j3])
                        | succ kj59 =>
                         have H := HA.out
                         clear HA
                         simp only [masterdiscref10_Decode.j3] at H
                         by_cases c67 : x96_59 = true
                         · subst c67
                           have H1 : (some (0, 0, 0, 0, 0, 0, 0, 0, 0, 10)) = some (r1, r2, r3, r4, r5, r6, r7, r8, r9, r10) := by rw [if_pos rfl] at H; exact H
                           clear H
                           have H := H1
                           clear H1
                           simp only [Option.some.injEq, Prod.mk.injEq] at H
                           obtain ⟨rfl, rfl, rfl, rfl, rfl, rfl, rfl, rfl, rfl, rfl⟩ := H
                           have hnb68 := NB446_452.out
                           have hnc68 := NB452_446.out
                           have hnb69 := NB446_457.out
                           have hnc69 := NB457_446.out
                           have hnb70 := NB446_458.out
                           have hnc70 := NB458_446.out
                           have hcz71_0 : wc.cell? ⟨gb446, 0, none⟩ = some (.int .i64 0) := (blk_cell BK446.out 0).trans rfl
                           have hcz71_1 : wc.cell? ⟨gb446, 1, none⟩ = some (.int .i64 0) := (blk_cell BK446.out 1).trans rfl
                           have hcz71_2 : wc.cell? ⟨gb446, 2, none⟩ = some (.int .i64 0) := (blk_cell BK446.out 2).trans rfl
                           have hcz71_3 : wc.cell? ⟨gb446, 3, none⟩ = some (.int .i64 0) := (blk_cell BK446.out 3).trans rfl
                           have hcz71_4 : wc.cell? ⟨gb446, 4, none⟩ = some (.int .i64 0) := (blk_cell BK446.out 4).trans rfl
                           have hcz71_5 : wc.cell? ⟨gb446, 5, none⟩ = some (.int .i64 0) := (blk_cell BK446.out 5).trans rfl
                           have hcz71_6 : wc.cell? ⟨gb446, 6, none⟩ = some (.int .i64 0) := (blk_cell BK446.out 6).trans rfl
                           have hcz71_7 : wc.cell? ⟨gb446, 7, none⟩ = some (.int .i64 0) := (blk_cell BK446.out 7).trans rfl
                           have hcz71_8 : wc.cell? ⟨gb446, 8, none⟩ = some (.int .i64 0) := (blk_cell BK446.out 8).trans rfl
                           have hfz71_0 := blk_frozen BK446.out 0
                           have hfz71_1 := blk_frozen BK446.out 1
                           have hfz71_2 := blk_frozen BK446.out 2
                           have hfz71_3 := blk_frozen BK446.out 3
                           have hfz71_4 := blk_frozen BK446.out 4
                           have hfz71_5 := blk_frozen BK446.out 5
                           have hfz71_6 := blk_frozen BK446.out 6
                           have hfz71_7 := blk_frozen BK446.out 7
                           have hfz71_8 := blk_frozen BK446.out 8
                           go_wp2
                           refine bodyPost_ret (results_ct rfl _ _ gb446 27 #[.int .i64 0, .int .i64 0, .int .i64 0, .int .i64 0, .int .i64 0, .int .i64 0, .int .i64 0, .int .i64 0, .int .i64 0] (0, 0) _ rfl (by (with_reducible repeat (first | refine blk_drewN ?_ _ | refine blk_drew ?_ | refine blk_alloc ?_ _)); refine blk_put (cs := #[.int .i64 0, .int .i64 0, .int .i64 0, .int .i64 0, .int .i64 0, .int .i64 0, .int .i64 0, .int .i64 0, .int .i64 0]) ?_ 8 _ rfl; (with_reducible repeat (first | refine blk_drewN ?_ _ | refine blk_drew ?_ | refine blk_alloc ?_ _)); refine blk_put (cs := #[.int .i64 0, .int .i64 0, .int .i64 0, .int .i64 0, .int .i64 0, .int .i64 0, .int .i64 0, .int .i64 0, .int .i64 0]) ?_ 7 _ rfl; (with_reducible repeat (first | refine blk_drewN ?_ _ | refine blk_drew ?_ | refine blk_alloc ?_ _)); refine blk_put (cs := #[.int .i64 0, .int .i64 0, .int .i64 0, .int .i64 0, .int .i64 0, .int .i64 0, .int .i64 0, .int .i64 0, .int .i64 0]) ?_ 6 _ rfl; (with_reducible repeat (first | refine blk_drewN ?_ _ | refine blk_drew ?_ | refine blk_alloc ?_ _)); refine blk_put (cs := #[.int .i64 0, .int .i64 0, .int .i64 0, .int .i64 0, .int .i64 0, .int .i64 0, .int .i64 0, .int .i64 0, .int .i64 0]) ?_ 5 _ rfl; (with_reducible repeat (first | refine blk_drewN ?_ _ | refine blk_drew ?_ | refine blk_alloc ?_ _)); refine blk_put (cs := #[.int .i64 0, .int .i64 0, .int .i64 0, .int .i64 0, .int .i64 0, .int .i64 0, .int .i64 0, .int .i64 0, .int .i64 0]) ?_ 4 _ rfl; (with_reducible repeat (first | refine blk_drewN ?_ _ | refine blk_drew ?_ | refine blk_alloc ?_ _)); refine blk_put (cs := #[.int .i64 0, .int .i64 0, .int .i64 0, .int .i64 0, .int .i64 0, .int .i64 0, .int .i64 0, .int .i64 0, .int .i64 0]) ?_ 3 _ rfl; (with_reducible repeat (first | refine blk_drewN ?_ _ | refine blk_drew ?_ | refine blk_alloc ?_ _)); refine blk_put (cs := #[.int .i64 0, .int .i64 0, .int .i64 0, .int .i64 0, .int .i64 0, .int .i64 0, .int .i64 0, .int .i64 0, .int .i64 0]) ?_ 2 _ rfl; (with_reducible repeat (first | refine blk_drewN ?_ _ | refine blk_drew ?_ | refine blk_alloc ?_ _)); refine blk_put (cs := #[.int .i64 0, .int .i64 0, .int .i64 0, .int .i64 0, .int .i64 0, .int .i64 0, .int .i64 0, .int .i64 0, .int .i64 0]) ?_ 1 _ rfl; (with_reducible repeat (first | refine blk_drewN ?_ _ | refine blk_drew ?_ | refine blk_alloc ?_ _)); refine blk_put (cs := #[.int .i64 0, .int .i64 0, .int .i64 0, .int .i64 0, .int .i64 0, .int .i64 0, .int .i64 0, .int .i64 0, .int .i64 0]) ?_ 0 _ rfl; (with_reducible repeat (first | refine blk_drewN ?_ _ | refine blk_drew ?_ | refine blk_alloc ?_ _)); exact BK446.out) Try.underlying27 rfl (by kernel_rfl)) rfl ?_
                           exact ⟨by first | rfl | (simp [errW_none, errW_some] <;> rfl) | (simp [*, errW_none, errW_some] <;> rfl), by repeat (first | (with_reducible first | exact HB.out | apply below_alloc | apply pw_below_drewN | apply below_drew1 | refine below_set ?_ GE446.out | refine below_set ?_ GE452.out | refine below_set ?_ GE457.out | refine below_set ?_ GE458.out) | exact HB.out)⟩
                         · replace c67 := Bool.eq_false_iff.mpr c67
                           subst c67
                           have H1 : (some ((wrap64 ((Int.tdiv (bt a0 0) 16) % 256)), x9_38, x10_55, t448, t449, t450, t453, t454, t455, 0)) = some (r1, r2, r3, r4, r5, r6, r7, r8, r9, r10) := by rw [if_neg (show ¬ (false = true) by decide)] at H; exact H
                           clear H
                           have H := H1
                           clear H1
                           simp only [Option.some.injEq, Prod.mk.injEq] at H
                           obtain ⟨rfl, rfl, rfl, rfl, rfl, rfl, rfl, rfl, rfl, rfl⟩ := H
                           have hnb72 := NB458_446.out
                           have hnc72 := NB446_458.out
                           have hnb73 := NB458_452.out
                           have hnc73 := NB452_458.out
                           have hnb74 := NB458_457.out
                           have hnc74 := NB457_458.out
                           have hcz75_0 : wc.cell? ⟨gb458, 0, none⟩ = some (.int .i64 (wrap64 ((Int.tdiv (bt a0 0) 16) % 256))) := (blk_cell BK458.out 0).trans rfl
                           have hcz75_1 : wc.cell? ⟨gb458, 1, none⟩ = some (.int .i64 x9_38) := (blk_cell BK458.out 1).trans rfl
                           have hcz75_2 : wc.cell? ⟨gb458, 2, none⟩ = some (.int .i64 x10_55) := (blk_cell BK458.out 2).trans rfl
                           have hcz75_3 : wc.cell? ⟨gb458, 3, none⟩ = some (.int .i64 t448) := (blk_cell BK458.out 3).trans rfl
                           have hcz75_4 : wc.cell? ⟨gb458, 4, none⟩ = some (.int .i64 t449) := (blk_cell BK458.out 4).trans rfl
                           have hcz75_5 : wc.cell? ⟨gb458, 5, none⟩ = some (.int .i64 t450) := (blk_cell BK458.out 5).trans rfl
                           have hcz75_6 : wc.cell? ⟨gb458, 6, none⟩ = some (.int .i64 t453) := (blk_cell BK458.out 6).trans rfl
                           have hcz75_7 : wc.cell? ⟨gb458, 7, none⟩ = some (.int .i64 t454) := (blk_cell BK458.out 7).trans rfl
                           have hcz75_8 : wc.cell? ⟨gb458, 8, none⟩ = some (.int .i64 t455) := (blk_cell BK458.out 8).trans rfl
                           have hfz75_0 := blk_frozen BK458.out 0
                           have hfz75_1 := blk_frozen BK458.out 1
                           have hfz75_2 := blk_frozen BK458.out 2
                           have hfz75_3 := blk_frozen BK458.out 3
                           have hfz75_4 := blk_frozen BK458.out 4
                           have hfz75_5 := blk_frozen BK458.out 5
                           have hfz75_6 := blk_frozen BK458.out 6
                           have hfz75_7 := blk_frozen BK458.out 7
                           have hfz75_8 := blk_frozen BK458.out 8
                           have hnb76 := NB446_452.out
                           have hnc76 := NB452_446.out
                           have hnb77 := NB446_457.out
                           have hnc77 := NB457_446.out
                           have hcz78_0 : wc.cell? ⟨gb446, 0, none⟩ = some (.int .i64 0) := (blk_cell BK446.out 0).trans rfl
                           have hcz78_1 : wc.cell? ⟨gb446, 1, none⟩ = some (.int .i64 0) := (blk_cell BK446.out 1).trans rfl
                           have hcz78_2 : wc.cell? ⟨gb446, 2, none⟩ = some (.int .i64 0) := (blk_cell BK446.out 2).trans rfl
                           have hcz78_3 : wc.cell? ⟨gb446, 3, none⟩ = some (.int .i64 0) := (blk_cell BK446.out 3).trans rfl
                           have hcz78_4 : wc.cell? ⟨gb446, 4, none⟩ = some (.int .i64 0) := (blk_cell BK446.out 4).trans rfl
                           have hcz78_5 : wc.cell? ⟨gb446, 5, none⟩ = some (.int .i64 0) := (blk_cell BK446.out 5).trans rfl
                           have hcz78_6 : wc.cell? ⟨gb446, 6, none⟩ = some (.int .i64 0) := (blk_cell BK446.out 6).trans rfl
                           have hcz78_7 : wc.cell? ⟨gb446, 7, none⟩ = some (.int .i64 0) := (blk_cell BK446.out 7).trans rfl
                           have hcz78_8 : wc.cell? ⟨gb446, 8, none⟩ = some (.int .i64 0) := (blk_cell BK446.out 8).trans rfl
                           have hfz78_0 := blk_frozen BK446.out 0
                           have hfz78_1 := blk_frozen BK446.out 1
                           have hfz78_2 := blk_frozen BK446.out 2
                           have hfz78_3 := blk_frozen BK446.out 3
                           have hfz78_4 := blk_frozen BK446.out 4
                           have hfz78_5 := blk_frozen BK446.out 5
                           have hfz78_6 := blk_frozen BK446.out 6
                           have hfz78_7 := blk_frozen BK446.out 7
                           have hfz78_8 := blk_frozen BK446.out 8
                           go_wp2
                           refine bodyPost_ret (results_ct rfl _ _ gb446 27 #[.int .i64 (wrap64 ((Int.tdiv (bt a0 0) 16) % 256)), .int .i64 x9_38, .int .i64 x10_55, .int .i64 t448, .int .i64 t449, .int .i64 t450, .int .i64 t453, .int .i64 t454, .int .i64 t455] (0, 0) _ rfl (by (with_reducible repeat (first | refine blk_drewN ?_ _ | refine blk_drew ?_ | refine blk_alloc ?_ _)); refine blk_put (cs := #[.int .i64 (wrap64 ((Int.tdiv (bt a0 0) 16) % 256)), .int .i64 x9_38, .int .i64 x10_55, .int .i64 t448, .int .i64 t449, .int .i64 t450, .int .i64 t453, .int .i64 t454, .int .i64 0]) ?_ 8 _ rfl; (with_reducible repeat (first | refine blk_drewN ?_ _ | refine blk_drew ?_ | refine blk_alloc ?_ _)); refine blk_put (cs := #[.int .i64 (wrap64 ((Int.tdiv (bt a0 0) 16) % 256)), .int .i64 x9_38, .int .i64 x10_55, .int .i64 t448, .int .i64 t449, .int .i64 t450, .int .i64 t453, .int .i64 0, .int .i64 0]) ?_ 7 _ rfl; (with_reducible repeat (first | refine blk_drewN ?_ _ | refine blk_drew ?_ | refine blk_alloc ?_ _)); refine blk_put (cs := #[.int .i64 (wrap64 ((Int.tdiv (bt a0 0) 16) % 256)), .int .i64 x9_38, .int .i64 x10_55, .int .i64 t448, .int .i64 t449, .int .i64 t450, .int .i64 0, .int .i64 0, .int .i64 0]) ?_ 6 _ rfl; (with_reducible repeat (first | refine blk_drewN ?_ _ | refine blk_drew ?_ | refine blk_alloc ?_ _)); refine blk_put (cs := #[.int .i64 (wrap64 ((Int.tdiv (bt a0 0) 16) % 256)), .int .i64 x9_38, .int .i64 x10_55, .int .i64 t448, .int .i64 t449, .int .i64 0, .int .i64 0, .int .i64 0, .int .i64 0]) ?_ 5 _ rfl; (with_reducible repeat (first | refine blk_drewN ?_ _ | refine blk_drew ?_ | refine blk_alloc ?_ _)); refine blk_put (cs := #[.int .i64 (wrap64 ((Int.tdiv (bt a0 0) 16) % 256)), .int .i64 x9_38, .int .i64 x10_55, .int .i64 t448, .int .i64 0, .int .i64 0, .int .i64 0, .int .i64 0, .int .i64 0]) ?_ 4 _ rfl; (with_reducible repeat (first | refine blk_drewN ?_ _ | refine blk_drew ?_ | refine blk_alloc ?_ _)); refine blk_put (cs := #[.int .i64 (wrap64 ((Int.tdiv (bt a0 0) 16) % 256)), .int .i64 x9_38, .int .i64 x10_55, .int .i64 0, .int .i64 0, .int .i64 0, .int .i64 0, .int .i64 0, .int .i64 0]) ?_ 3 _ rfl; (with_reducible repeat (first | refine blk_drewN ?_ _ | refine blk_drew ?_ | refine blk_alloc ?_ _)); refine blk_put (cs := #[.int .i64 (wrap64 ((Int.tdiv (bt a0 0) 16) % 256)), .int .i64 x9_38, .int .i64 0, .int .i64 0, .int .i64 0, .int .i64 0, .int .i64 0, .int .i64 0, .int .i64 0]) ?_ 2 _ rfl; (with_reducible repeat (first | refine blk_drewN ?_ _ | refine blk_drew ?_ | refine blk_alloc ?_ _)); refine blk_put (cs := #[.int .i64 (wrap64 ((Int.tdiv (bt a0 0) 16) % 256)), .int .i64 0, .int .i64 0, .int .i64 0, .int .i64 0, .int .i64 0, .int .i64 0, .int .i64 0, .int .i64 0]) ?_ 1 _ rfl; (with_reducible repeat (first | refine blk_drewN ?_ _ | refine blk_drew ?_ | refine blk_alloc ?_ _)); refine blk_put (cs := #[.int .i64 0, .int .i64 0, .int .i64 0, .int .i64 0, .int .i64 0, .int .i64 0, .int .i64 0, .int .i64 0, .int .i64 0]) ?_ 0 _ rfl; (with_reducible repeat (first | refine blk_drewN ?_ _ | refine blk_drew ?_ | refine blk_alloc ?_ _)); exact BK446.out) Try.underlying27 rfl (by kernel_rfl)) rfl ?_
                           exact ⟨by first | rfl | (simp [errW_none, errW_some] <;> rfl) | (simp [*, errW_none, errW_some] <;> rfl), by repeat (first | (with_reducible first | exact HB.out | apply below_alloc | apply pw_below_drewN | apply below_drew1 | refine below_set ?_ GE446.out | refine below_set ?_ GE452.out | refine below_set ?_ GE457.out | refine below_set ?_ GE458.out) | exact HB.out)⟩
                   · rw [if_neg c53] at H
                     exact absurd H (by simp)
               · rw [if_neg c36] at H
                 exact absurd H (by simp)
             · rw [if_neg c34] at H
               exact absurd H (by simp)
       · rw [if_neg c7] at H
         have c7b0 : ((a0.extract 10 a0.size).toList == t447.toList) = false := beq_eq_false_iff_ne.mpr c7
         have c7b1 : ((a0.extract 10 a0.size).toList != t447.toList) = true := bne_iff_ne.mpr c7
         simp only [Option.some.injEq, Prod.mk.injEq] at H
         obtain ⟨rfl, rfl, rfl, rfl, rfl, rfl, rfl, rfl, rfl, rfl⟩ := H
         go_enter Try.func24, Try.ntmps24
         try go_wp2_with (first | ((with_reducible refine gate_dst (N := 2) rfl ?_); refine box_event ?hg (N := 2) ?hd (cs := #[.int .i64 0, .int .i64 0, .int .i64 0, .int .i64 0, .int .i64 0, .int .i64 0, .int .i64 0, .int .i64 0, .int .i64 0]) (t := 27) ?hr ?_; (case hd => rfl); (case hg => rfl); (case hr => first | (go_simp; done) | (go_simp; rfl)); intro gb446 hg w79 hbox hb; have n0_ := Aside0.mk (below_step (by repeat (first | (with_reducible first | exact HB.out | apply below_alloc | apply pw_below_drewN | apply below_drew1) | exact HB.out)) hb); have n1_ := Aside0.mk (hbox); have n2_ := Aside0.mk ((by rw [hg]; exact (below_size (by repeat (first | (with_reducible first | exact HB.out | apply below_alloc | apply pw_below_drewN | apply below_drew1) | exact HB.out))) : w.heap.size ≤ gb446)); have n3_ := Aside0.mk ((by rw [hg]; exact (below_size (by repeat (first | (with_reducible first | exact HB.out | apply below_alloc | apply pw_below_drewN | apply below_drew1) | exact HB.out))) : w.heap.size ≤ gb446)); clear HB; have HB := n0_; have BK446 := n1_; have GW446 := n2_; have GE446 := n3_; clear n0_ n1_ n2_ n3_; clear hb hbox hg))
         have n0_ := Aside0.mk (blk_drew BK446.out)
         have n1_ := Aside0.mk (below_drew1 HB.out)
         clear BK446
         clear HB
         have BK446 := n0_
         have HB := n1_
         clear n0_ n1_
         refine start_ (n := 6) (S := fun w' => True) (ds := []) #[false, false, false, false, false, false] (by kernel_rfl) rfl rfl trivial (fun hHeld => ?_)
         generalize w79.drew = w80 at BK446 HB hHeld ⊢
         refine pure_ (i := 0) (N := some 17) (v := ?_) (a' := ?_) (mS 6 1) rfl rfl (by kernel_rfl) (fun _ _ _ h => h) (Or.inl ⟨by rfl, ?_⟩) ?_ ?_
         rotate_left
         · intro w'
           go_simp
           with_reducible rfl
         rotate_left
         · simp only [Act.put, List.setIfInBounds_toArray, List.set_cons_zero, List.set_cons_succ, i64_w, i32_w]
           rfl
         refine pure_ (i := 1) (N := some 18) (v := ?_) (a' := ?_) (mS 6 3) rfl rfl (by kernel_rfl) (fun _ _ _ h => h) (Or.inl ⟨by rfl, ?_⟩) ?_ ?_
         rotate_left
         · intro w'
           go_simp
           with_reducible rfl
         rotate_left
         · simp only [Act.put, List.setIfInBounds_toArray, List.set_cons_zero, List.set_cons_succ, i64_w, i32_w]
           rfl
         refine pure_ (i := 2) (N := some 19) (v := ?_) (a' := ?_) (mS 6 7) rfl rfl (by kernel_rfl) (fun _ _ _ h => h) (Or.inl ⟨by rfl, ?_⟩) ?_ ?_
         rotate_left
         · intro w'
           go_simp
           with_reducible rfl
         rotate_left
         · simp only [Act.put, List.setIfInBounds_toArray, List.set_cons_zero, List.set_cons_succ, i64_w, i32_w]
           rfl
         refine pure_ (i := 3) (N := some 20) (v := ?_) (a' := ?_) (mS 6 15) rfl rfl (by kernel_rfl) (fun _ _ _ h => h) (Or.inl ⟨by rfl, ?_⟩) ?_ ?_
         rotate_left
         · intro w'
           go_simp
           with_reducible rfl
         rotate_left
         · simp only [Act.put, List.setIfInBounds_toArray, List.set_cons_zero, List.set_cons_succ, i64_w, i32_w]
           rfl
         refine one_ (i := 4) (N := some 21) (mS 6 31) rfl rfl (by kernel_rfl) (by decide) (fun K hK => ?_)
         refine goes_ Try.func49 (by kernel_rfl) rfl #[.string (a0.extract 0 10)] (by rfl) rfl rfl (by (try simp only [List.map_toArray, List.map_cons, List.map_nil]); first | done | rfl | (simp only [List.length_drop, List.length_take]; rfl)) ?_
         with_reducible refine (masterdiscref10_check.calls k (a0.extract 0 10) t447 _ A6.out).mono ?_
         rintro e w81 ⟨rfl, hb⟩
         refine ⟨_, rfl, ?_⟩
         have n0_ := Aside0.mk (blk_below (g := gb446) (o := .cells #[.int .i64 0, .int .i64 0, .int .i64 0, .int .i64 0, .int .i64 0, .int .i64 0, .int .i64 0, .int .i64 0, .int .i64 0] 27 (0, 0)) (by (with_reducible repeat (first | refine blk_drewN ?_ _ | refine blk_drew ?_ | refine blk_alloc ?_ _)); exact BK446.out) hb)
         have n1_ := Aside0.mk (below_step (by repeat (first | (with_reducible first | exact HB.out | apply below_alloc | apply pw_below_drewN | apply below_drew1 | refine below_set ?_ GE446.out) | exact HB.out)) hb)
         clear BK446
         clear HB
         have BK446 := n0_
         have HB := n1_
         clear n0_ n1_
         (try clear hb)
         (try clear hb2)
         (try clear hk)
         (try clear hi)
         refine hK.out _ _ trivial (fun hHeld => ?_)
         clear hK K
         refine norm_ (a' := ?_) ?_ ?_
         rotate_left
         · show Act.put _ (some 21) _ = _
           simp only [Act.put, List.setIfInBounds_toArray, List.set_cons_zero, List.set_cons_succ, i64_w, i32_w]
           rfl
         refine pure_ (i := 5) (N := some 22) (v := ?_) (a' := ?_) (mS 6 63) rfl rfl (by kernel_rfl) (fun _ _ _ h => h) (Or.inl ⟨by rfl, ?_⟩) ?_ ?_
         rotate_left
         · intro w'
           go_simp
           with_reducible rfl
         rotate_left
         · simp only [Act.put, List.setIfInBounds_toArray, List.set_cons_zero, List.set_cons_succ, i64_w, i32_w]
           rfl
         refine done_ (by kernel_rfl) ?_
         have hcz82_0 : w81.cell? ⟨gb446, 0, none⟩ = some (.int .i64 0) := (blk_cell BK446.out 0).trans rfl
         have hcz82_1 : w81.cell? ⟨gb446, 1, none⟩ = some (.int .i64 0) := (blk_cell BK446.out 1).trans rfl
         have hcz82_2 : w81.cell? ⟨gb446, 2, none⟩ = some (.int .i64 0) := (blk_cell BK446.out 2).trans rfl
         have hcz82_3 : w81.cell? ⟨gb446, 3, none⟩ = some (.int .i64 0) := (blk_cell BK446.out 3).trans rfl
         have hcz82_4 : w81.cell? ⟨gb446, 4, none⟩ = some (.int .i64 0) := (blk_cell BK446.out 4).trans rfl
         have hcz82_5 : w81.cell? ⟨gb446, 5, none⟩ = some (.int .i64 0) := (blk_cell BK446.out 5).trans rfl
         have hcz82_6 : w81.cell? ⟨gb446, 6, none⟩ = some (.int .i64 0) := (blk_cell BK446.out 6).trans rfl
         have hcz82_7 : w81.cell? ⟨gb446, 7, none⟩ = some (.int .i64 0) := (blk_cell BK446.out 7).trans rfl
         have hcz82_8 : w81.cell? ⟨gb446, 8, none⟩ = some (.int .i64 0) := (blk_cell BK446.out 8).trans rfl
         have hfz82_0 := blk_frozen BK446.out 0
         have hfz82_1 := blk_frozen BK446.out 1
         have hfz82_2 := blk_frozen BK446.out 2
         have hfz82_3 := blk_frozen BK446.out 3
         have hfz82_4 := blk_frozen BK446.out 4
         have hfz82_5 := blk_frozen BK446.out 5
         have hfz82_6 := blk_frozen BK446.out 6
         have hfz82_7 := blk_frozen BK446.out 7
         have hfz82_8 := blk_frozen BK446.out 8
         try go_wp2
         refine bodyPost_ret (results_ct rfl _ _ gb446 27 #[.int .i64 0, .int .i64 0, .int .i64 0, .int .i64 0, .int .i64 0, .int .i64 0, .int .i64 0, .int .i64 0, .int .i64 0] (0, 0) _ rfl (by (with_reducible repeat (first | refine blk_drewN ?_ _ | refine blk_drew ?_ | refine blk_alloc ?_ _)); refine blk_put (cs := #[.int .i64 0, .int .i64 0, .int .i64 0, .int .i64 0, .int .i64 0, .int .i64 0, .int .i64 0, .int .i64 0, .int .i64 0]) ?_ 8 _ rfl; (with_reducible repeat (first | refine blk_drewN ?_ _ | refine blk_drew ?_ | refine blk_alloc ?_ _)); refine blk_put (cs := #[.int .i64 0, .int .i64 0, .int .i64 0, .int .i64 0, .int .i64 0, .int .i64 0, .int .i64 0, .int .i64 0, .int .i64 0]) ?_ 7 _ rfl; (with_reducible repeat (first | refine blk_drewN ?_ _ | refine blk_drew ?_ | refine blk_alloc ?_ _)); refine blk_put (cs := #[.int .i64 0, .int .i64 0, .int .i64 0, .int .i64 0, .int .i64 0, .int .i64 0, .int .i64 0, .int .i64 0, .int .i64 0]) ?_ 6 _ rfl; (with_reducible repeat (first | refine blk_drewN ?_ _ | refine blk_drew ?_ | refine blk_alloc ?_ _)); refine blk_put (cs := #[.int .i64 0, .int .i64 0, .int .i64 0, .int .i64 0, .int .i64 0, .int .i64 0, .int .i64 0, .int .i64 0, .int .i64 0]) ?_ 5 _ rfl; (with_reducible repeat (first | refine blk_drewN ?_ _ | refine blk_drew ?_ | refine blk_alloc ?_ _)); refine blk_put (cs := #[.int .i64 0, .int .i64 0, .int .i64 0, .int .i64 0, .int .i64 0, .int .i64 0, .int .i64 0, .int .i64 0, .int .i64 0]) ?_ 4 _ rfl; (with_reducible repeat (first | refine blk_drewN ?_ _ | refine blk_drew ?_ | refine blk_alloc ?_ _)); refine blk_put (cs := #[.int .i64 0, .int .i64 0, .int .i64 0, .int .i64 0, .int .i64 0, .int .i64 0, .int .i64 0, .int .i64 0, .int .i64 0]) ?_ 3 _ rfl; (with_reducible repeat (first | refine blk_drewN ?_ _ | refine blk_drew ?_ | refine blk_alloc ?_ _)); refine blk_put (cs := #[.int .i64 0, .int .i64 0, .int .i64 0, .int .i64 0, .int .i64 0, .int .i64 0, .int .i64 0, .int .i64 0, .int .i64 0]) ?_ 2 _ rfl; (with_reducible repeat (first | refine blk_drewN ?_ _ | refine blk_drew ?_ | refine blk_alloc ?_ _)); refine blk_put (cs := #[.int .i64 0, .int .i64 0, .int .i64 0, .int .i64 0, .int .i64 0, .int .i64 0, .int .i64 0, .int .i64 0, .int .i64 0]) ?_ 1 _ rfl; (with_reducible repeat (first | refine blk_drewN ?_ _ | refine blk_drew ?_ | refine blk_alloc ?_ _)); refine blk_put (cs := #[.int .i64 0, .int .i64 0, .int .i64 0, .int .i64 0, .int .i64 0, .int .i64 0, .int .i64 0, .int .i64 0, .int .i64 0]) ?_ 0 _ rfl; (with_reducible repeat (first | refine blk_drewN ?_ _ | refine blk_drew ?_ | refine blk_alloc ?_ _)); exact BK446.out) Try.underlying27 rfl (by kernel_rfl)) rfl ?_
         exact ⟨by first | rfl | (simp [errW_none, errW_some] <;> rfl) | (simp [*, errW_none, errW_some] <;> rfl), by repeat (first | (with_reducible first | exact HB.out | apply below_alloc | apply pw_below_drewN | apply below_drew1 | refine below_set ?_ GE446.out) | exact HB.out)⟩
     · rw [if_neg c4] at H
       exact absurd H (by simp)
   · rw [if_neg c3] at H
     exact absurd H (by simp)
 · rw [if_neg c2] at H
   have c2b0 : ((a0.size : Int) == 12) = false := beq_eq_false_iff_ne.mpr c2
   have c2b1 : ((a0.size : Int) != 12) = true := bne_iff_ne.mpr c2
   simp only [Option.some.injEq, Prod.mk.injEq] at H
   obtain ⟨rfl, rfl, rfl, rfl, rfl, rfl, rfl, rfl, rfl, rfl⟩ := H
   go_enter Try.func24, Try.ntmps24
   go_wp2_with (first | ((with_reducible refine gate_dst (N := 2) rfl ?_); refine box_event ?hg (N := 2) ?hd (cs := #[.int .i64 0, .int .i64 0, .int .i64 0, .int .i64 0, .int .i64 0, .int .i64 0, .int .i64 0, .int .i64 0, .int .i64 0]) (t := 27) ?hr ?_; (case hd => rfl); (case hg => rfl); (case hr => first | (go_simp; done) | (go_simp; rfl)); intro gb446 hg w83 hbox hb; have n0_ := Aside0.mk (below_step (by repeat (first | (with_reducible first | exact HB.out | apply below_alloc | apply pw_below_drewN | apply below_drew1) | exact HB.out)) hb); have n1_ := Aside0.mk (hbox); have n2_ := Aside0.mk ((by rw [hg]; exact (below_size (by repeat (first | (with_reducible first | exact HB.out | apply below_alloc | apply pw_below_drewN | apply below_drew1) | exact HB.out))) : w.heap.size ≤ gb446)); have n3_ := Aside0.mk ((by rw [hg]; exact (below_size (by repeat (first | (with_reducible first | exact HB.out | apply below_alloc | apply pw_below_drewN | apply below_drew1) | exact HB.out))) : w.heap.size ≤ gb446)); clear HB; have HB := n0_; have BK446 := n1_; have GW446 := n2_; have GE446 := n3_; clear n0_ n1_ n2_ n3_; clear hb hbox hg; have hcz84_0 : w83.cell? ⟨gb446, 0, none⟩ = some (.int .i64 0) := (blk_cell BK446.out 0).trans rfl; have hcz84_1 : w83.cell? ⟨gb446, 1, none⟩ = some (.int .i64 0) := (blk_cell BK446.out 1).trans rfl; have hcz84_2 : w83.cell? ⟨gb446, 2, none⟩ = some (.int .i64 0) := (blk_cell BK446.out 2).trans rfl; have hcz84_3 : w83.cell? ⟨gb446, 3, none⟩ = some (.int .i64 0) := (blk_cell BK446.out 3).trans rfl; have hcz84_4 : w83.cell? ⟨gb446, 4, none⟩ = some (.int .i64 0) := (blk_cell BK446.out 4).trans rfl; have hcz84_5 : w83.cell? ⟨gb446, 5, none⟩ = some (.int .i64 0) := (blk_cell BK446.out 5).trans rfl; have hcz84_6 : w83.cell? ⟨gb446, 6, none⟩ = some (.int .i64 0) := (blk_cell BK446.out 6).trans rfl; have hcz84_7 : w83.cell? ⟨gb446, 7, none⟩ = some (.int .i64 0) := (blk_cell BK446.out 7).trans rfl; have hcz84_8 : w83.cell? ⟨gb446, 8, none⟩ = some (.int .i64 0) := (blk_cell BK446.out 8).trans rfl; have hfz84_0 := blk_frozen BK446.out 0; have hfz84_1 := blk_frozen BK446.out 1; have hfz84_2 := blk_frozen BK446.out 2; have hfz84_3 := blk_frozen BK446.out 3; have hfz84_4 := blk_frozen BK446.out 4; have hfz84_5 := blk_frozen BK446.out 5; have hfz84_6 := blk_frozen BK446.out 6; have hfz84_7 := blk_frozen BK446.out 7; have hfz84_8 := blk_frozen BK446.out 8))
   refine bodyPost_ret (results_ct rfl _ _ gb446 27 #[.int .i64 0, .int .i64 0, .int .i64 0, .int .i64 0, .int .i64 0, .int .i64 0, .int .i64 0, .int .i64 0, .int .i64 0] (0, 0) _ rfl (by (with_reducible repeat (first | refine blk_drewN ?_ _ | refine blk_drew ?_ | refine blk_alloc ?_ _)); refine blk_put (cs := #[.int .i64 0, .int .i64 0, .int .i64 0, .int .i64 0, .int .i64 0, .int .i64 0, .int .i64 0, .int .i64 0, .int .i64 0]) ?_ 8 _ rfl; (with_reducible repeat (first | refine blk_drewN ?_ _ | refine blk_drew ?_ | refine blk_alloc ?_ _)); refine blk_put (cs := #[.int .i64 0, .int .i64 0, .int .i64 0, .int .i64 0, .int .i64 0, .int .i64 0, .int .i64 0, .int .i64 0, .int .i64 0]) ?_ 7 _ rfl; (with_reducible repeat (first | refine blk_drewN ?_ _ | refine blk_drew ?_ | refine blk_alloc ?_ _)); refine blk_put (cs := #[.int .i64 0, .int .i64 0, .int .i64 0, .int .i64 0, .int .i64 0, .int .i64 0, .int .i64 0, .int .i64 0, .int .i64 0]) ?_ 6 _ rfl; (with_reducible repeat (first | refine blk_drewN ?_ _ | refine blk_drew ?_ | refine blk_alloc ?_ _)); refine blk_put (cs := #[.int .i64 0, .int .i64 0, .int .i64 0, .int .i64 0, .int .i64 0, .int .i64 0, .int .i64 0, .int .i64 0, .int .i64 0]) ?_ 5 _ rfl; (with_reducible repeat (first | refine blk_drewN ?_ _ | refine blk_drew ?_ | refine blk_alloc ?_ _)); refine blk_put (cs := #[.int .i64 0, .int .i64 0, .int .i64 0, .int .i64 0, .int .i64 0, .int .i64 0, .int .i64 0, .int .i64 0, .int .i64 0]) ?_ 4 _ rfl; (with_reducible repeat (first | refine blk_drewN ?_ _ | refine blk_drew ?_ | refine blk_alloc ?_ _)); refine blk_put (cs := #[.int .i64 0, .int .i64 0, .int .i64 0, .int .i64 0, .int .i64 0, .int .i64 0, .int .i64 0, .int .i64 0, .int .i64 0]) ?_ 3 _ rfl; (with_reducible repeat (first | refine blk_drewN ?_ _ | refine blk_drew ?_ | refine blk_alloc ?_ _)); refine blk_put (cs := #[.int .i64 0, .int .i64 0, .int .i64 0, .int .i64 0, .int .i64 0, .int .i64 0, .int .i64 0, .int .i64 0, .int .i64 0]) ?_ 2 _ rfl; (with_reducible repeat (first | refine blk_drewN ?_ _ | refine blk_drew ?_ | refine blk_alloc ?_ _)); refine blk_put (cs := #[.int .i64 0, .int .i64 0, .int .i64 0, .int .i64 0, .int .i64 0, .int .i64 0, .int .i64 0, .int .i64 0, .int .i64 0]) ?_ 1 _ rfl; (with_reducible repeat (first | refine blk_drewN ?_ _ | refine blk_drew ?_ | refine blk_alloc ?_ _)); refine blk_put (cs := #[.int .i64 0, .int .i64 0, .int .i64 0, .int .i64 0, .int .i64 0, .int .i64 0, .int .i64 0, .int .i64 0, .int .i64 0]) ?_ 0 _ rfl; (with_reducible repeat (first | refine blk_drewN ?_ _ | refine blk_drew ?_ | refine blk_alloc ?_ _)); exact BK446.out) Try.underlying27 rfl (by kernel_rfl)) rfl ?_
   exact ⟨by first | rfl | (simp [errW_none, errW_some] <;> rfl) | (simp [*, errW_none, errW_some] <;> rfl), by repeat (first | (with_reducible first | exact HB.out | apply below_alloc | apply pw_below_drewN | apply below_drew1 | refine below_set ?_ GE446.out) | exact HB.out)⟩
end Go.Proofs.Ytpmkibggmkibeaa.G
namespace Go.Proofs.Ytpmkibggmkibeaa.G
open Go.RowKit Go.Proofs.YtpmkibggmkibeaaW.PrintWords Go.Proofs.YtpmkibggmkibeaaW.PrintLast Go.Proofs.YtpmkibggmkibeaaW.PrintMore
set_option linter.unusedVariables false
theorem join_full {w W : World} {g1 g2 : Nat} {m s f : Int} (h1 : W.heap[g1]? = some (Obj.cells #[.int .i64 0, .int .i64 0, .int .i64 0] 25 (0, 0))) (h2 : W.heap[g2]? = some (Obj.cells #[.int .i64 m, .int .i64 s, .int .i64 f] 25 (0, 0))) (hb : Below w.heap.size w W) :
 W.cell? ⟨g2, 0, none⟩ = some (.int .i64 m) ∧ W.cell? ⟨g2, 1, none⟩ = some (.int .i64 s) ∧ W.cell? ⟨g2, 2, none⟩ = some (.int .i64 f) ∧ W.cell? ⟨g1, 0, none⟩ = some (.int .i64 0) ∧ W.cell? ⟨g1, 1, none⟩ = some (.int .i64 0) ∧ W.cell? ⟨g1, 2, none⟩ = some (.int .i64 0) ∧ W.frozen? ⟨g1, 0, none⟩ = false ∧ W.frozen? ⟨g1, 1, none⟩ = false ∧ W.frozen? ⟨g1, 2, none⟩ = false ∧ W.heap[g1]? = some (.cells #[.int .i64 0, .int .i64 0, .int .i64 0] 25 (0, 0)) ∧ W.heap[g2]? = some (.cells #[.int .i64 m, .int .i64 s, .int .i64 f] 25 (0, 0)) ∧ Below w.heap.size w W :=
 ⟨(blk_cell h2 0).trans rfl, (blk_cell h2 1).trans rfl, (blk_cell h2 2).trans rfl, (blk_cell h1 0).trans rfl, (blk_cell h1 1).trans rfl, (blk_cell h1 2).trans rfl, blk_frozen h1 0, blk_frozen h1 1, blk_frozen h1 2, h1, h2, hb⟩
theorem join_keep {w W w2 : World} {g1 g2 : Nat} {m s f : Int} (h : W.cell? ⟨g2, 0, none⟩ = some (.int .i64 m) ∧ W.cell? ⟨g2, 1, none⟩ = some (.int .i64 s) ∧ W.cell? ⟨g2, 2, none⟩ = some (.int .i64 f) ∧ W.cell? ⟨g1, 0, none⟩ = some (.int .i64 0) ∧ W.cell? ⟨g1, 1, none⟩ = some (.int .i64 0) ∧ W.cell? ⟨g1, 2, none⟩ = some (.int .i64 0) ∧ W.frozen? ⟨g1, 0, none⟩ = false ∧ W.frozen? ⟨g1, 1, none⟩ = false ∧ W.frozen? ⟨g1, 2, none⟩ = false ∧ W.heap[g1]? = some (.cells #[.int .i64 0, .int .i64 0, .int .i64 0] 25 (0, 0)) ∧ W.heap[g2]? = some (.cells #[.int .i64 m, .int .i64 s, .int .i64 f] 25 (0, 0)) ∧ Below w.heap.size w W) (hb : Below W.heap.size W w2) :
 w2.cell? ⟨g2, 0, none⟩ = some (.int .i64 m) ∧ w2.cell? ⟨g2, 1, none⟩ = some (.int .i64 s) ∧ w2.cell? ⟨g2, 2, none⟩ = some (.int .i64 f) ∧ w2.cell? ⟨g1, 0, none⟩ = some (.int .i64 0) ∧ w2.cell? ⟨g1, 1, none⟩ = some (.int .i64 0) ∧ w2.cell? ⟨g1, 2, none⟩ = some (.int .i64 0) ∧ w2.frozen? ⟨g1, 0, none⟩ = false ∧ w2.frozen? ⟨g1, 1, none⟩ = false ∧ w2.frozen? ⟨g1, 2, none⟩ = false ∧ w2.heap[g1]? = some (.cells #[.int .i64 0, .int .i64 0, .int .i64 0] 25 (0, 0)) ∧ w2.heap[g2]? = some (.cells #[.int .i64 m, .int .i64 s, .int .i64 f] 25 (0, 0)) ∧ Below w.heap.size w w2 :=
 join_full (blk_below h.2.2.2.2.2.2.2.2.2.1 hb) (blk_below h.2.2.2.2.2.2.2.2.2.2.1 hb) (below_step h.2.2.2.2.2.2.2.2.2.2.2 hb)
theorem three_new {W w' : World} {o1 o2 o3 : Obj} (h : ((W.alloc o1).alloc o2).alloc o3 = w') : w'.heap[W.heap.size]? = some o1 ∧ w'.heap[W.heap.size + 1]? = some o2 ∧ w'.heap[W.heap.size + 2]? = some o3 ∧ Below W.heap.size W w' := by
 subst h
 obtain ⟨h1, h2, h3⟩ := two_new (rfl : (W.alloc o1).alloc o2 = (W.alloc o1).alloc o2)
 have s1 : ((W.alloc o1).alloc o2).heap.size = W.heap.size + 2 := by simp
 refine ⟨blk_alloc h1 o3, blk_alloc h2 o3, ?_, h3.alloc (by omega) _⟩
 have := blk_new ((W.alloc o1).alloc o2) o3
 rwa [s1] at this
set_option maxHeartbeats 400000 in
set_option maxRecDepth 100000 in
theorem address_join.calls (m s f : Int) (w : World) :
 Calls Try.prog 69 #[.agg #[.int .i64 m, .int .i64 s, .int .i64 f]] w fun e w' => e = .returned (.tuple #[.agg #[.int .i64 m, .int .i64 s, .int .i64 f], .bool (msfB m s f)]) ∧ Below w.heap.size w w' := by
 have hu := Try.underlying25
 have hu3 := Try.underlying75
 obtain ⟨b, hb⟩ : ∃ b, msfB m s f = b := ⟨_, rfl⟩
 have HV := fun W => Aside0.mk (address_Valid.calls m s f b W (congrArg some hb))
 rw [hb]
 clear hb
 go_enter Try.func69, Try.ntmps69
 go_wp2_with (fail)
 generalize hw0 : ((w.alloc _).alloc _).alloc _ = w0
 obtain ⟨hb0, hb1, hb2, hB⟩ := three_new hw0
 have d0 : w0.cell? ⟨w.heap.size + 2, 0, none⟩ = some (.int .i64 m) := (blk_cell hb2 0).trans rfl
 have d1 : w0.cell? ⟨w.heap.size + 2, 1, none⟩ = some (.int .i64 s) := (blk_cell hb2 1).trans rfl
 have d2 : w0.cell? ⟨w.heap.size + 2, 2, none⟩ = some (.int .i64 f) := (blk_cell hb2 2).trans rfl
 obtain ⟨g1, hg1⟩ : ∃ g, w.heap.size + 1 = g := ⟨_, rfl⟩
 obtain ⟨g2, hg2⟩ : ∃ g, w.heap.size + 2 = g := ⟨_, rfl⟩
 have hg2' : w.heap.size + 1 + 1 = g2 := by omega
 have GE1 : w.heap.size ≤ g1 := by omega
 have GE2 : w.heap.size ≤ g2 := by omega
 have hne : g2 ≠ g1 := by omega
 rw [hg1] at hb1
 rw [hg2] at hb2 d0 d1 d2
 rw [hg2', hg1]
 clear hg1 hg2 hg2' hw0 hb0 d0 d1 d2
 obtain ⟨d0, d1, d2, -⟩ := join_full hb1 hb2 hB
 go_region_with (first | (go_at_call 37; refine (HV _).out.mono ?_; rintro e w2 ⟨rfl, hbv⟩; obtain ⟨e0, e1, e2, e3, e4, e5, e6, e7, e8, e9, -, e10⟩ := join_keep (join_full (blk_drew hb1) (blk_drew hb2) (below_drew1 hB)) hbv))
 all_goals go_wp2_with (fail)
 all_goals refine bodyPost_ret (results_ct rfl _ _ g1 25 #[.int .i64 m, .int .i64 s, .int .i64 f] (0, 0) _ rfl (blk_put (cs := #[.int .i64 m, .int .i64 s, .int .i64 0]) (blk_put (cs := #[.int .i64 m, .int .i64 0, .int .i64 0]) (blk_put (cs := #[.int .i64 0, .int .i64 0, .int .i64 0]) e9 0 _ rfl) 1 _ rfl) 2 _ rfl) hu rfl (by kernel_rfl)) rfl ?_
 all_goals exact ⟨rfl, below_set (below_set (below_set e10 GE1) GE1) GE1⟩
end Go.Proofs.Ytpmkibggmkibeaa.G
namespace Go.Proofs.Ytpmkibggmkibeaa.G
open Go.RowKit Go.Proofs.YtpmkibggmkibeaaW.PrintWords Go.Proofs.YtpmkibggmkibeaaW.PrintLast Go.Proofs.YtpmkibggmkibeaaW.PrintMore
set_option linter.unusedVariables false
def fb (s : ByteArray) (i : Int) : Int × Int := (endian_FromBCD.f (bt s i)).getD (0, 2)
theorem fb_f (s : ByteArray) (i : Int) : endian_FromBCD.f (bt s i) = some ((fb s i).1, (fb s i).2) := by
 unfold fb endian_FromBCD.f
 split
 · rfl
 · split <;> rfl
abbrev Msf4 := Int × Int × Int × Int
def dec3 (s : ByteArray) (a : Int) : Msf4 := if msfB (fb s a).1 (fb s (a + 1)).1 (fb s (a + 2)).1 = true then ((fb s a).1, (fb s (a + 1)).1, (fb s (a + 2)).1, 0) else (0, 0, 0, 10)
def dec2 (s : ByteArray) (a : Int) : Msf4 := if (fb s (a + 2)).2 = 0 then dec3 s a else (0, 0, 0, 10)
def dec1 (s : ByteArray) (a : Int) : Msf4 := if (fb s (a + 1)).2 = 0 then dec2 s a else (0, 0, 0, 10)
def dec0 (s : ByteArray) (a : Int) : Msf4 := if (fb s a).2 = 0 then dec1 s a else (0, 0, 0, 10)
def decK (s : ByteArray) (a : Int) : Nat → Msf4
 | 0 => dec0 s a
 | 1 => dec1 s a
 | 2 => dec2 s a
 | _ => dec3 s a
def decC (s : ByteArray) (a : Int) : Nat → Array Value
 | 0 => #[.int .i64 0, .int .i64 0, .int .i64 0]
 | 1 => #[.int .i64 (fb s a).1, .int .i64 0, .int .i64 0]
 | 2 => #[.int .i64 (fb s a).1, .int .i64 (fb s (a + 1)).1, .int .i64 0]
 | _ => #[.int .i64 (fb s a).1, .int .i64 (fb s (a + 1)).1, .int .i64 (fb s (a + 2)).1]
def decOut (s : ByteArray) (a : Int) : Bool := decide (a < 0 ∨ (s.size : Int) - 3 < a)
def address_Decode.f (a0 : ByteArray) (a1 : Int) : Option (Int × Int × Int × Int) :=
 if a0.size < 9223372036854775807 then (if decOut a0 a1 = true then some (0, 0, 0, 2) else some (dec0 a0 a1)) else none
set_option maxHeartbeats 400000 in
set_option maxRecDepth 100000 in
theorem dec_out (s : ByteArray) (a : Int) (w : World) (hs : s.size < 9223372036854775807) (h : decOut s a = true) :
 Calls Try.prog 51 #[.string s, .int .i64 a] w fun e w' => e = .returned (.tuple #[.agg #[.int .i64 0, .int .i64 0, .int .i64 0], .int .i64 2]) ∧ Below w.heap.size w w' := by
 have hu := Try.underlying25
 have hd := of_decide_eq_true h
 have hw : wrap64 ((s.size : Int) - 3) = (s.size : Int) - 3 := by unfold wrap64; omega
 obtain ⟨n, hn⟩ : ∃ n : Int, (s.size : Int) = n := ⟨_, rfl⟩
 rw [hn] at hd hw
 have HBK := Aside0.mk (blk_new w (.cells #[.int .i64 0, .int .i64 0, .int .i64 0] 25 (0, 0)))
 have HBL := Aside0.mk (Below.alloc (Below.refl w.heap.size w) (Nat.le_refl _) (.cells #[.int .i64 0, .int .i64 0, .int .i64 0] 25 (0, 0)))
 clear hs h
 by_cases h0 : a < 0
 · clear hd
   go_enter Try.func51, Try.ntmps51
   go_wp2_with (fail)
   refine bodyPost_ret (results_ct rfl _ _ w.heap.size 25 _ (0, 0) _ rfl HBK.out hu rfl (by kernel_rfl)) rfl ?_
   exact ⟨rfl, HBL.out⟩
 · have hd1 : n - 3 < a := by omega
   clear hd
   go_enter Try.func51, Try.ntmps51
   go_wp2_with (fail)
   refine bodyPost_ret (results_ct rfl _ _ w.heap.size 25 _ (0, 0) _ rfl HBK.out hu rfl (by kernel_rfl)) rfl ?_
   exact ⟨rfl, HBL.out⟩
theorem below_drawn0_ {w w' : World} (h : Drawn0 w w') : Below w.heap.size w w' := h.below
theorem ix_str (s : ByteArray) (i : Int) (h0 : 0 ≤ i) (h1 : i < (s.size : Int)) (w : World) : (Instr.index 9 (.string s) (.int .i64 i)).run Try.prog w = .ok (.int .u8 (bt s i)) w := by
 rw [run_index_string (h := Try.underlying9)]
 have : i.toNat < s.size := by omega
 rw [dif_pos ⟨h0, h1⟩]
 simp [bt, this]
set_option maxHeartbeats 400000 in
set_option maxRecDepth 100000 in
theorem dec_in (s : ByteArray) (a : Int) (w : World) (hs : s.size < 9223372036854775807) (h : decOut s a = false) :
 Calls Try.prog 51 #[.string s, .int .i64 a] w fun e w' => e = .returned (.tuple #[.agg #[.int .i64 (dec0 s a).1, .int .i64 (dec0 s a).2.1, .int .i64 (dec0 s a).2.2.1], .int .i64 (dec0 s a).2.2.2]) ∧ Below w.heap.size w w' := by
 have hu := Try.underlying25
 have hu3 := Try.underlying75
 have hd := of_decide_eq_false h
 obtain ⟨R, hR⟩ : ∃ R, decK s a 0 = R := ⟨_, rfl⟩
 rw [show dec0 s a = R from hR]
 have HR := Aside0.mk hR
 have hix0 := ix_str s a (by omega) (by omega)
 have hix1 := ix_str s (a + 1) (by omega) (by omega)
 have hix2 := ix_str s (a + 2) (by omega) (by omega)
 obtain ⟨hw, hw0, hw1, hw2⟩ : wrap64 ((s.size : Int) - 3) = (s.size : Int) - 3 ∧ wrap64 a = a ∧ wrap64 (a + 1) = a + 1 ∧ wrap64 (a + 2) = a + 2 := by unfold wrap64; omega
 have h0 : ¬ a < 0 := by omega
 have h0' : 0 ≤ a := by omega
 have h1 : decide ((s.size : Int) - 3 < a) = false := decide_eq_false (by omega)
 obtain ⟨n, hn⟩ : ∃ n : Int, (s.size : Int) = n := ⟨_, rfl⟩
 rw [hn] at hw h1
 clear h hs hd hR
 go_enter Try.func51, Try.ntmps51
 go_wp2_with (fail)
 generalize hw0 : (w.alloc _).alloc _ = w0
 obtain ⟨hb0, hb1, hB⟩ := two_new hw0
 obtain ⟨g0, hg0⟩ : ∃ g, w.heap.size = g := ⟨_, rfl⟩
 have GE0 : w.heap.size ≤ g0 := by omega
 rw [hg0] at hb0 hb1 ⊢
 obtain ⟨g1, hg1⟩ : ∃ g, g0 + 1 = g := ⟨_, rfl⟩
 have GE1 : w.heap.size ≤ g1 := by omega
 have hne : g1 ≠ g0 := by omega
 have hne' : g0 ≠ g1 := by omega
 rw [hg1] at hb1 ⊢
 clear hg0 hg1 hw0
 go_loopg [22] 3 (fun gk v22 wr => ∃ k : Nat, k ≤ 3 ∧ 3 - k ≤ gk ∧ v22 = .int .i64 k ∧ Aside0 (decK s a k = R) ∧ Aside0 (wr.heap[g1]? = some (.cells (decC s a k) 75 (0, 0))) ∧ Aside0 (wr.heap[g0]? = some (.cells #[.int .i64 0, .int .i64 0, .int .i64 0] 25 (0, 0))) ∧ Aside0 (Below w.heap.size w wr))
 case atStart => exact ⟨0, by omega, by omega, rfl, HR, ⟨hb1⟩, ⟨hb0⟩, ⟨hB⟩⟩
 case round =>
  clear hb0 hb1 hB
  obtain ⟨k, hk, hg, rfl, HV, HA, HZ, HB⟩ := hrel
  obtain ⟨wo, rfl⟩ : ∃ wo, wo = wr := ⟨_, rfl⟩
  rcases (by omega : k = 0 ∨ k = 1 ∨ k = 2 ∨ k = 3) with rfl | rfl | rfl | rfl
  · have hz := HZ.out
    have hE := HV.out
    have hB := HB.out
    rw [show ((0 : Nat) : Int) = (0 : Int) from rfl]
    have hfb := fb_f s (a)
    obtain ⟨x, hx⟩ : ∃ x, fb s (a) = x := ⟨_, rfl⟩
    simp only [decK, dec0, hx] at hE
    rw [hx] at hfb
    have hz := HZ.out
    have HCALL := Aside0.mk ((endian_FromBCD.calls (bt s (a)) x.1 x.2 wo hfb).mono (fun e w' h => (⟨h.1, below_drawn0_ h.2⟩ : _ ∧ Below wo.heap.size wo w')))
    clear hz hB hfb hk
    by_cases hc : x.2 = 0
    · have hcb : (x.2 != 0) = false := by simpa using hc
      rw [if_pos hc] at hE
      have HE := Aside0.mk hE
      clear hE
      go_wp2_with (fail)
      refine HCALL.out.mono ?_
      rintro e w2 ⟨rfl, hb2⟩
      have hz := blk_below HZ.out hb2
      have hA := blk_below HA.out hb2
      have HB2 := Aside0.mk (below_step HB.out hb2)
      clear hb2
      have c0 : w2.cell? ⟨g1, 0, none⟩ = some (.int .i64 0) := (blk_cell hA 0).trans rfl
      have f0 := blk_frozen hA 0
      go_wp2_with (fail)
      go_roundg 2
      case measure => omega
      case rel => exact ⟨1, by omega, by omega, by go_num, HE, ⟨by subst hx; exact blk_put hA 0 _ rfl⟩, ⟨blk_far hz hne' _⟩, ⟨below_set HB2.out GE1⟩⟩
    · have hcb : (x.2 != 0) = true := by simpa using hc
      rw [if_neg hc] at hE
      subst hE
      go_wp2_with (fail)
      refine HCALL.out.mono ?_
      rintro e w2 ⟨rfl, hb2⟩
      have hz := blk_below HZ.out hb2
      have hA := blk_below HA.out hb2
      have HB2 := Aside0.mk (below_step HB.out hb2)
      clear hb2
      have z0 : w2.cell? ⟨g0, 0, none⟩ = some (.int .i64 0) := (blk_cell hz 0).trans rfl
      have z1 : w2.cell? ⟨g0, 1, none⟩ = some (.int .i64 0) := (blk_cell hz 1).trans rfl
      have z2 : w2.cell? ⟨g0, 2, none⟩ = some (.int .i64 0) := (blk_cell hz 2).trans rfl
      have y0 := blk_frozen hz 0
      have y1 := blk_frozen hz 1
      have y2 := blk_frozen hz 2
      go_wp2_with (fail)
      refine bodyPost_ret (results_ct rfl _ _ g0 25 #[.int .i64 0, .int .i64 0, .int .i64 0] (0, 0) _ rfl (blk_put (cs := #[.int .i64 0, .int .i64 0, .int .i64 0]) (blk_put (cs := #[.int .i64 0, .int .i64 0, .int .i64 0]) (blk_put (cs := #[.int .i64 0, .int .i64 0, .int .i64 0]) (hz) 0 _ rfl) 1 _ rfl) 2 _ rfl) hu rfl (by kernel_rfl)) rfl ?_
      exact ⟨rfl, below_set (below_set (below_set HB2.out GE0) GE0) GE0⟩
  · have hz := HZ.out
    have hE := HV.out
    have hB := HB.out
    rw [show ((1 : Nat) : Int) = (1 : Int) from rfl]
    have hfb := fb_f s (a + 1)
    obtain ⟨x, hx⟩ : ∃ x, fb s (a + 1) = x := ⟨_, rfl⟩
    simp only [decK, dec1, hx] at hE
    rw [hx] at hfb
    have hz := HZ.out
    have HCALL := Aside0.mk ((endian_FromBCD.calls (bt s (a + 1)) x.1 x.2 wo hfb).mono (fun e w' h => (⟨h.1, below_drawn0_ h.2⟩ : _ ∧ Below wo.heap.size wo w')))
    clear hz hB hfb hk
    by_cases hc : x.2 = 0
    · have hcb : (x.2 != 0) = false := by simpa using hc
      rw [if_pos hc] at hE
      have HE := Aside0.mk hE
      clear hE
      go_wp2_with (fail)
      refine HCALL.out.mono ?_
      rintro e w2 ⟨rfl, hb2⟩
      have hz := blk_below HZ.out hb2
      have hA := blk_below HA.out hb2
      have HB2 := Aside0.mk (below_step HB.out hb2)
      clear hb2
      have c0 : w2.cell? ⟨g1, 1, none⟩ = some (.int .i64 0) := (blk_cell hA 1).trans rfl
      have f0 := blk_frozen hA 1
      go_wp2_with (fail)
      go_roundg 1
      case measure => omega
      case rel => exact ⟨2, by omega, by omega, by go_num, HE, ⟨by subst hx; exact blk_put hA 1 _ rfl⟩, ⟨blk_far hz hne' _⟩, ⟨below_set HB2.out GE1⟩⟩
    · have hcb : (x.2 != 0) = true := by simpa using hc
      rw [if_neg hc] at hE
      subst hE
      go_wp2_with (fail)
      refine HCALL.out.mono ?_
      rintro e w2 ⟨rfl, hb2⟩
      have hz := blk_below HZ.out hb2
      have hA := blk_below HA.out hb2
      have HB2 := Aside0.mk (below_step HB.out hb2)
      clear hb2
      have z0 : w2.cell? ⟨g0, 0, none⟩ = some (.int .i64 0) := (blk_cell hz 0).trans rfl
      have z1 : w2.cell? ⟨g0, 1, none⟩ = some (.int .i64 0) := (blk_cell hz 1).trans rfl
      have z2 : w2.cell? ⟨g0, 2, none⟩ = some (.int .i64 0) := (blk_cell hz 2).trans rfl
      have y0 := blk_frozen hz 0
      have y1 := blk_frozen hz 1
      have y2 := blk_frozen hz 2
      go_wp2_with (fail)
      refine bodyPost_ret (results_ct rfl _ _ g0 25 #[.int .i64 0, .int .i64 0, .int .i64 0] (0, 0) _ rfl (blk_put (cs := #[.int .i64 0, .int .i64 0, .int .i64 0]) (blk_put (cs := #[.int .i64 0, .int .i64 0, .int .i64 0]) (blk_put (cs := #[.int .i64 0, .int .i64 0, .int .i64 0]) (hz) 0 _ rfl) 1 _ rfl) 2 _ rfl) hu rfl (by kernel_rfl)) rfl ?_
      exact ⟨rfl, below_set (below_set (below_set HB2.out GE0) GE0) GE0⟩
  · have hz := HZ.out
    have hE := HV.out
    have hB := HB.out
    rw [show ((2 : Nat) : Int) = (2 : Int) from rfl]
    have hfb := fb_f s (a + 2)
    obtain ⟨x, hx⟩ : ∃ x, fb s (a + 2) = x := ⟨_, rfl⟩
    simp only [decK, dec2, hx] at hE
    rw [hx] at hfb
    have hz := HZ.out
    have HCALL := Aside0.mk ((endian_FromBCD.calls (bt s (a + 2)) x.1 x.2 wo hfb).mono (fun e w' h => (⟨h.1, below_drawn0_ h.2⟩ : _ ∧ Below wo.heap.size wo w')))
    clear hz hB hfb hk
    by_cases hc : x.2 = 0
    · have hcb : (x.2 != 0) = false := by simpa using hc
      rw [if_pos hc] at hE
      have HE := Aside0.mk hE
      clear hE
      go_wp2_with (fail)
      refine HCALL.out.mono ?_
      rintro e w2 ⟨rfl, hb2⟩
      have hz := blk_below HZ.out hb2
      have hA := blk_below HA.out hb2
      have HB2 := Aside0.mk (below_step HB.out hb2)
      clear hb2
      have c0 : w2.cell? ⟨g1, 2, none⟩ = some (.int .i64 0) := (blk_cell hA 2).trans rfl
      have f0 := blk_frozen hA 2
      go_wp2_with (fail)
      go_roundg 0
      case measure => omega
      case rel => exact ⟨3, by omega, by omega, by go_num, HE, ⟨by subst hx; exact blk_put hA 2 _ rfl⟩, ⟨blk_far hz hne' _⟩, ⟨below_set HB2.out GE1⟩⟩
    · have hcb : (x.2 != 0) = true := by simpa using hc
      rw [if_neg hc] at hE
      subst hE
      go_wp2_with (fail)
      refine HCALL.out.mono ?_
      rintro e w2 ⟨rfl, hb2⟩
      have hz := blk_below HZ.out hb2
      have hA := blk_below HA.out hb2
      have HB2 := Aside0.mk (below_step HB.out hb2)
      clear hb2
      have z0 : w2.cell? ⟨g0, 0, none⟩ = some (.int .i64 0) := (blk_cell hz 0).trans rfl
      have z1 : w2.cell? ⟨g0, 1, none⟩ = some (.int .i64 0) := (blk_cell hz 1).trans rfl
      have z2 : w2.cell? ⟨g0, 2, none⟩ = some (.int .i64 0) := (blk_cell hz 2).trans rfl
      have y0 := blk_frozen hz 0
      have y1 := blk_frozen hz 1
      have y2 := blk_frozen hz 2
      go_wp2_with (fail)
      refine bodyPost_ret (results_ct rfl _ _ g0 25 #[.int .i64 0, .int .i64 0, .int .i64 0] (0, 0) _ rfl (blk_put (cs := #[.int .i64 0, .int .i64 0, .int .i64 0]) (blk_put (cs := #[.int .i64 0, .int .i64 0, .int .i64 0]) (blk_put (cs := #[.int .i64 0, .int .i64 0, .int .i64 0]) (hz) 0 _ rfl) 1 _ rfl) 2 _ rfl) hu rfl (by kernel_rfl)) rfl ?_
      exact ⟨rfl, below_set (below_set (below_set HB2.out GE0) GE0) GE0⟩
  · rw [show ((3 : Nat) : Int) = (3 : Int) from rfl]
    have hE := HV.out
    simp only [decK, dec3] at hE
    have hz := HZ.out
    have hA := HA.out
    obtain ⟨x0, hx0⟩ : ∃ x, (fb s (a)).1 = x := ⟨_, rfl⟩
    obtain ⟨x1, hx1⟩ : ∃ x, (fb s (a + 1)).1 = x := ⟨_, rfl⟩
    obtain ⟨x2, hx2⟩ : ∃ x, (fb s (a + 2)).1 = x := ⟨_, rfl⟩
    simp only [decC, hx0, hx1, hx2] at hA
    simp only [hx0, hx1, hx2] at hE
    have c0 : wo.cell? ⟨g1, 0, none⟩ = some (.int .i64 x0) := (blk_cell hA 0).trans rfl
    have c1 : wo.cell? ⟨g1, 1, none⟩ = some (.int .i64 x1) := (blk_cell hA 1).trans rfl
    have c2 : wo.cell? ⟨g1, 2, none⟩ = some (.int .i64 x2) := (blk_cell hA 2).trans rfl
    obtain ⟨b, hb⟩ : ∃ b, msfB x0 x1 x2 = b := ⟨_, rfl⟩
    have HJ := Aside0.mk (address_join.calls x0 x1 x2 wo)
    rw [hb] at HJ hE
    clear hb hx0 hx1 hx2 hz hA hk
    go_wp2_with (fail)
    refine HJ.out.mono ?_
    rintro e w2 ⟨rfl, hb2⟩
    have hz := blk_below HZ.out hb2
    have HB2 := Aside0.mk (below_step HB.out hb2)
    clear hb2
    have z0 : ∀ o, (w2.alloc o).cell? ⟨g0, 0, none⟩ = some (.int .i64 0) := fun o => (blk_cell (blk_alloc hz o) 0).trans rfl
    have z1 : ∀ o, (w2.alloc o).cell? ⟨g0, 1, none⟩ = some (.int .i64 0) := fun o => (blk_cell (blk_alloc hz o) 1).trans rfl
    have z2 : ∀ o, (w2.alloc o).cell? ⟨g0, 2, none⟩ = some (.int .i64 0) := fun o => (blk_cell (blk_alloc hz o) 2).trans rfl
    have y0 : ∀ o, (w2.alloc o).frozen? ⟨g0, 0, none⟩ = false := fun o => blk_frozen (blk_alloc hz o) 0
    have y1 : ∀ o, (w2.alloc o).frozen? ⟨g0, 1, none⟩ = false := fun o => blk_frozen (blk_alloc hz o) 1
    have y2 : ∀ o, (w2.alloc o).frozen? ⟨g0, 2, none⟩ = false := fun o => blk_frozen (blk_alloc hz o) 2
    cases b with
    | false =>
     rw [if_neg (by decide)] at hE
     subst hE
     go_wp2_with (fail)
     refine bodyPost_ret (results_ct rfl _ _ g0 25 #[.int .i64 0, .int .i64 0, .int .i64 0] (0, 0) _ rfl (blk_put (cs := #[.int .i64 0, .int .i64 0, .int .i64 0]) (blk_put (cs := #[.int .i64 0, .int .i64 0, .int .i64 0]) (blk_put (cs := #[.int .i64 0, .int .i64 0, .int .i64 0]) (blk_alloc hz _) 0 _ rfl) 1 _ rfl) 2 _ rfl) hu rfl (by kernel_rfl)) rfl ?_
     exact ⟨rfl, below_set (below_set (below_set (HB2.out.alloc (below_size HB2.out) _) GE0) GE0) GE0⟩
    | true =>
     rw [if_pos rfl] at hE
     subst hE
     go_wp2_with (fail)
     refine bodyPost_ret (results_ct rfl _ _ g0 25 #[.int .i64 x0, .int .i64 x1, .int .i64 x2] (0, 0) _ rfl (blk_put (cs := #[.int .i64 x0, .int .i64 x1, .int .i64 0]) (blk_put (cs := #[.int .i64 x0, .int .i64 0, .int .i64 0]) (blk_put (cs := #[.int .i64 0, .int .i64 0, .int .i64 0]) (blk_alloc hz _) 0 _ rfl) 1 _ rfl) 2 _ rfl) hu rfl (by kernel_rfl)) rfl ?_
     exact ⟨rfl, below_set (below_set (below_set (HB2.out.alloc (below_size HB2.out) _) GE0) GE0) GE0⟩
theorem address_Decode.calls (a0 : ByteArray) (a1 : Int) (r1 r2 r3 r4 : Int) (w : World) (h : address_Decode.f a0 a1 = some (r1, r2, r3, r4)) :
 Calls Try.prog 51 #[.string a0, .int .i64 a1] w fun e w' => e = .returned (.tuple #[.agg #[.int .i64 r1, .int .i64 r2, .int .i64 r3], .int .i64 r4]) ∧ Below w.heap.size w w' := by
 unfold address_Decode.f at h
 by_cases hs : a0.size < 9223372036854775807
 · rw [if_pos hs] at h
   cases hd : decOut a0 a1 with
   | true =>
    rw [if_pos hd] at h
    cases h
    exact dec_out a0 a1 w hs hd
   | false =>
    rw [if_neg (by rw [hd]; decide)] at h
    have h2 : dec0 a0 a1 = (r1, r2, r3, r4) := Option.some.inj h
    have := dec_in a0 a1 w hs hd
    rw [h2] at this
    exact this
 · rw [if_neg hs] at h
   cases h
end Go.Proofs.Ytpmkibggmkibeaa.G
