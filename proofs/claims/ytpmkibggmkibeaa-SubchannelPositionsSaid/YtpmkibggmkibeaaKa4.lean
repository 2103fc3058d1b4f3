/- Texts of one claim, merged by a program of this session; what is proved stands in the last of them. -/
import Derived.Maps.Own
import Derived.Maps.OwnOps
import Derived.Maps.OwnSet
import Derived.Shelf.Strings.BuilderK
import Derived.Test.YtpmkibggmkibeaaKa1
import Derived.Test.YtpmkibggmkibeaaKa3
namespace Go.Proofs.Ytpmkibggmkibeaa.G
open Go.RowKit Go.Proofs.YtpmkibggmkibeaaW.PrintWords Go.Proofs.YtpmkibggmkibeaaW.PrintLast Go.Proofs.YtpmkibggmkibeaaW.PrintMore
attribute [local go_sem] max2_int min2_int max_two min_two max_three min_three max_four min_four   -- for this text's walks alone
set_option linter.unusedVariables false
set_option linter.unusedSimpArgs false
mutual
def masterdiscref10_Program.j0 : Nat → List (S53) → Int → Int → Bool → Option (Int × Int × Int × Int × Int × Int × Int × Int × Int × Int)
 | 0, _, _, _, _ => none
 | k + 1, x0, x1, x2, x22 => if x22 = true then (some (0, 0, 0, 0, 0, 0, 0, 0, 0, 1)) else ((masterdiscref06_ToMSF.f x2).bind fun bt189 => (if bt189.2.2.2 = 0 then (masterdiscref10_Program.j1 k x0 x1 x2 (decide (x2 < 0)) bt189.1 bt189.2.1 bt189.2.2.1) else (masterdiscref10_Program.j1 k x0 x1 x2 true bt189.1 bt189.2.1 bt189.2.2.1)))
def masterdiscref10_Program.j1 : Nat → List (S53) → Int → Int → Bool → Int → Int → Int → Option (Int × Int × Int × Int × Int × Int × Int × Int × Int × Int)
 | 0, _, _, _, _, _, _, _ => none
 | k + 1, x0, x1, x2, x34, x194000, x194001, x194002 => if x34 = true then (some (0, 0, 0, 0, 0, 0, 0, 0, 0, 2)) else (masterdiscref10_Program.l0 k x0 x1 x2 0 x194000 x194001 x194002)
def masterdiscref10_Program.l0 : Nat → List (S53) → Int → Int → Int → Int → Int → Int → Option (Int × Int × Int × Int × Int × Int × Int × Int × Int × Int)
 | 0, _, _, _, _, _, _, _ => none
 | k + 1, x0, x1, x2, x10, x194000, x194001, x194002 => if x10 < (x0.length : Int) then (if 0 ≤ x10 then (if x2 < ((rd_T53 x0 x10).f2) then ((masterdiscref10_address.f (wrap64 (((rd_T53 x0 x10).f2) - x2))).bind fun bt200 => (some (x1, (rd_T53 x0 x10).f0, 0, bt200.1, bt200.2.1, bt200.2.2, x194000, x194001, x194002, 0))) else (if x2 < (wrap64 (((rd_T53 x0 x10).f2) + ((rd_T53 x0 x10).f3))) then ((masterdiscref10_address.f (wrap64 (x2 - ((rd_T53 x0 x10).f2)))).bind fun bt203 => (some (x1, (rd_T53 x0 x10).f0, 1, bt203.1, bt203.2.1, bt203.2.2, x194000, x194001, x194002, 0))) else (masterdiscref10_Program.l0 k x0 x1 x2 (wrap64 (x10 + 1)) x194000 x194001 x194002))) else (none)) else ((masterdiscref10_end.f x0).bind fun t194 => ((masterdiscref10_address.f (wrap64 (x2 - t194))).bind fun bt195 => (some (x1, 170, 1, bt195.1, bt195.2.1, bt195.2.2, x194000, x194001, x194002, 0))))
end
def masterdiscref10_Program.f (k : Nat) (l0 : List (S53)) (a1 : Int) (a2 : Int) : Option (Int × Int × Int × Int × Int × Int × Int × Int × Int × Int) := (masterdiscref10_Session.f l0).bind fun t188 => (if t188 = true then (if a1 < 0 then (masterdiscref10_Program.j0 k l0 a1 a2 true) else (masterdiscref10_Program.j0 k l0 a1 a2 (decide (a1 > 15)))) else (masterdiscref10_Program.j0 k l0 a1 a2 true))
theorem masterdiscref10_Program.mono_l : ∀ k, (∀ y0 y1 y2 y3, LeO (masterdiscref10_Program.j0 k y0 y1 y2 y3) (masterdiscref10_Program.j0 (k + 1) y0 y1 y2 y3)) ∧ (∀ y0 y1 y2 y3 y4 y5 y6, LeO (masterdiscref10_Program.j1 k y0 y1 y2 y3 y4 y5 y6) (masterdiscref10_Program.j1 (k + 1) y0 y1 y2 y3 y4 y5 y6)) ∧ (∀ y0 y1 y2 y3 y4 y5 y6, LeO (masterdiscref10_Program.l0 k y0 y1 y2 y3 y4 y5 y6) (masterdiscref10_Program.l0 (k + 1) y0 y1 y2 y3 y4 y5 y6))
 | 0 => ⟨fun _ _ _ _ r h => by simp [masterdiscref10_Program.j0] at h, fun _ _ _ _ _ _ _ r h => by simp [masterdiscref10_Program.j1] at h, fun _ _ _ _ _ _ _ r h => by simp [masterdiscref10_Program.l0] at h⟩
 | k + 1 => by
  obtain ⟨ih0, ih1, ih2⟩ := masterdiscref10_Program.mono_l k
  refine ⟨?_, ?_, ?_⟩
  · intro y0 y1 y2 y3
    unfold masterdiscref10_Program.j0
    repeat' first
    | (with_reducible exact ih0 _ _ _ _)
    | (with_reducible exact ih1 _ _ _ _ _ _ _)
    | (with_reducible exact ih2 _ _ _ _ _ _ _)
    | (with_reducible exact LeO.refl _)
    | (with_reducible exact LeO.none _)
    | (with_reducible refine LeO.ite ?_ ?_)
    | (with_reducible refine LeO.bind ?_ (fun _ => ?_))
    | exact ih0 _ _ _ _
    | exact ih1 _ _ _ _ _ _ _
    | exact ih2 _ _ _ _ _ _ _
    | exact LeO.none _
    | refine LeO.ite ?_ ?_
    | refine LeO.bind ?_ (fun _ => ?_)
  · intro y0 y1 y2 y3 y4 y5 y6
    unfold masterdiscref10_Program.j1
    repeat' first
    | (with_reducible exact ih0 _ _ _ _)
    | (with_reducible exact ih1 _ _ _ _ _ _ _)
    | (with_reducible exact ih2 _ _ _ _ _ _ _)
    | (with_reducible exact LeO.refl _)
    | (with_reducible exact LeO.none _)
    | (with_reducible refine LeO.ite ?_ ?_)
    | (with_reducible refine LeO.bind ?_ (fun _ => ?_))
    | exact ih0 _ _ _ _
    | exact ih1 _ _ _ _ _ _ _
    | exact ih2 _ _ _ _ _ _ _
    | exact LeO.none _
    | refine LeO.ite ?_ ?_
    | refine LeO.bind ?_ (fun _ => ?_)
  · intro y0 y1 y2 y3 y4 y5 y6
    unfold masterdiscref10_Program.l0
    repeat' first
    | (with_reducible exact ih0 _ _ _ _)
    | (with_reducible exact ih1 _ _ _ _ _ _ _)
    | (with_reducible exact ih2 _ _ _ _ _ _ _)
    | (with_reducible exact LeO.refl _)
    | (with_reducible exact LeO.none _)
    | (with_reducible refine LeO.ite ?_ ?_)
    | (with_reducible refine LeO.bind ?_ (fun _ => ?_))
    | exact ih0 _ _ _ _
    | exact ih1 _ _ _ _ _ _ _
    | exact ih2 _ _ _ _ _ _ _
    | exact LeO.none _
    | refine LeO.ite ?_ ?_
    | refine LeO.bind ?_ (fun _ => ?_)
theorem masterdiscref10_Program.mono : ∀ a0 a1 a2 k, LeO (masterdiscref10_Program.f k a0 a1 a2) (masterdiscref10_Program.f (k + 1) a0 a1 a2) := by
 intro a0 a1 a2 k
 obtain ⟨ih0, ih1, ih2⟩ := masterdiscref10_Program.mono_l k
 unfold masterdiscref10_Program.f
 repeat' first
  | (with_reducible exact ih0 _ _ _ _)
  | (with_reducible exact ih1 _ _ _ _ _ _ _)
  | (with_reducible exact ih2 _ _ _ _ _ _ _)
  | (with_reducible exact LeO.refl _)
  | (with_reducible exact LeO.none _)
  | (with_reducible refine LeO.ite ?_ ?_)
  | (with_reducible refine LeO.bind ?_ (fun _ => ?_))
  | exact ih0 _ _ _ _
  | exact ih1 _ _ _ _ _ _ _
  | exact ih2 _ _ _ _ _ _ _
  | exact LeO.none _
  | refine LeO.ite ?_ ?_
  | refine LeO.bind ?_ (fun _ => ?_)
def masterdiscref10_Program.T11 : Bool × List (List Nat × List Nat) := (true, [([], []), ([], []), ([1], [1]), ([], []), ([3], [3]), ([], []), ([4, 5], [4, 5]), ([6], [6]), ([], []), ([0, 2, 7, 8], [0, 2, 7, 8]), ([9, 7, 0, 1, 2, 3, 4, 5, 6, 7, 8, 9], [9]), ([10, 0, 1, 2, 3, 4, 5, 6, 7, 8, 9, 10], [])])
def masterdiscref10_Program.B11 : List Nat := [0, 0, 2, 0, 8, 0, 56, 120, 0, 511, 1023, 2047]
theorem masterdiscref10_Program.tab11 : rtab .any (opsOf Try.f12 11) = masterdiscref10_Program.T11 := by kernel_rfl
theorem masterdiscref10_Program.bits11 : waitsOk masterdiscref10_Program.T11.2 masterdiscref10_Program.B11 = true := by kernel_rfl
def masterdiscref10_Program.T13 : Bool × List (List Nat × List Nat) := (true, [([], []), ([], []), ([1], [1]), ([], []), ([], []), ([4], [4]), ([3, 5], [3, 5]), ([6], [6]), ([], []), ([0, 2, 7, 8], [0, 2, 7, 8]), ([9, 7, 0, 1, 2, 3, 4, 5, 6, 7, 8, 9], [9]), ([10, 0, 1, 2, 3, 4, 5, 6, 7, 8, 9, 10], [])])
def masterdiscref10_Program.B13 : List Nat := [0, 0, 2, 0, 0, 16, 56, 120, 0, 511, 1023, 2047]
theorem masterdiscref10_Program.tab13 : rtab .any (opsOf Try.f12 13) = masterdiscref10_Program.T13 := by kernel_rfl
theorem masterdiscref10_Program.bits13 : waitsOk masterdiscref10_Program.T13.2 masterdiscref10_Program.B13 = true := by kernel_rfl
def masterdiscref10_Program.T14 : Bool × List (List Nat × List Nat) := (true, [([], []), ([], []), ([], []), ([2], [2]), ([1, 3], [1, 3]), ([4, 3], [4]), ([], []), ([0, 5, 6], [0, 5, 6]), ([7, 5, 0, 1, 2, 3, 4, 5, 6, 7], [7]), ([8, 0, 1, 2, 3, 4, 5, 6, 7, 8], [])])
def masterdiscref10_Program.B14 : List Nat := [0, 0, 0, 4, 14, 30, 0, 127, 255, 511]
theorem masterdiscref10_Program.tab14 : rtab .any (opsOf Try.f12 14) = masterdiscref10_Program.T14 := by kernel_rfl
theorem masterdiscref10_Program.bits14 : waitsOk masterdiscref10_Program.T14.2 masterdiscref10_Program.B14 = true := by kernel_rfl
set_option maxHeartbeats 8000000 in
set_option maxRecDepth 100000 in
theorem masterdiscref10_Program.calls (k : Nat) (A0 : Option Addr) (c0 : Nat) (l0 : List (S53)) (a1 : Int) (a2 : Int) (r1 : Int) (r2 : Int) (r3 : Int) (r4 : Int) (r5 : Int) (r6 : Int) (r7 : Int) (r8 : Int) (r9 : Int) (r10 : Int) (w : World) (hr0 : Kd.C k53 w A0 l0.length l0) (hc0 : l0.length ≤ c0) (h : masterdiscref10_Program.f k l0 a1 a2 = some (r1, r2, r3, r4, r5, r6, r7, r8, r9, r10)) :
 Calls Try.prog 12 #[.slice A0 l0.length c0, .int .i64 a1, .int .i64 a2] w fun e w' => e = .returned (.tuple #[.agg #[.int .i64 r1, .int .i64 r2, .int .i64 r3, .int .i64 r4, .int .i64 r5, .int .i64 r6, .int .i64 r7, .int .i64 r8, .int .i64 r9], .int .i64 r10]) ∧ Below w.heap.size w w' := by
 have hu27 := Try.underlying27
 have hu25 := Try.underlying25
 have hu53 := Try.underlying53
 have HR0 := Aside0.mk hr0
 have HC0 := Aside0.mk hc0
 clear hr0 hc0
 have HB := Aside0.mk (Below.refl w.heap.size w)
 have H : ((masterdiscref10_Session.f l0).bind fun t188 => (if t188 = true then (if a1 < 0 then (masterdiscref10_Program.j0 k l0 a1 a2 true) else (masterdiscref10_Program.j0 k l0 a1 a2 (decide (a1 > 15)))) else (masterdiscref10_Program.j0 k l0 a1 a2 true))) = some (r1, r2, r3, r4, r5, r6, r7, r8, r9, r10) := h
 clear h
 have HC4 := Aside0.mk H
 clear H
 go_enter Try.func12, Try.ntmps12
 go_upto_region 1 with (first | ((with_reducible refine gate_dst (N := 6) rfl ?_); refine box_event ?hg (N := 6) ?hd (cs := #[.int .i64 0, .int .i64 0, .int .i64 0, .int .i64 0, .int .i64 0, .int .i64 0, .int .i64 0, .int .i64 0, .int .i64 0]) (t := 27) ?hr ?_; (case hd => rfl); (case hg => rfl); (case hr => first | (go_simp; done) | (go_simp; rfl)); intro gb187 hg w5 hbox hb; have n0_ := Aside0.mk (below_step (by repeat (first | (with_reducible first | exact HB.out | apply below_alloc | apply pw_below_drewN | apply below_drew1) | exact HB.out)) hb); have n1_ := Aside0.mk (hbox); have n2_ := Aside0.mk ((by rw [hg]; exact (below_size (by repeat (first | (with_reducible first | exact HB.out | apply below_alloc | apply pw_below_drewN | apply below_drew1) | exact HB.out))) : w.heap.size ≤ gb187)); have n3_ := Aside0.mk ((by rw [hg]; exact (below_size (by repeat (first | (with_reducible first | exact HB.out | apply below_alloc | apply pw_below_drewN | apply below_drew1) | exact HB.out))) : w.heap.size ≤ gb187)); clear HB; have HB := n0_; have BK187 := n1_; have GW187 := n2_; have GE187 := n3_; clear n0_ n1_ n2_ n3_; clear hb hbox hg))
 (try simp only [Act.put, List.setIfInBounds_toArray, List.set_cons_zero, List.set_cons_succ])
 go_cut [22] (fun v22 wc => ∃ (kq : Nat) (x22_3 : Bool), v22 = .bool x22_3 ∧ Aside0 (masterdiscref10_Program.j0 kq l0 a1 a2 x22_3 = some (r1, r2, r3, r4, r5, r6, r7, r8, r9, r10)) ∧ Aside0 (kq ≤ k) ∧ Aside0 (wc.heap[gb187]? = some (.cells #[.int .i64 0, .int .i64 0, .int .i64 0, .int .i64 0, .int .i64 0, .int .i64 0, .int .i64 0, .int .i64 0, .int .i64 0] 27 (0, 0))) ∧ Aside0 (Below w.heap.size w wc))
 case first =>
  have H := HC4.out
  clear HC4
  replace H := Option.bind_eq_some_iff.mp H
  obtain ⟨t188, A60, H⟩ := H
  replace H : (if t188 = true then (if a1 < 0 then (masterdiscref10_Program.j0 k l0 a1 a2 true) else (masterdiscref10_Program.j0 k l0 a1 a2 (decide (a1 > 15)))) else (masterdiscref10_Program.j0 k l0 a1 a2 true)) = some (r1, r2, r3, r4, r5, r6, r7, r8, r9, r10) := H
  have A6 := Aside0.mk A60
  clear A60
  by_cases c7 : t188 = true
  · subst c7
    have H1 : (if a1 < 0 then (masterdiscref10_Program.j0 k l0 a1 a2 true) else (masterdiscref10_Program.j0 k l0 a1 a2 (decide (a1 > 15)))) = some (r1, r2, r3, r4, r5, r6, r7, r8, r9, r10) := by rw [if_pos rfl] at H; exact H
    clear H
    have H := H1
    clear H1
    by_cases c8 : a1 < 0
    · rw [if_pos c8] at H
      have c8b0 : decide (a1 < 0) = true := decide_eq_true c8
      clear c8
      (first | rw [c8b0] | (simp only [i64_w, i32_w]; rw [c8b0]) | skip)
      have H' := Aside0.mk H
      clear H
      go_wp2_with (first | ((with_reducible refine gate_callee (f := 32) rfl ?_); refine goesL_ (some 13) rfl rfl Try.func32 (by kernel_rfl) rfl #[.slice A0 l0.length c0] rfl (by (try simp only [List.map_toArray, List.map_cons, List.map_nil]); first | done | rfl | (simp only [List.length_drop, List.length_take]; rfl)) ?_; (with_reducible refine (masterdiscref10_Session.calls _ _ l0 true _ ?side1 ?side2 A6.out).mono ?_); (case side1 => repeat (first | exact (Kd.C_below HR0.out HB.out) | (with_reducible refine Kd.C_alloc ?_ _) | (with_reducible refine Kd.C_drewN ?_ _) | (with_reducible refine Kd.C_drew ?_))); (case side2 => exact HC0.out); rintro e w9 ⟨rfl, hb⟩; refine ⟨_, rfl, ?_⟩; have n0_ := Aside0.mk (blk_below (g := gb187) (o := .cells #[.int .i64 0, .int .i64 0, .int .i64 0, .int .i64 0, .int .i64 0, .int .i64 0, .int .i64 0, .int .i64 0, .int .i64 0] 27 (0, 0)) (by (with_reducible repeat (first | refine blk_drewN ?_ _ | refine blk_drew ?_ | refine blk_alloc ?_ _)); exact BK187.out) hb); have n1_ := Aside0.mk (below_step (by repeat (first | (with_reducible first | exact HB.out | apply below_alloc | apply pw_below_drewN | apply below_drew1 | refine below_set ?_ GE187.out) | exact HB.out)) hb); clear BK187; clear HB; have BK187 := n0_; have HB := n1_; clear n0_ n1_; (try clear hb); (try clear hb2); (try clear hk); (try clear hi)))
      go_meet
      case rel => exact ⟨_, (true), (by first | rfl | (simp; done) | (simp [*]; done)), H', ⟨by first | omega | exact Nat.le_refl _⟩, ⟨by (with_reducible repeat (first | refine blk_drewN ?_ _ | refine blk_drew ?_ | refine blk_alloc ?_ _)); exact BK187.out⟩, ⟨by repeat (first | (with_reducible first | exact HB.out | apply below_alloc | apply pw_below_drewN | apply below_drew1 | refine below_set ?_ GE187.out) | exact HB.out)⟩⟩
    · rw [if_neg c8] at H
      have c8b0 : decide (a1 < 0) = false := decide_eq_false c8
      clear c8
      (first | rw [c8b0] | (simp only [i64_w, i32_w]; rw [c8b0]) | skip)
      have H' := Aside0.mk H
      clear H
      go_wp2_with (first | ((with_reducible refine gate_callee (f := 32) rfl ?_); refine goesL_ (some 13) rfl rfl Try.func32 (by kernel_rfl) rfl #[.slice A0 l0.length c0] rfl (by (try simp only [List.map_toArray, List.map_cons, List.map_nil]); first | done | rfl | (simp only [List.length_drop, List.length_take]; rfl)) ?_; (with_reducible refine (masterdiscref10_Session.calls _ _ l0 true _ ?side1 ?side2 A6.out).mono ?_); (case side1 => repeat (first | exact (Kd.C_below HR0.out HB.out) | (with_reducible refine Kd.C_alloc ?_ _) | (with_reducible refine Kd.C_drewN ?_ _) | (with_reducible refine Kd.C_drew ?_))); (case side2 => exact HC0.out); rintro e w10 ⟨rfl, hb⟩; refine ⟨_, rfl, ?_⟩; have n0_ := Aside0.mk (blk_below (g := gb187) (o := .cells #[.int .i64 0, .int .i64 0, .int .i64 0, .int .i64 0, .int .i64 0, .int .i64 0, .int .i64 0, .int .i64 0, .int .i64 0] 27 (0, 0)) (by (with_reducible repeat (first | refine blk_drewN ?_ _ | refine blk_drew ?_ | refine blk_alloc ?_ _)); exact BK187.out) hb); have n1_ := Aside0.mk (below_step (by repeat (first | (with_reducible first | exact HB.out | apply below_alloc | apply pw_below_drewN | apply below_drew1 | refine below_set ?_ GE187.out) | exact HB.out)) hb); clear BK187; clear HB; have BK187 := n0_; have HB := n1_; clear n0_ n1_; (try clear hb); (try clear hb2); (try clear hk); (try clear hi)))
      go_meet
      case rel => exact ⟨_, (decide (a1 > 15)), (by first | rfl | (simp; done) | (simp [*]; done)), H', ⟨by first | omega | exact Nat.le_refl _⟩, ⟨by (with_reducible repeat (first | refine blk_drewN ?_ _ | refine blk_drew ?_ | refine blk_alloc ?_ _)); exact BK187.out⟩, ⟨by repeat (first | (with_reducible first | exact HB.out | apply below_alloc | apply pw_below_drewN | apply below_drew1 | refine below_set ?_ GE187.out) | exact HB.out)⟩⟩
  · replace c7 := Bool.eq_false_iff.mpr c7
    subst c7
    have H1 : (masterdiscref10_Program.j0 k l0 a1 a2 true) = some (r1, r2, r3, r4, r5, r6, r7, r8, r9, r10) := by rw [if_neg (show ¬ (false = true) by decide)] at H; exact H
    clear H
    have H := H1
    clear H1
    have H' := Aside0.mk H
    clear H
    go_wp2_with (first | ((with_reducible refine gate_callee (f := 32) rfl ?_); refine goesL_ (some 13) rfl rfl Try.func32 (by kernel_rfl) rfl #[.slice A0 l0.length c0] rfl (by (try simp only [List.map_toArray, List.map_cons, List.map_nil]); first | done | rfl | (simp only [List.length_drop, List.length_take]; rfl)) ?_; (with_reducible refine (masterdiscref10_Session.calls _ _ l0 false _ ?side1 ?side2 A6.out).mono ?_); (case side1 => repeat (first | exact (Kd.C_below HR0.out HB.out) | (with_reducible refine Kd.C_alloc ?_ _) | (with_reducible refine Kd.C_drewN ?_ _) | (with_reducible refine Kd.C_drew ?_))); (case side2 => exact HC0.out); rintro e w11 ⟨rfl, hb⟩; refine ⟨_, rfl, ?_⟩; have n0_ := Aside0.mk (blk_below (g := gb187) (o := .cells #[.int .i64 0, .int .i64 0, .int .i64 0, .int .i64 0, .int .i64 0, .int .i64 0, .int .i64 0, .int .i64 0, .int .i64 0] 27 (0, 0)) (by (with_reducible repeat (first | refine blk_drewN ?_ _ | refine blk_drew ?_ | refine blk_alloc ?_ _)); exact BK187.out) hb); have n1_ := Aside0.mk (below_step (by repeat (first | (with_reducible first | exact HB.out | apply below_alloc | apply pw_below_drewN | apply below_drew1 | refine below_set ?_ GE187.out) | exact HB.out)) hb); clear BK187; clear HB; have BK187 := n0_; have HB := n1_; clear n0_ n1_; (try clear hb); (try clear hb2); (try clear hk); (try clear hi)))
    go_meet
    case rel => exact ⟨_, (true), (by first | rfl | (simp; done) | (simp [*]; done)), H', ⟨by first | omega | exact Nat.le_refl _⟩, ⟨by (with_reducible repeat (first | refine blk_drewN ?_ _ | refine blk_drew ?_ | refine blk_alloc ?_ _)); exact BK187.out⟩, ⟨by repeat (first | (with_reducible first | exact HB.out | apply below_alloc | apply pw_below_drewN | apply below_drew1 | refine below_set ?_ GE187.out) | exact HB.out)⟩⟩
 case rest =>
  clear HC4
  try clear c1
  try clear p2
  try clear c3
  try clear c7
  try clear c8
  try clear c8b0
  obtain ⟨kq, x22_3, rfl, HA, HJ3, BK187, HB⟩ := hcut
  cases kq with
  | zero => exact absurd HA.out (by simp [masterdiscref10_Program.j0])
  | succ kj3 =>
   have H := HA.out
   clear HA
   simp only [masterdiscref10_Program.j0] at H
   by_cases c12 : x22_3 = true
   · subst c12
     have H1 : (some (0, 0, 0, 0, 0, 0, 0, 0, 0, 1)) = some (r1, r2, r3, r4, r5, r6, r7, r8, r9, r10) := by rw [if_pos rfl] at H; exact H
     clear H
     have H := H1
     clear H1
     simp only [Option.some.injEq, Prod.mk.injEq] at H
     obtain ⟨rfl, rfl, rfl, rfl, rfl, rfl, rfl, rfl, rfl, rfl⟩ := H
     have hcz13_0 : wc.cell? ⟨gb187, 0, none⟩ = some (.int .i64 0) := (blk_cell BK187.out 0).trans rfl
     have hcz13_1 : wc.cell? ⟨gb187, 1, none⟩ = some (.int .i64 0) := (blk_cell BK187.out 1).trans rfl
     have hcz13_2 : wc.cell? ⟨gb187, 2, none⟩ = some (.int .i64 0) := (blk_cell BK187.out 2).trans rfl
     have hcz13_3 : wc.cell? ⟨gb187, 3, none⟩ = some (.int .i64 0) := (blk_cell BK187.out 3).trans rfl
     have hcz13_4 : wc.cell? ⟨gb187, 4, none⟩ = some (.int .i64 0) := (blk_cell BK187.out 4).trans rfl
     have hcz13_5 : wc.cell? ⟨gb187, 5, none⟩ = some (.int .i64 0) := (blk_cell BK187.out 5).trans rfl
     have hcz13_6 : wc.cell? ⟨gb187, 6, none⟩ = some (.int .i64 0) := (blk_cell BK187.out 6).trans rfl
     have hcz13_7 : wc.cell? ⟨gb187, 7, none⟩ = some (.int .i64 0) := (blk_cell BK187.out 7).trans rfl
     have hcz13_8 : wc.cell? ⟨gb187, 8, none⟩ = some (.int .i64 0) := (blk_cell BK187.out 8).trans rfl
     have hfz13_0 := blk_frozen BK187.out 0
     have hfz13_1 := blk_frozen BK187.out 1
     have hfz13_2 := blk_frozen BK187.out 2
     have hfz13_3 := blk_frozen BK187.out 3
     have hfz13_4 := blk_frozen BK187.out 4
     have hfz13_5 := blk_frozen BK187.out 5
     have hfz13_6 := blk_frozen BK187.out 6
     have hfz13_7 := blk_frozen BK187.out 7
     have hfz13_8 := blk_frozen BK187.out 8
     go_wp2
     refine bodyPost_ret (results_ct rfl _ _ gb187 27 #[.int .i64 0, .int .i64 0, .int .i64 0, .int .i64 0, .int .i64 0, .int .i64 0, .int .i64 0, .int .i64 0, .int .i64 0] (0, 0) _ rfl (by (with_reducible repeat (first | refine blk_drewN ?_ _ | refine blk_drew ?_ | refine blk_alloc ?_ _)); refine blk_put (cs := #[.int .i64 0, .int .i64 0, .int .i64 0, .int .i64 0, .int .i64 0, .int .i64 0, .int .i64 0, .int .i64 0, .int .i64 0]) ?_ 8 _ rfl; (with_reducible repeat (first | refine blk_drewN ?_ _ | refine blk_drew ?_ | refine blk_alloc ?_ _)); refine blk_put (cs := #[.int .i64 0, .int .i64 0, .int .i64 0, .int .i64 0, .int .i64 0, .int .i64 0, .int .i64 0, .int .i64 0, .int .i64 0]) ?_ 7 _ rfl; (with_reducible repeat (first | refine blk_drewN ?_ _ | refine blk_drew ?_ | refine blk_alloc ?_ _)); refine blk_put (cs := #[.int .i64 0, .int .i64 0, .int .i64 0, .int .i64 0, .int .i64 0, .int .i64 0, .int .i64 0, .int .i64 0, .int .i64 0]) ?_ 6 _ rfl; (with_reducible repeat (first | refine blk_drewN ?_ _ | refine blk_drew ?_ | refine blk_alloc ?_ _)); refine blk_put (cs := #[.int .i64 0, .int .i64 0, .int .i64 0, .int .i64 0, .int .i64 0, .int .i64 0, .int .i64 0, .int .i64 0, .int .i64 0]) ?_ 5 _ rfl; (with_reducible repeat (first | refine blk_drewN ?_ _ | refine blk_drew ?_ | refine blk_alloc ?_ _)); refine blk_put (cs := #[.int .i64 0, .int .i64 0, .int .i64 0, .int .i64 0, .int .i64 0, .int .i64 0, .int .i64 0, .int .i64 0, .int .i64 0]) ?_ 4 _ rfl; (with_reducible repeat (first | refine blk_drewN ?_ _ | refine blk_drew ?_ | refine blk_alloc ?_ _)); refine blk_put (cs := #[.int .i64 0, .int .i64 0, .int .i64 0, .int .i64 0, .int .i64 0, .int .i64 0, .int .i64 0, .int .i64 0, .int .i64 0]) ?_ 3 _ rfl; (with_reducible repeat (first | refine blk_drewN ?_ _ | refine blk_drew ?_ | refine blk_alloc ?_ _)); refine blk_put (cs := #[.int .i64 0, .int .i64 0, .int .i64 0, .int .i64 0, .int .i64 0, .int .i64 0, .int .i64 0, .int .i64 0, .int .i64 0]) ?_ 2 _ rfl; (with_reducible repeat (first | refine blk_drewN ?_ _ | refine blk_drew ?_ | refine blk_alloc ?_ _)); refine blk_put (cs := #[.int .i64 0, .int .i64 0, .int .i64 0, .int .i64 0, .int .i64 0, .int .i64 0, .int .i64 0, .int .i64 0, .int .i64 0]) ?_ 1 _ rfl; (with_reducible repeat (first | refine blk_drewN ?_ _ | refine blk_drew ?_ | refine blk_alloc ?_ _)); refine blk_put (cs := #[.int .i64 0, .int .i64 0, .int .i64 0, .int .i64 0, .int .i64 0, .int .i64 0, .int .i64 0, .int .i64 0, .int .i64 0]) ?_ 0 _ rfl; (with_reducible repeat (first | refine blk_drewN ?_ _ | refine blk_drew ?_ | refine blk_alloc ?_ _)); exact BK187.out) Try.underlying27 rfl (by kernel_rfl)) rfl ?_
     exact ⟨by first | rfl | (simp [errW_none, errW_some] <;> rfl) | (simp [*, errW_none, errW_some] <;> rfl), by repeat (first | (with_reducible first | exact HB.out | apply below_alloc | apply pw_below_drewN | apply below_drew1 | refine below_set ?_ GE187.out) | exact HB.out)⟩
   · replace c12 := Bool.eq_false_iff.mpr c12
     subst c12
     have H1 : ((masterdiscref06_ToMSF.f a2).bind fun bt189 => (if bt189.2.2.2 = 0 then (masterdiscref10_Program.j1 kj3 l0 a1 a2 (decide (a2 < 0)) bt189.1 bt189.2.1 bt189.2.2.1) else (masterdiscref10_Program.j1 kj3 l0 a1 a2 true bt189.1 bt189.2.1 bt189.2.2.1))) = some (r1, r2, r3, r4, r5, r6, r7, r8, r9, r10) := by rw [if_neg (show ¬ (false = true) by decide)] at H; exact H
     clear H
     have H := H1
     clear H1
     replace H := Option.bind_eq_some_iff.mp H
     obtain ⟨⟨t189, t190, t191, t192⟩, A140, H⟩ := H
     replace H : (if t192 = 0 then (masterdiscref10_Program.j1 kj3 l0 a1 a2 (decide (a2 < 0)) t189 t190 t191) else (masterdiscref10_Program.j1 kj3 l0 a1 a2 true t189 t190 t191)) = some (r1, r2, r3, r4, r5, r6, r7, r8, r9, r10) := H
     have A14 := Aside0.mk A140
     clear A140
     have HC15 := Aside0.mk H
     clear H
     go_upto_region 4 with (first | ((with_reducible refine gate_callee (f := 33) rfl ?_); refine goesL_ (some 26) rfl rfl Try.func33 (by kernel_rfl) rfl #[.int .i64 a2] rfl (by (try simp only [List.map_toArray, List.map_cons, List.map_nil]); first | done | rfl | (simp only [List.length_drop, List.length_take]; rfl)) ?_; (with_reducible refine (masterdiscref06_ToMSF.calls a2 t189 t190 t191 t192 _ A14.out).mono ?_); rintro e w16 ⟨rfl, hb⟩; refine ⟨_, rfl, ?_⟩; have n0_ := Aside0.mk (blk_below (g := gb187) (o := .cells #[.int .i64 0, .int .i64 0, .int .i64 0, .int .i64 0, .int .i64 0, .int .i64 0, .int .i64 0, .int .i64 0, .int .i64 0] 27 (0, 0)) (by (with_reducible repeat (first | refine blk_drewN ?_ _ | refine blk_drew ?_ | refine blk_alloc ?_ _)); exact BK187.out) hb); have n1_ := Aside0.mk (below_step (by repeat (first | (with_reducible first | exact HB.out | apply below_alloc | apply pw_below_drewN | apply below_drew1 | refine below_set ?_ GE187.out) | exact HB.out)) hb); clear BK187; clear HB; have BK187 := n0_; have HB := n1_; clear n0_ n1_; (try clear hb); (try clear hb2); (try clear hk); (try clear hi)) | ((with_reducible refine gate_dst (N := 8) rfl ?_); refine box_event ?hg (N := 8) ?hd (cs := #[.int .i64 0, .int .i64 0, .int .i64 0]) (t := 25) ?hr ?_; (case hd => rfl); (case hg => rfl); (case hr => first | (go_simp; done) | (go_simp; rfl)); intro gb193 hg w17 hbox hb; have n0_ := Aside0.mk (blk_below (g := gb187) (o := .cells #[.int .i64 0, .int .i64 0, .int .i64 0, .int .i64 0, .int .i64 0, .int .i64 0, .int .i64 0, .int .i64 0, .int .i64 0] 27 (0, 0)) (by (with_reducible repeat (first | refine blk_drewN ?_ _ | refine blk_drew ?_ | refine blk_alloc ?_ _)); exact BK187.out) hb); have n1_ := Aside0.mk (below_step (by repeat (first | (with_reducible first | exact HB.out | apply below_alloc | apply pw_below_drewN | apply below_drew1 | refine below_set ?_ GE187.out) | exact HB.out)) hb); have n2_ := Aside0.mk (hbox); have n3_ := Aside0.mk ((by rw [hg]; exact (below_size (by repeat (first | (with_reducible first | exact HB.out | apply below_alloc | apply pw_below_drewN | apply below_drew1 | refine below_set ?_ GE187.out) | exact HB.out))) : w.heap.size ≤ gb193)); have n4_ := Aside0.mk ((by rw [hg]; exact (below_size (by repeat (first | (with_reducible first | exact HB.out | apply below_alloc | apply pw_below_drewN | apply below_drew1 | refine below_set ?_ GE187.out) | exact HB.out))) : w.heap.size ≤ gb193)); have n5_ := Aside0.mk ((by rw [hg]; exact Nat.ne_of_lt (blk_lt (g := gb187) (o := .cells #[.int .i64 0, .int .i64 0, .int .i64 0, .int .i64 0, .int .i64 0, .int .i64 0, .int .i64 0, .int .i64 0, .int .i64 0] 27 (0, 0)) (by (with_reducible repeat (first | refine blk_drewN ?_ _ | refine blk_drew ?_ | refine blk_alloc ?_ _)); exact BK187.out)) : gb187 ≠ gb193)); have n6_ := Aside0.mk ((by rw [hg]; exact Nat.ne_of_gt (blk_lt (g := gb187) (o := .cells #[.int .i64 0, .int .i64 0, .int .i64 0, .int .i64 0, .int .i64 0, .int .i64 0, .int .i64 0, .int .i64 0, .int .i64 0] 27 (0, 0)) (by (with_reducible repeat (first | refine blk_drewN ?_ _ | refine blk_drew ?_ | refine blk_alloc ?_ _)); exact BK187.out)) : gb193 ≠ gb187)); clear BK187; clear HB; have BK187 := n0_; have HB := n1_; have BK193 := n2_; have GW193 := n3_; have GE193 := n4_; have NB187_193 := n5_; have NB193_187 := n6_; clear n0_ n1_ n2_ n3_ n4_ n5_ n6_; clear hb hbox hg; have hnb18 := NB193_187.out; have hnc18 := NB187_193.out; obtain ⟨hcz19_0, hcz19_1, hcz19_2⟩ := cel3 BK193.out; obtain ⟨hfz19_0, hfz19_1, hfz19_2⟩ := frz3 BK193.out))
     (try simp only [Act.put, List.setIfInBounds_toArray, List.set_cons_zero, List.set_cons_succ])
     go_cut [34] (fun v34 wc => ∃ (kq : Nat) (x34_14 : Bool), v34 = .bool x34_14 ∧ Aside0 (masterdiscref10_Program.j1 kq l0 a1 a2 x34_14 t189 t190 t191 = some (r1, r2, r3, r4, r5, r6, r7, r8, r9, r10)) ∧ Aside0 (kq ≤ kj3) ∧ Aside0 (wc.heap[gb187]? = some (.cells #[.int .i64 0, .int .i64 0, .int .i64 0, .int .i64 0, .int .i64 0, .int .i64 0, .int .i64 0, .int .i64 0, .int .i64 0] 27 (0, 0))) ∧ Aside0 (wc.heap[gb193]? = some (.cells #[.int .i64 t189, .int .i64 t190, .int .i64 t191] 25 (0, 0))) ∧ Aside0 (Below w.heap.size w wc))
     case first =>
      have H := HC15.out
      clear HC15
      by_cases c20 : t192 = 0
      · rw [if_pos c20] at H
        have c20b0 : (t192 == 0) = true := beq_iff_eq.mpr c20
        have c20b1 : (t192 != 0) = false := bne_eq_false_iff_eq.mpr c20
        clear c20
        (first | rw [c20b0] | (simp only [i64_w, i32_w]; rw [c20b0]) | skip)
        have H' := Aside0.mk H
        clear H
        go_wp2
        go_meet
        case rel => exact ⟨_, (decide (a2 < 0)), (by first | rfl | (simp; done) | (simp [*]; done)), H', ⟨by have := HJ3.out; first | omega | exact Nat.le_refl _⟩, ⟨by (with_reducible repeat (first | refine blk_drewN ?_ _ | refine blk_drew ?_ | refine blk_alloc ?_ _)); refine blk_far ?_ NB187_193.out _; (with_reducible repeat (first | refine blk_drewN ?_ _ | refine blk_drew ?_ | refine blk_alloc ?_ _)); refine blk_far ?_ NB187_193.out _; (with_reducible repeat (first | refine blk_drewN ?_ _ | refine blk_drew ?_ | refine blk_alloc ?_ _)); refine blk_far ?_ NB187_193.out _; (with_reducible repeat (first | refine blk_drewN ?_ _ | refine blk_drew ?_ | refine blk_alloc ?_ _)); exact BK187.out⟩, ⟨by (with_reducible repeat (first | refine blk_drewN ?_ _ | refine blk_drew ?_ | refine blk_alloc ?_ _)); refine blk_put (cs := #[.int .i64 t189, .int .i64 t190, .int .i64 0]) ?_ 2 _ rfl; (with_reducible repeat (first | refine blk_drewN ?_ _ | refine blk_drew ?_ | refine blk_alloc ?_ _)); refine blk_put (cs := #[.int .i64 t189, .int .i64 0, .int .i64 0]) ?_ 1 _ rfl; (with_reducible repeat (first | refine blk_drewN ?_ _ | refine blk_drew ?_ | refine blk_alloc ?_ _)); refine blk_put (cs := #[.int .i64 0, .int .i64 0, .int .i64 0]) ?_ 0 _ rfl; (with_reducible repeat (first | refine blk_drewN ?_ _ | refine blk_drew ?_ | refine blk_alloc ?_ _)); exact BK193.out⟩, ⟨by repeat (first | (with_reducible first | exact HB.out | apply below_alloc | apply pw_below_drewN | apply below_drew1 | refine below_set ?_ GE187.out | refine below_set ?_ GE193.out) | exact HB.out)⟩⟩
      · rw [if_neg c20] at H
        have c20b0 : (t192 == 0) = false := beq_eq_false_iff_ne.mpr c20
        have c20b1 : (t192 != 0) = true := bne_iff_ne.mpr c20
        (first | rw [c20b0] | (simp only [i64_w, i32_w]; rw [c20b0]) | skip)
        have H' := Aside0.mk H
        clear H
        go_wp2
        go_meet
        case rel => exact ⟨_, (true), (by first | rfl | (simp; done) | (simp [*]; done)), H', ⟨by have := HJ3.out; first | omega | exact Nat.le_refl _⟩, ⟨by (with_reducible repeat (first | refine blk_drewN ?_ _ | refine blk_drew ?_ | refine blk_alloc ?_ _)); refine blk_far ?_ NB187_193.out _; (with_reducible repeat (first | refine blk_drewN ?_ _ | refine blk_drew ?_ | refine blk_alloc ?_ _)); refine blk_far ?_ NB187_193.out _; (with_reducible repeat (first | refine blk_drewN ?_ _ | refine blk_drew ?_ | refine blk_alloc ?_ _)); refine blk_far ?_ NB187_193.out _; (with_reducible repeat (first | refine blk_drewN ?_ _ | refine blk_drew ?_ | refine blk_alloc ?_ _)); exact BK187.out⟩, ⟨by (with_reducible repeat (first | refine blk_drewN ?_ _ | refine blk_drew ?_ | refine blk_alloc ?_ _)); refine blk_put (cs := #[.int .i64 t189, .int .i64 t190, .int .i64 0]) ?_ 2 _ rfl; (with_reducible repeat (first | refine blk_drewN ?_ _ | refine blk_drew ?_ | refine blk_alloc ?_ _)); refine blk_put (cs := #[.int .i64 t189, .int .i64 0, .int .i64 0]) ?_ 1 _ rfl; (with_reducible repeat (first | refine blk_drewN ?_ _ | refine blk_drew ?_ | refine blk_alloc ?_ _)); refine blk_put (cs := #[.int .i64 0, .int .i64 0, .int .i64 0]) ?_ 0 _ rfl; (with_reducible repeat (first | refine blk_drewN ?_ _ | refine blk_drew ?_ | refine blk_alloc ?_ _)); exact BK193.out⟩, ⟨by repeat (first | (with_reducible first | exact HB.out | apply below_alloc | apply pw_below_drewN | apply below_drew1 | refine below_set ?_ GE187.out | refine below_set ?_ GE193.out) | exact HB.out)⟩⟩
     case rest =>
      clear HC15
      try clear c1
      try clear c2
      try clear p2
      try clear c3
      try clear c7
      try clear c8
      try clear c8b0
      try clear c12
      try clear c18
      try clear c20
      try clear c20b0
      try clear c20b1
      try clear hcz13_0
      try clear hcz13_1
      try clear hcz13_2
      try clear hcz13_3
      try clear hcz13_4
      try clear hcz13_5
      try clear hcz13_6
      try clear hcz13_7
      try clear hcz13_8
      try clear hcz19_0
      try clear hcz19_1
      try clear hcz19_2
      try clear hfz13_0
      try clear hfz13_1
      try clear hfz13_2
      try clear hfz13_3
      try clear hfz13_4
      try clear hfz13_5
      try clear hfz13_6
      try clear hfz13_7
      try clear hfz13_8
      try clear hfz19_0
      try clear hfz19_1
      try clear hfz19_2
      try clear p2
      obtain ⟨kq, x34_14, rfl, HA, HJ14, BK187, BK193, HB⟩ := hcut
      cases kq with
      | zero => exact absurd HA.out (by simp [masterdiscref10_Program.j1])
      | succ kj14 =>
       have H := HA.out
       clear HA
       simp only [masterdiscref10_Program.j1] at H
       by_cases c21 : x34_14 = true
       · subst c21
         have H1 : (some (0, 0, 0, 0, 0, 0, 0, 0, 0, 2)) = some (r1, r2, r3, r4, r5, r6, r7, r8, r9, r10) := by rw [if_pos rfl] at H; exact H
         clear H
         have H := H1
         clear H1
         simp only [Option.some.injEq, Prod.mk.injEq] at H
         obtain ⟨rfl, rfl, rfl, rfl, rfl, rfl, rfl, rfl, rfl, rfl⟩ := H
         have hnb22 := NB187_193.out
         have hnc22 := NB193_187.out
         have hcz23_0 : wc.cell? ⟨gb187, 0, none⟩ = some (.int .i64 0) := (blk_cell BK187.out 0).trans rfl
         have hcz23_1 : wc.cell? ⟨gb187, 1, none⟩ = some (.int .i64 0) := (blk_cell BK187.out 1).trans rfl
         have hcz23_2 : wc.cell? ⟨gb187, 2, none⟩ = some (.int .i64 0) := (blk_cell BK187.out 2).trans rfl
         have hcz23_3 : wc.cell? ⟨gb187, 3, none⟩ = some (.int .i64 0) := (blk_cell BK187.out 3).trans rfl
         have hcz23_4 : wc.cell? ⟨gb187, 4, none⟩ = some (.int .i64 0) := (blk_cell BK187.out 4).trans rfl
         have hcz23_5 : wc.cell? ⟨gb187, 5, none⟩ = some (.int .i64 0) := (blk_cell BK187.out 5).trans rfl
         have hcz23_6 : wc.cell? ⟨gb187, 6, none⟩ = some (.int .i64 0) := (blk_cell BK187.out 6).trans rfl
         have hcz23_7 : wc.cell? ⟨gb187, 7, none⟩ = some (.int .i64 0) := (blk_cell BK187.out 7).trans rfl
         have hcz23_8 : wc.cell? ⟨gb187, 8, none⟩ = some (.int .i64 0) := (blk_cell BK187.out 8).trans rfl
         have hfz23_0 := blk_frozen BK187.out 0
         have hfz23_1 := blk_frozen BK187.out 1
         have hfz23_2 := blk_frozen BK187.out 2
         have hfz23_3 := blk_frozen BK187.out 3
         have hfz23_4 := blk_frozen BK187.out 4
         have hfz23_5 := blk_frozen BK187.out 5
         have hfz23_6 := blk_frozen BK187.out 6
         have hfz23_7 := blk_frozen BK187.out 7
         have hfz23_8 := blk_frozen BK187.out 8
         go_wp2
         refine bodyPost_ret (results_ct rfl _ _ gb187 27 #[.int .i64 0, .int .i64 0, .int .i64 0, .int .i64 0, .int .i64 0, .int .i64 0, .int .i64 0, .int .i64 0, .int .i64 0] (0, 0) _ rfl (by (with_reducible repeat (first | refine blk_drewN ?_ _ | refine blk_drew ?_ | refine blk_alloc ?_ _)); refine blk_put (cs := #[.int .i64 0, .int .i64 0, .int .i64 0, .int .i64 0, .int .i64 0, .int .i64 0, .int .i64 0, .int .i64 0, .int .i64 0]) ?_ 8 _ rfl; (with_reducible repeat (first | refine blk_drewN ?_ _ | refine blk_drew ?_ | refine blk_alloc ?_ _)); refine blk_put (cs := #[.int .i64 0, .int .i64 0, .int .i64 0, .int .i64 0, .int .i64 0, .int .i64 0, .int .i64 0, .int .i64 0, .int .i64 0]) ?_ 7 _ rfl; (with_reducible repeat (first | refine blk_drewN ?_ _ | refine blk_drew ?_ | refine blk_alloc ?_ _)); refine blk_put (cs := #[.int .i64 0, .int .i64 0, .int .i64 0, .int .i64 0, .int .i64 0, .int .i64 0, .int .i64 0, .int .i64 0, .int .i64 0]) ?_ 6 _ rfl; (with_reducible repeat (first | refine blk_drewN ?_ _ | refine blk_drew ?_ | refine blk_alloc ?_ _)); refine blk_put (cs := #[.int .i64 0, .int .i64 0, .int .i64 0, .int .i64 0, .int .i64 0, .int .i64 0, .int .i64 0, .int .i64 0, .int .i64 0]) ?_ 5 _ rfl; (with_reducible repeat (first | refine blk_drewN ?_ _ | refine blk_drew ?_ | refine blk_alloc ?_ _)); refine blk_put (cs := #[.int .i64 0, .int .i64 0, .int .i64 0, .int .i64 0, .int .i64 0, .int .i64 0, .int .i64 0, .int .i64 0, .int .i64 0]) ?_ 4 _ rfl; (with_reducible repeat (first | refine blk_drewN ?_ _ | refine blk_drew ?_ | refine blk_alloc ?_ _)); refine blk_put (cs := #[.int .i64 0, .int .i64 0, .int .i64 0, .int .i64 0, .int .i64 0, .int .i64 0, .int .i64 0, .int .i64 0, .int .i64 0]) ?_ 3 _ rfl; (with_reducible repeat (first | refine blk_drewN ?_ _ | refine blk_drew ?_ | refine blk_alloc ?_ _)); refine blk_put (cs := #[.int .i64 0, .int .i64 0, .int .i64 0, .int .i64 0, .int .i64 0, .int .i64 0, .int .i64 0, .int .i64 0, .int .i64 0]) ?_ 2 _ rfl; (with_reducible repeat (first | refine blk_drewN ?_ _ | refine blk_drew ?_ | refine blk_alloc ?_ _)); refine blk_put (cs := #[.int .i64 0, .int .i64 0, .int .i64 0, .int .i64 0, .int .i64 0, .int .i64 0, .int .i64 0, .int .i64 0, .int .i64 0]) ?_ 1 _ rfl; (with_reducible repeat (first | refine blk_drewN ?_ _ | refine blk_drew ?_ | refine blk_alloc ?_ _)); refine blk_put (cs := #[.int .i64 0, .int .i64 0, .int .i64 0, .int .i64 0, .int .i64 0, .int .i64 0, .int .i64 0, .int .i64 0, .int .i64 0]) ?_ 0 _ rfl; (with_reducible repeat (first | refine blk_drewN ?_ _ | refine blk_drew ?_ | refine blk_alloc ?_ _)); exact BK187.out) Try.underlying27 rfl (by kernel_rfl)) rfl ?_
         exact ⟨by first | rfl | (simp [errW_none, errW_some] <;> rfl) | (simp [*, errW_none, errW_some] <;> rfl), by repeat (first | (with_reducible first | exact HB.out | apply below_alloc | apply pw_below_drewN | apply below_drew1 | refine below_set ?_ GE187.out | refine below_set ?_ GE193.out) | exact HB.out)⟩
       · replace c21 := Bool.eq_false_iff.mpr c21
         subst c21
         have H1 : (masterdiscref10_Program.l0 kj14 l0 a1 a2 0 t189 t190 t191) = some (r1, r2, r3, r4, r5, r6, r7, r8, r9, r10) := by rw [if_neg (show ¬ (false = true) by decide)] at H; exact H
         clear H
         have H := H1
         clear H1
         have H' := Aside0.mk H
         clear H
         go_wp2
         go_loopg [10] kj14 (fun kq v10 w' => ∃ (x10_3 : Int) (x188000_3 : Int) (x188001_3 : Int) (x188002_3 : Int) (x188003_3 : Int) (x188004_3 : Int) (x188005_3 : Int) (x188006_3 : Int) (x188007_3 : Int) (x188008_3 : Int), v10 = .int .i64 x10_3 ∧ Aside0 (masterdiscref10_Program.l0 kq l0 a1 a2 x10_3 t189 t190 t191 = some (r1, r2, r3, r4, r5, r6, r7, r8, r9, r10)) ∧ Aside0 (kq ≤ kj14) ∧ Aside0 (w'.heap[gb187]? = some (.cells #[.int .i64 x188000_3, .int .i64 x188001_3, .int .i64 x188002_3, .int .i64 x188003_3, .int .i64 x188004_3, .int .i64 x188005_3, .int .i64 x188006_3, .int .i64 x188007_3, .int .i64 x188008_3] 27 (0, 0))) ∧ Aside0 (w'.heap[gb193]? = some (.cells #[.int .i64 t189, .int .i64 t190, .int .i64 t191] 25 (0, 0))) ∧ Aside0 (Below w.heap.size w w'))
         case atStart => exact ⟨(0), (0), (0), (0), (0), (0), (0), (0), (0), (0), (by first | rfl | (simp; done) | (simp [*]; done)), H', ⟨Nat.le_refl _⟩, ⟨by (with_reducible repeat (first | refine blk_drewN ?_ _ | refine blk_drew ?_ | refine blk_alloc ?_ _)); exact BK187.out⟩, ⟨by (with_reducible repeat (first | refine blk_drewN ?_ _ | refine blk_drew ?_ | refine blk_alloc ?_ _)); exact BK193.out⟩, ⟨by repeat (first | (with_reducible first | exact HB.out | apply below_alloc | apply pw_below_drewN | apply below_drew1 | refine below_set ?_ GE187.out | refine below_set ?_ GE193.out) | exact HB.out)⟩⟩
         case round =>
          clear H'
          try clear c1
          try clear c2
          try clear p2
          try clear c3
          try clear c7
          try clear c8
          try clear c8b0
          try clear c12
          try clear c18
          try clear c20
          try clear c20b0
          try clear c20b1
          try clear c21
          try clear c22
          try clear hcz13_0
          try clear hcz13_1
          try clear hcz13_2
          try clear hcz13_3
          try clear hcz13_4
          try clear hcz13_5
          try clear hcz13_6
          try clear hcz13_7
          try clear hcz13_8
          try clear hcz19_0
          try clear hcz19_1
          try clear hcz19_2
          try clear hcz23_0
          try clear hcz23_1
          try clear hcz23_2
          try clear hcz23_3
          try clear hcz23_4
          try clear hcz23_5
          try clear hcz23_6
          try clear hcz23_7
          try clear hcz23_8
          try clear hfz13_0
          try clear hfz13_1
          try clear hfz13_2
          try clear hfz13_3
          try clear hfz13_4
          try clear hfz13_5
          try clear hfz13_6
          try clear hfz13_7
          try clear hfz13_8
          try clear hfz19_0
          try clear hfz19_1
          try clear hfz19_2
          try clear hfz23_0
          try clear hfz23_1
          try clear hfz23_2
          try clear hfz23_3
          try clear hfz23_4
          try clear hfz23_5
          try clear hfz23_6
          try clear hfz23_7
          try clear hfz23_8
          try clear p2
          obtain ⟨x10_3, x188000_3, x188001_3, x188002_3, x188003_3, x188004_3, x188005_3, x188006_3, x188007_3, x188008_3, rfl, HA, HK3, BK187, BK193, HB⟩ := hrel
          cases gk with
          | zero => exact absurd HA.out (by simp [masterdiscref10_Program.l0])
          | succ k3 =>
           have H := HA.out
           clear HA
           simp only [masterdiscref10_Program.l0] at H
           by_cases c24 : x10_3 < (l0.length : Int)
           · rw [if_pos c24] at H
             have c24b0 : decide (x10_3 < (l0.length : Int)) = true := decide_eq_true c24
             clear c24
             by_cases c25 : 0 ≤ x10_3
             · rw [if_pos c25] at H
               have c25b0 : decide (0 ≤ x10_3) = true := decide_eq_true c25
               clear c25
               by_cases c26 : a2 < ((rd_T53 l0 x10_3).f2)
               · rw [if_pos c26] at H
                 have c26b0 : decide (a2 < ((rd_T53 l0 x10_3).f2)) = true := decide_eq_true c26
                 clear c26
                 replace H := Option.bind_eq_some_iff.mp H
                 obtain ⟨⟨t200, t201, t202⟩, A270, H⟩ := H
                 replace H : (some (a1, (rd_T53 l0 x10_3).f0, 0, t200, t201, t202, t189, t190, t191, 0)) = some (r1, r2, r3, r4, r5, r6, r7, r8, r9, r10) := H
                 have A27 := Aside0.mk A270
                 clear A270
                 simp only [Option.some.injEq, Prod.mk.injEq] at H
                 obtain ⟨rfl, rfl, rfl, rfl, rfl, rfl, rfl, rfl, rfl, rfl⟩ := H
                 have p198 : 0 ≤ (x10_3 : Int) := of_decide_eq_true (by first | (with_reducible assumption) | assumption)
                 have q198 : x10_3 < (l0.length : Int) := of_decide_eq_true (by first | (with_reducible assumption) | assumption)
                 obtain ⟨ad198, e198, hx198_0, hx198_1, hx198_2, hx198_3, hx198_4, hx198_5, hx198_6⟩ := at_T53 HR0.out x10_3 p198 q198
                 cases e198
                 replace hx198_0 := upc HB.out hx198_0
                 replace hx198_1 := upc HB.out hx198_1
                 replace hx198_2 := upc HB.out hx198_2
                 replace hx198_3 := upc HB.out hx198_3
                 replace hx198_4 := upc HB.out hx198_4
                 replace hx198_5 := upc HB.out hx198_5
                 replace hx198_6 := upc HB.out hx198_6
                 replace p198 := eq_true p198
                 replace q198 := eq_true q198
                 try go_wp2_with (first | ((with_reducible refine gate_dst (N := 11) rfl ?_); refine box_event ?hg (N := 11) ?hd (cs := #[.int .i64 0, .int .i64 0, .int .i64 0, .int .i64 0, .int .i64 0, .int .i64 0, .int .i64 0]) (t := 53) ?hr ?_; (case hd => rfl); (case hg => rfl); (case hr => first | (go_simp; done) | (go_simp; rfl)); intro gb199 hg w28 hbox hb; have n0_ := Aside0.mk (blk_below (g := gb187) (o := .cells #[.int .i64 x188000_3, .int .i64 x188001_3, .int .i64 x188002_3, .int .i64 x188003_3, .int .i64 x188004_3, .int .i64 x188005_3, .int .i64 x188006_3, .int .i64 x188007_3, .int .i64 x188008_3] 27 (0, 0)) (by (with_reducible repeat (first | refine blk_drewN ?_ _ | refine blk_drew ?_ | refine blk_alloc ?_ _)); exact BK187.out) hb); have n1_ := Aside0.mk (blk_below (g := gb193) (o := .cells #[.int .i64 t189, .int .i64 t190, .int .i64 t191] 25 (0, 0)) (by (with_reducible repeat (first | refine blk_drewN ?_ _ | refine blk_drew ?_ | refine blk_alloc ?_ _)); exact BK193.out) hb); have n2_ := Aside0.mk (below_step (by repeat (first | (with_reducible first | exact HB.out | apply below_alloc | apply pw_below_drewN | apply below_drew1 | refine below_set ?_ GE187.out | refine below_set ?_ GE193.out) | exact HB.out)) hb); have n3_ := Aside0.mk (hbox); have n4_ := Aside0.mk ((by rw [hg]; exact (below_size (by repeat (first | (with_reducible first | exact HB.out | apply below_alloc | apply pw_below_drewN | apply below_drew1 | refine below_set ?_ GE187.out | refine below_set ?_ GE193.out) | exact HB.out))) : w.heap.size ≤ gb199)); have n5_ := Aside0.mk ((by rw [hg]; exact (below_size (by repeat (first | (with_reducible first | exact HB.out | apply below_alloc | apply pw_below_drewN | apply below_drew1 | refine below_set ?_ GE187.out | refine below_set ?_ GE193.out) | exact HB.out))) : w.heap.size ≤ gb199)); have n6_ := Aside0.mk ((by rw [hg]; exact Nat.ne_of_lt (blk_lt (g := gb187) (o := .cells #[.int .i64 x188000_3, .int .i64 x188001_3, .int .i64 x188002_3, .int .i64 x188003_3, .int .i64 x188004_3, .int .i64 x188005_3, .int .i64 x188006_3, .int .i64 x188007_3, .int .i64 x188008_3] 27 (0, 0)) (by (with_reducible repeat (first | refine blk_drewN ?_ _ | refine blk_drew ?_ | refine blk_alloc ?_ _)); exact BK187.out)) : gb187 ≠ gb199)); have n7_ := Aside0.mk ((by rw [hg]; exact Nat.ne_of_gt (blk_lt (g := gb187) (o := .cells #[.int .i64 x188000_3, .int .i64 x188001_3, .int .i64 x188002_3, .int .i64 x188003_3, .int .i64 x188004_3, .int .i64 x188005_3, .int .i64 x188006_3, .int .i64 x188007_3, .int .i64 x188008_3] 27 (0, 0)) (by (with_reducible repeat (first | refine blk_drewN ?_ _ | refine blk_drew ?_ | refine blk_alloc ?_ _)); exact BK187.out)) : gb199 ≠ gb187)); have n8_ := Aside0.mk ((by rw [hg]; exact Nat.ne_of_lt (blk_lt (g := gb193) (o := .cells #[.int .i64 t189, .int .i64 t190, .int .i64 t191] 25 (0, 0)) (by (with_reducible repeat (first | refine blk_drewN ?_ _ | refine blk_drew ?_ | refine blk_alloc ?_ _)); exact BK193.out)) : gb193 ≠ gb199)); have n9_ := Aside0.mk ((by rw [hg]; exact Nat.ne_of_gt (blk_lt (g := gb193) (o := .cells #[.int .i64 t189, .int .i64 t190, .int .i64 t191] 25 (0, 0)) (by (with_reducible repeat (first | refine blk_drewN ?_ _ | refine blk_drew ?_ | refine blk_alloc ?_ _)); exact BK193.out)) : gb199 ≠ gb193)); clear BK187; clear BK193; clear HB; have BK187 := n0_; have BK193 := n1_; have HB := n2_; have BK199 := n3_; have GW199 := n4_; have GE199 := n5_; have NB187_199 := n6_; have NB199_187 := n7_; have NB193_199 := n8_; have NB199_193 := n9_; clear n0_ n1_ n2_ n3_ n4_ n5_ n6_ n7_ n8_ n9_; clear hb hbox hg; have hnb29 := NB199_187.out; have hnc29 := NB187_199.out; have hnb30 := NB199_193.out; have hnc30 := NB193_199.out; obtain ⟨hcz31_0, hcz31_1, hcz31_2, hcz31_3, hcz31_4, hcz31_5, hcz31_6⟩ := cel7 BK199.out; obtain ⟨hfz31_0, hfz31_1, hfz31_2, hfz31_3, hfz31_4, hfz31_5, hfz31_6⟩ := frz7 BK199.out))
                 have n0_ : Aside0 ((((((((w28.setCell ⟨gb199, 0, none⟩ (.int .i64 ((rd_T53 l0 x10_3).f0))).setCell ⟨gb199, 1, none⟩ (.int .i64 ((rd_T53 l0 x10_3).f1))).setCell ⟨gb199, 2, none⟩ (.int .i64 ((rd_T53 l0 x10_3).f2))).setCell ⟨gb199, 3, none⟩ (.int .i64 ((rd_T53 l0 x10_3).f3))).setCell ⟨gb199, 4, none⟩ (.int .i64 ((rd_T53 l0 x10_3).f4))).setCell ⟨gb199, 5, none⟩ (.int .i64 ((rd_T53 l0 x10_3).f5))).setCell ⟨gb199, 6, none⟩ (.int .i64 ((rd_T53 l0 x10_3).f6))).heap[gb187]? = some (.cells #[.int .i64 x188000_3, .int .i64 x188001_3, .int .i64 x188002_3, .int .i64 x188003_3, .int .i64 x188004_3, .int .i64 x188005_3, .int .i64 x188006_3, .int .i64 x188007_3, .int .i64 x188008_3] 27 (0, 0))) := ⟨by (with_reducible repeat (first | refine blk_drewN ?_ _ | refine blk_drew ?_ | refine blk_alloc ?_ _)); refine blk_far ?_ NB187_199.out _; (with_reducible repeat (first | refine blk_drewN ?_ _ | refine blk_drew ?_ | refine blk_alloc ?_ _)); refine blk_far ?_ NB187_199.out _; (with_reducible repeat (first | refine blk_drewN ?_ _ | refine blk_drew ?_ | refine blk_alloc ?_ _)); refine blk_far ?_ NB187_199.out _; (with_reducible repeat (first | refine blk_drewN ?_ _ | refine blk_drew ?_ | refine blk_alloc ?_ _)); refine blk_far ?_ NB187_199.out _; (with_reducible repeat (first | refine blk_drewN ?_ _ | refine blk_drew ?_ | refine blk_alloc ?_ _)); refine blk_far ?_ NB187_199.out _; (with_reducible repeat (first | refine blk_drewN ?_ _ | refine blk_drew ?_ | refine blk_alloc ?_ _)); refine blk_far ?_ NB187_199.out _; (with_reducible repeat (first | refine blk_drewN ?_ _ | refine blk_drew ?_ | refine blk_alloc ?_ _)); refine blk_far ?_ NB187_199.out _; (with_reducible repeat (first | refine blk_drewN ?_ _ | refine blk_drew ?_ | refine blk_alloc ?_ _)); exact BK187.out⟩
                 have n1_ : Aside0 ((((((((w28.setCell ⟨gb199, 0, none⟩ (.int .i64 ((rd_T53 l0 x10_3).f0))).setCell ⟨gb199, 1, none⟩ (.int .i64 ((rd_T53 l0 x10_3).f1))).setCell ⟨gb199, 2, none⟩ (.int .i64 ((rd_T53 l0 x10_3).f2))).setCell ⟨gb199, 3, none⟩ (.int .i64 ((rd_T53 l0 x10_3).f3))).setCell ⟨gb199, 4, none⟩ (.int .i64 ((rd_T53 l0 x10_3).f4))).setCell ⟨gb199, 5, none⟩ (.int .i64 ((rd_T53 l0 x10_3).f5))).setCell ⟨gb199, 6, none⟩ (.int .i64 ((rd_T53 l0 x10_3).f6))).heap[gb193]? = some (.cells #[.int .i64 t189, .int .i64 t190, .int .i64 t191] 25 (0, 0))) := ⟨by (with_reducible repeat (first | refine blk_drewN ?_ _ | refine blk_drew ?_ | refine blk_alloc ?_ _)); refine blk_far ?_ NB193_199.out _; (with_reducible repeat (first | refine blk_drewN ?_ _ | refine blk_drew ?_ | refine blk_alloc ?_ _)); refine blk_far ?_ NB193_199.out _; (with_reducible repeat (first | refine blk_drewN ?_ _ | refine blk_drew ?_ | refine blk_alloc ?_ _)); refine blk_far ?_ NB193_199.out _; (with_reducible repeat (first | refine blk_drewN ?_ _ | refine blk_drew ?_ | refine blk_alloc ?_ _)); refine blk_far ?_ NB193_199.out _; (with_reducible repeat (first | refine blk_drewN ?_ _ | refine blk_drew ?_ | refine blk_alloc ?_ _)); refine blk_far ?_ NB193_199.out _; (with_reducible repeat (first | refine blk_drewN ?_ _ | refine blk_drew ?_ | refine blk_alloc ?_ _)); refine blk_far ?_ NB193_199.out _; (with_reducible repeat (first | refine blk_drewN ?_ _ | refine blk_drew ?_ | refine blk_alloc ?_ _)); refine blk_far ?_ NB193_199.out _; (with_reducible repeat (first | refine blk_drewN ?_ _ | refine blk_drew ?_ | refine blk_alloc ?_ _)); exact BK193.out⟩
                 have n2_ : Aside0 ((((((((w28.setCell ⟨gb199, 0, none⟩ (.int .i64 ((rd_T53 l0 x10_3).f0))).setCell ⟨gb199, 1, none⟩ (.int .i64 ((rd_T53 l0 x10_3).f1))).setCell ⟨gb199, 2, none⟩ (.int .i64 ((rd_T53 l0 x10_3).f2))).setCell ⟨gb199, 3, none⟩ (.int .i64 ((rd_T53 l0 x10_3).f3))).setCell ⟨gb199, 4, none⟩ (.int .i64 ((rd_T53 l0 x10_3).f4))).setCell ⟨gb199, 5, none⟩ (.int .i64 ((rd_T53 l0 x10_3).f5))).setCell ⟨gb199, 6, none⟩ (.int .i64 ((rd_T53 l0 x10_3).f6))).heap[gb199]? = some (.cells #[.int .i64 ((rd_T53 l0 x10_3).f0), .int .i64 ((rd_T53 l0 x10_3).f1), .int .i64 ((rd_T53 l0 x10_3).f2), .int .i64 ((rd_T53 l0 x10_3).f3), .int .i64 ((rd_T53 l0 x10_3).f4), .int .i64 ((rd_T53 l0 x10_3).f5), .int .i64 ((rd_T53 l0 x10_3).f6)] 53 (0, 0))) := ⟨by (with_reducible repeat (first | refine blk_drewN ?_ _ | refine blk_drew ?_ | refine blk_alloc ?_ _)); refine blk_put (cs := #[.int .i64 ((rd_T53 l0 x10_3).f0), .int .i64 ((rd_T53 l0 x10_3).f1), .int .i64 ((rd_T53 l0 x10_3).f2), .int .i64 ((rd_T53 l0 x10_3).f3), .int .i64 ((rd_T53 l0 x10_3).f4), .int .i64 ((rd_T53 l0 x10_3).f5), .int .i64 0]) ?_ 6 _ rfl; (with_reducible repeat (first | refine blk_drewN ?_ _ | refine blk_drew ?_ | refine blk_alloc ?_ _)); refine blk_put (cs := #[.int .i64 ((rd_T53 l0 x10_3).f0), .int .i64 ((rd_T53 l0 x10_3).f1), .int .i64 ((rd_T53 l0 x10_3).f2), .int .i64 ((rd_T53 l0 x10_3).f3), .int .i64 ((rd_T53 l0 x10_3).f4), .int .i64 0, .int .i64 0]) ?_ 5 _ rfl; (with_reducible repeat (first | refine blk_drewN ?_ _ | refine blk_drew ?_ | refine blk_alloc ?_ _)); refine blk_put (cs := #[.int .i64 ((rd_T53 l0 x10_3).f0), .int .i64 ((rd_T53 l0 x10_3).f1), .int .i64 ((rd_T53 l0 x10_3).f2), .int .i64 ((rd_T53 l0 x10_3).f3), .int .i64 0, .int .i64 0, .int .i64 0]) ?_ 4 _ rfl; (with_reducible repeat (first | refine blk_drewN ?_ _ | refine blk_drew ?_ | refine blk_alloc ?_ _)); refine blk_put (cs := #[.int .i64 ((rd_T53 l0 x10_3).f0), .int .i64 ((rd_T53 l0 x10_3).f1), .int .i64 ((rd_T53 l0 x10_3).f2), .int .i64 0, .int .i64 0, .int .i64 0, .int .i64 0]) ?_ 3 _ rfl; (with_reducible repeat (first | refine blk_drewN ?_ _ | refine blk_drew ?_ | refine blk_alloc ?_ _)); refine blk_put (cs := #[.int .i64 ((rd_T53 l0 x10_3).f0), .int .i64 ((rd_T53 l0 x10_3).f1), .int .i64 0, .int .i64 0, .int .i64 0, .int .i64 0, .int .i64 0]) ?_ 2 _ rfl; (with_reducible repeat (first | refine blk_drewN ?_ _ | refine blk_drew ?_ | refine blk_alloc ?_ _)); refine blk_put (cs := #[.int .i64 ((rd_T53 l0 x10_3).f0), .int .i64 0, .int .i64 0, .int .i64 0, .int .i64 0, .int .i64 0, .int .i64 0]) ?_ 1 _ rfl; (with_reducible repeat (first | refine blk_drewN ?_ _ | refine blk_drew ?_ | refine blk_alloc ?_ _)); refine blk_put (cs := #[.int .i64 0, .int .i64 0, .int .i64 0, .int .i64 0, .int .i64 0, .int .i64 0, .int .i64 0]) ?_ 0 _ rfl; (with_reducible repeat (first | refine blk_drewN ?_ _ | refine blk_drew ?_ | refine blk_alloc ?_ _)); exact BK199.out⟩
                 have n3_ : Aside0 (Below w.heap.size w (((((((w28.setCell ⟨gb199, 0, none⟩ (.int .i64 ((rd_T53 l0 x10_3).f0))).setCell ⟨gb199, 1, none⟩ (.int .i64 ((rd_T53 l0 x10_3).f1))).setCell ⟨gb199, 2, none⟩ (.int .i64 ((rd_T53 l0 x10_3).f2))).setCell ⟨gb199, 3, none⟩ (.int .i64 ((rd_T53 l0 x10_3).f3))).setCell ⟨gb199, 4, none⟩ (.int .i64 ((rd_T53 l0 x10_3).f4))).setCell ⟨gb199, 5, none⟩ (.int .i64 ((rd_T53 l0 x10_3).f5))).setCell ⟨gb199, 6, none⟩ (.int .i64 ((rd_T53 l0 x10_3).f6)))) := ⟨by repeat (first | (with_reducible first | exact HB.out | apply below_alloc | apply pw_below_drewN | apply below_drew1 | refine below_set ?_ GE187.out | refine below_set ?_ GE193.out | refine below_set ?_ GE199.out) | exact HB.out)⟩
                 (try clear BK187)
                 (try clear BK193)
                 (try clear BK199)
                 (try clear HB)
                 generalize (((((((w28.setCell ⟨gb199, 0, none⟩ (.int .i64 ((rd_T53 l0 x10_3).f0))).setCell ⟨gb199, 1, none⟩ (.int .i64 ((rd_T53 l0 x10_3).f1))).setCell ⟨gb199, 2, none⟩ (.int .i64 ((rd_T53 l0 x10_3).f2))).setCell ⟨gb199, 3, none⟩ (.int .i64 ((rd_T53 l0 x10_3).f3))).setCell ⟨gb199, 4, none⟩ (.int .i64 ((rd_T53 l0 x10_3).f4))).setCell ⟨gb199, 5, none⟩ (.int .i64 ((rd_T53 l0 x10_3).f5))).setCell ⟨gb199, 6, none⟩ (.int .i64 ((rd_T53 l0 x10_3).f6))) = w32 at n0_ n1_ n2_ n3_ ⊢
                 have BK187 := n0_
                 have BK193 := n1_
                 have BK199 := n2_
                 have HB := n3_
                 clear n0_ n1_ n2_ n3_
                 have n0_ := Aside0.mk (blk_drew BK187.out)
                 have n1_ := Aside0.mk (blk_drew BK193.out)
                 have n2_ := Aside0.mk (blk_drew BK199.out)
                 have n3_ := Aside0.mk (below_drew1 HB.out)
                 clear BK187
                 clear BK193
                 clear BK199
                 clear HB
                 have BK187 := n0_
                 have BK193 := n1_
                 have BK199 := n2_
                 have HB := n3_
                 clear n0_ n1_ n2_ n3_
                 refine start_ (n := 12) (S := fun w' => w'.cell? ⟨gb199, 0, none⟩ = some (.int .i64 ((rd_T53 l0 x10_3).f0)) ∧ w'.cell? ⟨gb199, 1, none⟩ = some (.int .i64 ((rd_T53 l0 x10_3).f1)) ∧ w'.cell? ⟨gb199, 2, none⟩ = some (.int .i64 ((rd_T53 l0 x10_3).f2)) ∧ w'.cell? ⟨gb199, 3, none⟩ = some (.int .i64 ((rd_T53 l0 x10_3).f3)) ∧ w'.cell? ⟨gb199, 4, none⟩ = some (.int .i64 ((rd_T53 l0 x10_3).f4)) ∧ w'.cell? ⟨gb199, 5, none⟩ = some (.int .i64 ((rd_T53 l0 x10_3).f5)) ∧ w'.cell? ⟨gb199, 6, none⟩ = some (.int .i64 ((rd_T53 l0 x10_3).f6)) ∧ w'.cell? ⟨gb193, 0, none⟩ = some (.int .i64 t189) ∧ w'.cell? ⟨gb193, 1, none⟩ = some (.int .i64 t190) ∧ w'.cell? ⟨gb193, 2, none⟩ = some (.int .i64 t191)) (ds := []) #[false, false, false, false, false, false, false, false, false, false, false, false] (by kernel_rfl) rfl rfl ⟨(blk_cell BK199.out 0).trans rfl, (blk_cell BK199.out 1).trans rfl, (blk_cell BK199.out 2).trans rfl, (blk_cell BK199.out 3).trans rfl, (blk_cell BK199.out 4).trans rfl, (blk_cell BK199.out 5).trans rfl, (blk_cell BK199.out 6).trans rfl, (blk_cell BK193.out 0).trans rfl, (blk_cell BK193.out 1).trans rfl, (blk_cell BK193.out 2).trans rfl⟩ (fun hHeld => ?_); refine with_tabW masterdiscref10_Program.tab11 masterdiscref10_Program.bits11 (fun HT_ HW_ => ?_)
                 generalize w32.drew = w33 at BK187 BK193 BK199 HB hHeld ⊢
                 refine pure_ (i := 0) (N := some 50) (v := ?_) (a' := ?_) (mS 12 1) rfl rfl (any_of HT_.out (by kernel_rfl)) (fun _ _ _ h => h) (Or.inl ⟨by rfl, ?_⟩) ?_ ?_
                 rotate_left
                 · intro w'
                   go_simp
                   with_reducible rfl
                 rotate_left
                 · simp only [Act.put, List.setIfInBounds_toArray, List.set_cons_zero, List.set_cons_succ, i64_w, i32_w]
                   rfl
                 refine pure_ (i := 1) (N := some 51) (v := ?_) (a' := ?_) (mS 12 3) rfl rfl (any_of HT_.out (by kernel_rfl)) (fun _ _ _ h => h) (Or.inl ⟨by rfl, ?_⟩) ?_ ?_
                 rotate_left
                 · intro w'
                   go_simp
                   with_reducible rfl
                 rotate_left
                 · simp only [Act.put, List.setIfInBounds_toArray, List.set_cons_zero, List.set_cons_succ, i64_w, i32_w]
                   rfl
                 refine pure_ (i := 3) (N := some 53) (v := ?_) (a' := ?_) (mS 12 11) rfl rfl (any_of HT_.out (by kernel_rfl)) (fun _ _ _ h => h) (Or.inl ⟨by rfl, ?_⟩) ?_ ?_
                 rotate_left
                 · intro w'
                   go_simp
                   with_reducible rfl
                 rotate_left
                 · simp only [Act.put, List.setIfInBounds_toArray, List.set_cons_zero, List.set_cons_succ, i64_w, i32_w]
                   rfl
                 refine pure_ (i := 5) (N := some 55) (v := ?_) (a' := ?_) (mS 12 43) rfl rfl (any_of HT_.out (by kernel_rfl)) (fun _ _ _ h => h) (Or.inl ⟨by rfl, ?_⟩) ?_ ?_
                 rotate_left
                 · intro w'
                   go_simp
                   with_reducible rfl
                 rotate_left
                 · simp only [Act.put, List.setIfInBounds_toArray, List.set_cons_zero, List.set_cons_succ, i64_w, i32_w]
                   rfl
                 refine take_ (i := 2) (N := some 52) (v := ?_) (a' := ?_) (mS 12 47) rfl rfl (take_ofW HT_.out HW_.out (by kernel_rfl)) (fun _ _ _ h => h) (Or.inl ⟨by rfl, ?_⟩) hHeld ?_ ?_
                 rotate_left
                 · rintro w' ⟨s0, s1, s2, s3, s4, s5, s6, s7, s8, s9⟩
                   go_simp
                   with_reducible rfl
                 rotate_left
                 · simp only [Act.put, List.setIfInBounds_toArray, List.set_cons_zero, List.set_cons_succ, i64_w, i32_w]
                   rfl
                 refine take_ (i := 4) (N := some 54) (v := ?_) (a' := ?_) (mS 12 63) rfl rfl (take_ofW HT_.out HW_.out (by kernel_rfl)) (fun _ _ _ h => h) (Or.inl ⟨by rfl, ?_⟩) hHeld ?_ ?_
                 rotate_left
                 · rintro w' ⟨s0, s1, s2, s3, s4, s5, s6, s7, s8, s9⟩
                   go_simp
                   with_reducible rfl
                 rotate_left
                 · simp only [Act.put, List.setIfInBounds_toArray, List.set_cons_zero, List.set_cons_succ, i64_w, i32_w]
                   rfl
                 refine pure_ (i := 6) (N := some 56) (v := ?_) (a' := ?_) (mS 12 127) rfl rfl (any_of HT_.out (by kernel_rfl)) (fun _ _ _ h => h) (Or.inl ⟨by rfl, ?_⟩) ?_ ?_
                 rotate_left
                 · intro w'
                   go_simp
                   with_reducible rfl
                 rotate_left
                 · simp only [Act.put, List.setIfInBounds_toArray, List.set_cons_zero, List.set_cons_succ, i64_w, i32_w]
                   rfl
                 refine take_ (i := 8) (N := some 58) (v := ?_) (a' := ?_) (mS 12 383) rfl rfl (take_ofW HT_.out HW_.out (by kernel_rfl)) (fun _ _ _ h => h) (Or.inl ⟨by rfl, ?_⟩) hHeld ?_ ?_
                 rotate_left
                 · rintro w' ⟨s0, s1, s2, s3, s4, s5, s6, s7, s8, s9⟩
                   go_simp
                   with_reducible rfl
                 rotate_left
                 · simp only [Act.put, List.setIfInBounds_toArray, List.set_cons_zero, List.set_cons_succ, i64_w, i32_w]
                   rfl
                 refine one_ (i := 7) (N := some 57) (mS 12 511) rfl rfl (one_of HT_.out (by kernel_rfl)) (by decide) (fun K hK => ?_)
                 refine goes_ Try.func34 (by kernel_rfl) rfl #[.int .i64 (wrap64 (((rd_T53 l0 x10_3).f2) - a2))] (by rfl) rfl rfl (by (try simp only [List.map_toArray, List.map_cons, List.map_nil]); first | done | rfl | (simp only [List.length_drop, List.length_take]; rfl)) ?_
                 with_reducible refine (masterdiscref10_address.calls (wrap64 (((rd_T53 l0 x10_3).f2) - a2)) t200 t201 t202 _ A27.out).mono ?_
                 rintro e w34 ⟨rfl, hb⟩
                 refine ⟨_, rfl, ?_⟩
                 have n0_ := Aside0.mk (blk_below (g := gb187) (o := .cells #[.int .i64 x188000_3, .int .i64 x188001_3, .int .i64 x188002_3, .int .i64 x188003_3, .int .i64 x188004_3, .int .i64 x188005_3, .int .i64 x188006_3, .int .i64 x188007_3, .int .i64 x188008_3] 27 (0, 0)) (by (with_reducible repeat (first | refine blk_drewN ?_ _ | refine blk_drew ?_ | refine blk_alloc ?_ _)); exact BK187.out) hb)
                 have n1_ := Aside0.mk (blk_below (g := gb193) (o := .cells #[.int .i64 t189, .int .i64 t190, .int .i64 t191] 25 (0, 0)) (by (with_reducible repeat (first | refine blk_drewN ?_ _ | refine blk_drew ?_ | refine blk_alloc ?_ _)); exact BK193.out) hb)
                 have n2_ := Aside0.mk (blk_below (g := gb199) (o := .cells #[.int .i64 ((rd_T53 l0 x10_3).f0), .int .i64 ((rd_T53 l0 x10_3).f1), .int .i64 ((rd_T53 l0 x10_3).f2), .int .i64 ((rd_T53 l0 x10_3).f3), .int .i64 ((rd_T53 l0 x10_3).f4), .int .i64 ((rd_T53 l0 x10_3).f5), .int .i64 ((rd_T53 l0 x10_3).f6)] 53 (0, 0)) (by (with_reducible repeat (first | refine blk_drewN ?_ _ | refine blk_drew ?_ | refine blk_alloc ?_ _)); exact BK199.out) hb)
                 have n3_ := Aside0.mk (below_step (by repeat (first | (with_reducible first | exact HB.out | apply below_alloc | apply pw_below_drewN | apply below_drew1 | refine below_set ?_ GE187.out | refine below_set ?_ GE193.out | refine below_set ?_ GE199.out) | exact HB.out)) hb)
                 clear BK187
                 clear BK193
                 clear BK199
                 clear HB
                 have BK187 := n0_
                 have BK193 := n1_
                 have BK199 := n2_
                 have HB := n3_
                 clear n0_ n1_ n2_ n3_
                 (try clear hb)
                 (try clear hb2)
                 (try clear hk)
                 (try clear hi)
                 refine hK.out _ _ ⟨(blk_cell BK199.out 0).trans rfl, (blk_cell BK199.out 1).trans rfl, (blk_cell BK199.out 2).trans rfl, (blk_cell BK199.out 3).trans rfl, (blk_cell BK199.out 4).trans rfl, (blk_cell BK199.out 5).trans rfl, (blk_cell BK199.out 6).trans rfl, (blk_cell BK193.out 0).trans rfl, (blk_cell BK193.out 1).trans rfl, (blk_cell BK193.out 2).trans rfl⟩ (fun hHeld => ?_)
                 clear hK K
                 refine norm_ (a' := ?_) ?_ ?_
                 rotate_left
                 · show Act.put _ (some 57) _ = _
                   simp only [Act.put, List.setIfInBounds_toArray, List.set_cons_zero, List.set_cons_succ, i64_w, i32_w]
                   rfl
                 refine pure_ (i := 9) (N := some 59) (v := ?_) (a' := ?_) (mS 12 1023) rfl rfl (any_of HT_.out (by kernel_rfl)) (fun _ _ _ h => h) (Or.inl ⟨by rfl, ?_⟩) ?_ ?_
                 rotate_left
                 · intro w'
                   go_simp
                   with_reducible rfl
                 rotate_left
                 · simp only [Act.put, List.setIfInBounds_toArray, List.set_cons_zero, List.set_cons_succ, i64_w, i32_w]
                   rfl
                 refine one_ (i := 10) (N := none) (mS 12 2047) rfl rfl (one_of HT_.out (by kernel_rfl)) (by decide) (fun K hK => ?_)
                 have hs35 : w34.cell? ⟨gb187, 0, none⟩ = some (.int .i64 x188000_3) := (blk_cell BK187.out 0).trans rfl
                 have hfs35 := blk_frozen BK187.out 0
                 have hns35_1 := NB193_187.out
                 have hns35_2 := NB199_187.out
                 have hms35_1 := NB187_193.out
                 have hms35_2 := NB187_199.out
                 have hs36 : w34.cell? ⟨gb187, 1, none⟩ = some (.int .i64 x188001_3) := (blk_cell BK187.out 1).trans rfl
                 have hfs36 := blk_frozen BK187.out 1
                 have hns36_1 := NB193_187.out
                 have hns36_2 := NB199_187.out
                 have hms36_1 := NB187_193.out
                 have hms36_2 := NB187_199.out
                 have hs37 : w34.cell? ⟨gb187, 2, none⟩ = some (.int .i64 x188002_3) := (blk_cell BK187.out 2).trans rfl
                 have hfs37 := blk_frozen BK187.out 2
                 have hns37_1 := NB193_187.out
                 have hns37_2 := NB199_187.out
                 have hms37_1 := NB187_193.out
                 have hms37_2 := NB187_199.out
                 have hs38 : w34.cell? ⟨gb187, 3, none⟩ = some (.int .i64 x188003_3) := (blk_cell BK187.out 3).trans rfl
                 have hfs38 := blk_frozen BK187.out 3
                 have hns38_1 := NB193_187.out
                 have hns38_2 := NB199_187.out
                 have hms38_1 := NB187_193.out
                 have hms38_2 := NB187_199.out
                 have hs39 : w34.cell? ⟨gb187, 4, none⟩ = some (.int .i64 x188004_3) := (blk_cell BK187.out 4).trans rfl
                 have hfs39 := blk_frozen BK187.out 4
                 have hns39_1 := NB193_187.out
                 have hns39_2 := NB199_187.out
                 have hms39_1 := NB187_193.out
                 have hms39_2 := NB187_199.out
                 have hs40 : w34.cell? ⟨gb187, 5, none⟩ = some (.int .i64 x188005_3) := (blk_cell BK187.out 5).trans rfl
                 have hfs40 := blk_frozen BK187.out 5
                 have hns40_1 := NB193_187.out
                 have hns40_2 := NB199_187.out
                 have hms40_1 := NB187_193.out
                 have hms40_2 := NB187_199.out
                 have hs41 : w34.cell? ⟨gb187, 6, none⟩ = some (.int .i64 x188006_3) := (blk_cell BK187.out 6).trans rfl
                 have hfs41 := blk_frozen BK187.out 6
                 have hns41_1 := NB193_187.out
                 have hns41_2 := NB199_187.out
                 have hms41_1 := NB187_193.out
                 have hms41_2 := NB187_199.out
                 have hs42 : w34.cell? ⟨gb187, 7, none⟩ = some (.int .i64 x188007_3) := (blk_cell BK187.out 7).trans rfl
                 have hfs42 := blk_frozen BK187.out 7
                 have hns42_1 := NB193_187.out
                 have hns42_2 := NB199_187.out
                 have hms42_1 := NB187_193.out
                 have hms42_2 := NB187_199.out
                 have hs43 : w34.cell? ⟨gb187, 8, none⟩ = some (.int .i64 x188008_3) := (blk_cell BK187.out 8).trans rfl
                 have hfs43 := blk_frozen BK187.out 8
                 have hns43_1 := NB193_187.out
                 have hns43_2 := NB199_187.out
                 have hms43_1 := NB187_193.out
                 have hms43_2 := NB187_199.out
                 refine skip_ (w1 := ?_) (by rfl) rfl ?_ ?_
                 rotate_left
                 · go_simp
                   rfl
                 refine hK.out _ _ ⟨((cell_far (p := ⟨gb187, _, none⟩) NB199_187.out _).trans (((cell_far (p := ⟨gb187, _, none⟩) NB199_187.out _).trans (((cell_far (p := ⟨gb187, _, none⟩) NB199_187.out _).trans (((cell_far (p := ⟨gb187, _, none⟩) NB199_187.out _).trans (((cell_far (p := ⟨gb187, _, none⟩) NB199_187.out _).trans (((cell_far (p := ⟨gb187, _, none⟩) NB199_187.out _).trans (((cell_far (p := ⟨gb187, _, none⟩) NB199_187.out _).trans (((cell_far (p := ⟨gb187, _, none⟩) NB199_187.out _).trans (((cell_far (p := ⟨gb187, _, none⟩) NB199_187.out _).trans (hHeld.1)))))))))))))))))), ((cell_far (p := ⟨gb187, _, none⟩) NB199_187.out _).trans (((cell_far (p := ⟨gb187, _, none⟩) NB199_187.out _).trans (((cell_far (p := ⟨gb187, _, none⟩) NB199_187.out _).trans (((cell_far (p := ⟨gb187, _, none⟩) NB199_187.out _).trans (((cell_far (p := ⟨gb187, _, none⟩) NB199_187.out _).trans (((cell_far (p := ⟨gb187, _, none⟩) NB199_187.out _).trans (((cell_far (p := ⟨gb187, _, none⟩) NB199_187.out _).trans (((cell_far (p := ⟨gb187, _, none⟩) NB199_187.out _).trans (((cell_far (p := ⟨gb187, _, none⟩) NB199_187.out _).trans (hHeld.2.1)))))))))))))))))), ((cell_far (p := ⟨gb187, _, none⟩) NB199_187.out _).trans (((cell_far (p := ⟨gb187, _, none⟩) NB199_187.out _).trans (((cell_far (p := ⟨gb187, _, none⟩) NB199_187.out _).trans (((cell_far (p := ⟨gb187, _, none⟩) NB199_187.out _).trans (((cell_far (p := ⟨gb187, _, none⟩) NB199_187.out _).trans (((cell_far (p := ⟨gb187, _, none⟩) NB199_187.out _).trans (((cell_far (p := ⟨gb187, _, none⟩) NB199_187.out _).trans (((cell_far (p := ⟨gb187, _, none⟩) NB199_187.out _).trans (((cell_far (p := ⟨gb187, _, none⟩) NB199_187.out _).trans (hHeld.2.2.1)))))))))))))))))), ((cell_far (p := ⟨gb187, _, none⟩) NB199_187.out _).trans (((cell_far (p := ⟨gb187, _, none⟩) NB199_187.out _).trans (((cell_far (p := ⟨gb187, _, none⟩) NB199_187.out _).trans (((cell_far (p := ⟨gb187, _, none⟩) NB199_187.out _).trans (((cell_far (p := ⟨gb187, _, none⟩) NB199_187.out _).trans (((cell_far (p := ⟨gb187, _, none⟩) NB199_187.out _).trans (((cell_far (p := ⟨gb187, _, none⟩) NB199_187.out _).trans (((cell_far (p := ⟨gb187, _, none⟩) NB199_187.out _).trans (((cell_far (p := ⟨gb187, _, none⟩) NB199_187.out _).trans (hHeld.2.2.2.1)))))))))))))))))), ((cell_far (p := ⟨gb187, _, none⟩) NB199_187.out _).trans (((cell_far (p := ⟨gb187, _, none⟩) NB199_187.out _).trans (((cell_far (p := ⟨gb187, _, none⟩) NB199_187.out _).trans (((cell_far (p := ⟨gb187, _, none⟩) NB199_187.out _).trans (((cell_far (p := ⟨gb187, _, none⟩) NB199_187.out _).trans (((cell_far (p := ⟨gb187, _, none⟩) NB199_187.out _).trans (((cell_far (p := ⟨gb187, _, none⟩) NB199_187.out _).trans (((cell_far (p := ⟨gb187, _, none⟩) NB199_187.out _).trans (((cell_far (p := ⟨gb187, _, none⟩) NB199_187.out _).trans (hHeld.2.2.2.2.1)))))))))))))))))), ((cell_far (p := ⟨gb187, _, none⟩) NB199_187.out _).trans (((cell_far (p := ⟨gb187, _, none⟩) NB199_187.out _).trans (((cell_far (p := ⟨gb187, _, none⟩) NB199_187.out _).trans (((cell_far (p := ⟨gb187, _, none⟩) NB199_187.out _).trans (((cell_far (p := ⟨gb187, _, none⟩) NB199_187.out _).trans (((cell_far (p := ⟨gb187, _, none⟩) NB199_187.out _).trans (((cell_far (p := ⟨gb187, _, none⟩) NB199_187.out _).trans (((cell_far (p := ⟨gb187, _, none⟩) NB199_187.out _).trans (((cell_far (p := ⟨gb187, _, none⟩) NB199_187.out _).trans (hHeld.2.2.2.2.2.1)))))))))))))))))), ((cell_far (p := ⟨gb187, _, none⟩) NB199_187.out _).trans (((cell_far (p := ⟨gb187, _, none⟩) NB199_187.out _).trans (((cell_far (p := ⟨gb187, _, none⟩) NB199_187.out _).trans (((cell_far (p := ⟨gb187, _, none⟩) NB199_187.out _).trans (((cell_far (p := ⟨gb187, _, none⟩) NB199_187.out _).trans (((cell_far (p := ⟨gb187, _, none⟩) NB199_187.out _).trans (((cell_far (p := ⟨gb187, _, none⟩) NB199_187.out _).trans (((cell_far (p := ⟨gb187, _, none⟩) NB199_187.out _).trans (((cell_far (p := ⟨gb187, _, none⟩) NB199_187.out _).trans (hHeld.2.2.2.2.2.2.1)))))))))))))))))), ((cell_far (p := ⟨gb187, _, none⟩) NB193_187.out _).trans (((cell_far (p := ⟨gb187, _, none⟩) NB193_187.out _).trans (((cell_far (p := ⟨gb187, _, none⟩) NB193_187.out _).trans (((cell_far (p := ⟨gb187, _, none⟩) NB193_187.out _).trans (((cell_far (p := ⟨gb187, _, none⟩) NB193_187.out _).trans (((cell_far (p := ⟨gb187, _, none⟩) NB193_187.out _).trans (((cell_far (p := ⟨gb187, _, none⟩) NB193_187.out _).trans (((cell_far (p := ⟨gb187, _, none⟩) NB193_187.out _).trans (((cell_far (p := ⟨gb187, _, none⟩) NB193_187.out _).trans (hHeld.2.2.2.2.2.2.2.1)))))))))))))))))), ((cell_far (p := ⟨gb187, _, none⟩) NB193_187.out _).trans (((cell_far (p := ⟨gb187, _, none⟩) NB193_187.out _).trans (((cell_far (p := ⟨gb187, _, none⟩) NB193_187.out _).trans (((cell_far (p := ⟨gb187, _, none⟩) NB193_187.out _).trans (((cell_far (p := ⟨gb187, _, none⟩) NB193_187.out _).trans (((cell_far (p := ⟨gb187, _, none⟩) NB193_187.out _).trans (((cell_far (p := ⟨gb187, _, none⟩) NB193_187.out _).trans (((cell_far (p := ⟨gb187, _, none⟩) NB193_187.out _).trans (((cell_far (p := ⟨gb187, _, none⟩) NB193_187.out _).trans (hHeld.2.2.2.2.2.2.2.2.1)))))))))))))))))), ((cell_far (p := ⟨gb187, _, none⟩) NB193_187.out _).trans (((cell_far (p := ⟨gb187, _, none⟩) NB193_187.out _).trans (((cell_far (p := ⟨gb187, _, none⟩) NB193_187.out _).trans (((cell_far (p := ⟨gb187, _, none⟩) NB193_187.out _).trans (((cell_far (p := ⟨gb187, _, none⟩) NB193_187.out _).trans (((cell_far (p := ⟨gb187, _, none⟩) NB193_187.out _).trans (((cell_far (p := ⟨gb187, _, none⟩) NB193_187.out _).trans (((cell_far (p := ⟨gb187, _, none⟩) NB193_187.out _).trans (((cell_far (p := ⟨gb187, _, none⟩) NB193_187.out _).trans (hHeld.2.2.2.2.2.2.2.2.2))))))))))))))))))⟩ (fun hHeld => ?_)
                 clear hK K
                 refine pure_ (i := 11) (N := some 7) (v := ?_) (a' := ?_) (mS 12 4095) rfl rfl (any_of HT_.out (by kernel_rfl)) (fun _ _ _ h => h) (Or.inl ⟨by rfl, ?_⟩) ?_ ?_
                 rotate_left
                 · intro w'
                   go_simp
                   with_reducible rfl
                 rotate_left
                 · simp only [Act.put, List.setIfInBounds_toArray, List.set_cons_zero, List.set_cons_succ, i64_w, i32_w]
                   rfl
                 refine done_ (done_of HT_.out (by kernel_rfl)) ?_
                 try go_wp2
                 refine bodyPost_ret (results_ct rfl _ _ gb187 27 #[.int .i64 a1, .int .i64 ((rd_T53 l0 x10_3).f0), .int .i64 0, .int .i64 t200, .int .i64 t201, .int .i64 t202, .int .i64 t189, .int .i64 t190, .int .i64 t191] (0, 0) _ rfl (by (with_reducible repeat (first | refine blk_drewN ?_ _ | refine blk_drew ?_ | refine blk_alloc ?_ _)); refine blk_put (cs := #[.int .i64 a1, .int .i64 ((rd_T53 l0 x10_3).f0), .int .i64 0, .int .i64 t200, .int .i64 t201, .int .i64 t202, .int .i64 t189, .int .i64 t190, .int .i64 x188008_3]) ?_ 8 _ rfl; (with_reducible repeat (first | refine blk_drewN ?_ _ | refine blk_drew ?_ | refine blk_alloc ?_ _)); refine blk_put (cs := #[.int .i64 a1, .int .i64 ((rd_T53 l0 x10_3).f0), .int .i64 0, .int .i64 t200, .int .i64 t201, .int .i64 t202, .int .i64 t189, .int .i64 x188007_3, .int .i64 x188008_3]) ?_ 7 _ rfl; (with_reducible repeat (first | refine blk_drewN ?_ _ | refine blk_drew ?_ | refine blk_alloc ?_ _)); refine blk_put (cs := #[.int .i64 a1, .int .i64 ((rd_T53 l0 x10_3).f0), .int .i64 0, .int .i64 t200, .int .i64 t201, .int .i64 t202, .int .i64 x188006_3, .int .i64 x188007_3, .int .i64 x188008_3]) ?_ 6 _ rfl; (with_reducible repeat (first | refine blk_drewN ?_ _ | refine blk_drew ?_ | refine blk_alloc ?_ _)); refine blk_put (cs := #[.int .i64 a1, .int .i64 ((rd_T53 l0 x10_3).f0), .int .i64 0, .int .i64 t200, .int .i64 t201, .int .i64 x188005_3, .int .i64 x188006_3, .int .i64 x188007_3, .int .i64 x188008_3]) ?_ 5 _ rfl; (with_reducible repeat (first | refine blk_drewN ?_ _ | refine blk_drew ?_ | refine blk_alloc ?_ _)); refine blk_put (cs := #[.int .i64 a1, .int .i64 ((rd_T53 l0 x10_3).f0), .int .i64 0, .int .i64 t200, .int .i64 x188004_3, .int .i64 x188005_3, .int .i64 x188006_3, .int .i64 x188007_3, .int .i64 x188008_3]) ?_ 4 _ rfl; (with_reducible repeat (first | refine blk_drewN ?_ _ | refine blk_drew ?_ | refine blk_alloc ?_ _)); refine blk_put (cs := #[.int .i64 a1, .int .i64 ((rd_T53 l0 x10_3).f0), .int .i64 0, .int .i64 x188003_3, .int .i64 x188004_3, .int .i64 x188005_3, .int .i64 x188006_3, .int .i64 x188007_3, .int .i64 x188008_3]) ?_ 3 _ rfl; (with_reducible repeat (first | refine blk_drewN ?_ _ | refine blk_drew ?_ | refine blk_alloc ?_ _)); refine blk_put (cs := #[.int .i64 a1, .int .i64 ((rd_T53 l0 x10_3).f0), .int .i64 x188002_3, .int .i64 x188003_3, .int .i64 x188004_3, .int .i64 x188005_3, .int .i64 x188006_3, .int .i64 x188007_3, .int .i64 x188008_3]) ?_ 2 _ rfl; (with_reducible repeat (first | refine blk_drewN ?_ _ | refine blk_drew ?_ | refine blk_alloc ?_ _)); refine blk_put (cs := #[.int .i64 a1, .int .i64 x188001_3, .int .i64 x188002_3, .int .i64 x188003_3, .int .i64 x188004_3, .int .i64 x188005_3, .int .i64 x188006_3, .int .i64 x188007_3, .int .i64 x188008_3]) ?_ 1 _ rfl; (with_reducible repeat (first | refine blk_drewN ?_ _ | refine blk_drew ?_ | refine blk_alloc ?_ _)); refine blk_put (cs := #[.int .i64 x188000_3, .int .i64 x188001_3, .int .i64 x188002_3, .int .i64 x188003_3, .int .i64 x188004_3, .int .i64 x188005_3, .int .i64 x188006_3, .int .i64 x188007_3, .int .i64 x188008_3]) ?_ 0 _ rfl; (with_reducible repeat (first | refine blk_drewN ?_ _ | refine blk_drew ?_ | refine blk_alloc ?_ _)); exact BK187.out) Try.underlying27 rfl (by kernel_rfl)) rfl ?_
                 exact ⟨by first | rfl | (simp [errW_none, errW_some] <;> rfl) | (simp [*, errW_none, errW_some] <;> rfl), by repeat (first | (with_reducible first | exact HB.out | apply below_alloc | apply pw_below_drewN | apply below_drew1 | refine below_set ?_ GE187.out | refine below_set ?_ GE193.out | refine below_set ?_ GE199.out) | exact HB.out)⟩
               · rw [if_neg c26] at H
                 have c26b0 : decide (a2 < ((rd_T53 l0 x10_3).f2)) = false := decide_eq_false c26
                 clear c26
                 by_cases c44 : a2 < (wrap64 (((rd_T53 l0 x10_3).f2) + ((rd_T53 l0 x10_3).f3)))
                 · rw [if_pos c44] at H
                   have c44b0 : decide (a2 < (wrap64 (((rd_T53 l0 x10_3).f2) + ((rd_T53 l0 x10_3).f3)))) = true := decide_eq_true c44
                   clear c44
                   replace H := Option.bind_eq_some_iff.mp H
                   obtain ⟨⟨t203, t204, t205⟩, A450, H⟩ := H
                   replace H : (some (a1, (rd_T53 l0 x10_3).f0, 1, t203, t204, t205, t189, t190, t191, 0)) = some (r1, r2, r3, r4, r5, r6, r7, r8, r9, r10) := H
                   have A45 := Aside0.mk A450
                   clear A450
                   simp only [Option.some.injEq, Prod.mk.injEq] at H
                   obtain ⟨rfl, rfl, rfl, rfl, rfl, rfl, rfl, rfl, rfl, rfl⟩ := H
                   have p198 : 0 ≤ (x10_3 : Int) := of_decide_eq_true (by first | (with_reducible assumption) | assumption)
                   have q198 : x10_3 < (l0.length : Int) := of_decide_eq_true (by first | (with_reducible assumption) | assumption)
                   obtain ⟨ad198, e198, hx198_0, hx198_1, hx198_2, hx198_3, hx198_4, hx198_5, hx198_6⟩ := at_T53 HR0.out x10_3 p198 q198
                   cases e198
                   replace hx198_0 := upc HB.out hx198_0
                   replace hx198_1 := upc HB.out hx198_1
                   replace hx198_2 := upc HB.out hx198_2
                   replace hx198_3 := upc HB.out hx198_3
                   replace hx198_4 := upc HB.out hx198_4
                   replace hx198_5 := upc HB.out hx198_5
                   replace hx198_6 := upc HB.out hx198_6
                   replace p198 := eq_true p198
                   replace q198 := eq_true q198
                   try go_wp2_with (first | ((with_reducible refine gate_dst (N := 11) rfl ?_); refine box_event ?hg (N := 11) ?hd (cs := #[.int .i64 0, .int .i64 0, .int .i64 0, .int .i64 0, .int .i64 0, .int .i64 0, .int .i64 0]) (t := 53) ?hr ?_; (case hd => rfl); (case hg => rfl); (case hr => first | (go_simp; done) | (go_simp; rfl)); intro gb199 hg w46 hbox hb; have n0_ := Aside0.mk (blk_below (g := gb187) (o := .cells #[.int .i64 x188000_3, .int .i64 x188001_3, .int .i64 x188002_3, .int .i64 x188003_3, .int .i64 x188004_3, .int .i64 x188005_3, .int .i64 x188006_3, .int .i64 x188007_3, .int .i64 x188008_3] 27 (0, 0)) (by (with_reducible repeat (first | refine blk_drewN ?_ _ | refine blk_drew ?_ | refine blk_alloc ?_ _)); exact BK187.out) hb); have n1_ := Aside0.mk (blk_below (g := gb193) (o := .cells #[.int .i64 t189, .int .i64 t190, .int .i64 t191] 25 (0, 0)) (by (with_reducible repeat (first | refine blk_drewN ?_ _ | refine blk_drew ?_ | refine blk_alloc ?_ _)); exact BK193.out) hb); have n2_ := Aside0.mk (below_step (by repeat (first | (with_reducible first | exact HB.out | apply below_alloc | apply pw_below_drewN | apply below_drew1 | refine below_set ?_ GE187.out | refine below_set ?_ GE193.out) | exact HB.out)) hb); have n3_ := Aside0.mk (hbox); have n4_ := Aside0.mk ((by rw [hg]; exact (below_size (by repeat (first | (with_reducible first | exact HB.out | apply below_alloc | apply pw_below_drewN | apply below_drew1 | refine below_set ?_ GE187.out | refine below_set ?_ GE193.out) | exact HB.out))) : w.heap.size ≤ gb199)); have n5_ := Aside0.mk ((by rw [hg]; exact (below_size (by repeat (first | (with_reducible first | exact HB.out | apply below_alloc | apply pw_below_drewN | apply below_drew1 | refine below_set ?_ GE187.out | refine below_set ?_ GE193.out) | exact HB.out))) : w.heap.size ≤ gb199)); have n6_ := Aside0.mk ((by rw [hg]; exact Nat.ne_of_lt (blk_lt (g := gb187) (o := .cells #[.int .i64 x188000_3, .int .i64 x188001_3, .int .i64 x188002_3, .int .i64 x188003_3, .int .i64 x188004_3, .int .i64 x188005_3, .int .i64 x188006_3, .int .i64 x188007_3, .int .i64 x188008_3] 27 (0, 0)) (by (with_reducible repeat (first | refine blk_drewN ?_ _ | refine blk_drew ?_ | refine blk_alloc ?_ _)); exact BK187.out)) : gb187 ≠ gb199)); have n7_ := Aside0.mk ((by rw [hg]; exact Nat.ne_of_gt (blk_lt (g := gb187) (o := .cells #[.int .i64 x188000_3, .int .i64 x188001_3, .int .i64 x188002_3, .int .i64 x188003_3, .int .i64 x188004_3, .int .i64 x188005_3, .int .i64 x188006_3, .int .i64 x188007_3, .int .i64 x188008_3] 27 (0, 0)) (by (with_reducible repeat (first | refine blk_drewN ?_ _ | refine blk_drew ?_ | refine blk_alloc ?_ _)); exact BK187.out)) : gb199 ≠ gb187)); have n8_ := Aside0.mk ((by rw [hg]; exact Nat.ne_of_lt (blk_lt (g := gb193) (o := .cells #[.int .i64 t189, .int .i64 t190, .int .i64 t191] 25 (0, 0)) (by (with_reducible repeat (first | refine blk_drewN ?_ _ | refine blk_drew ?_ | refine blk_alloc ?_ _)); exact BK193.out)) : gb193 ≠ gb199)); have n9_ := Aside0.mk ((by rw [hg]; exact Nat.ne_of_gt (blk_lt (g := gb193) (o := .cells #[.int .i64 t189, .int .i64 t190, .int .i64 t191] 25 (0, 0)) (by (with_reducible repeat (first | refine blk_drewN ?_ _ | refine blk_drew ?_ | refine blk_alloc ?_ _)); exact BK193.out)) : gb199 ≠ gb193)); clear BK187; clear BK193; clear HB; have BK187 := n0_; have BK193 := n1_; have HB := n2_; have BK199 := n3_; have GW199 := n4_; have GE199 := n5_; have NB187_199 := n6_; have NB199_187 := n7_; have NB193_199 := n8_; have NB199_193 := n9_; clear n0_ n1_ n2_ n3_ n4_ n5_ n6_ n7_ n8_ n9_; clear hb hbox hg; have hnb47 := NB199_187.out; have hnc47 := NB187_199.out; have hnb48 := NB199_193.out; have hnc48 := NB193_199.out; obtain ⟨hcz49_0, hcz49_1, hcz49_2, hcz49_3, hcz49_4, hcz49_5, hcz49_6⟩ := cel7 BK199.out; obtain ⟨hfz49_0, hfz49_1, hfz49_2, hfz49_3, hfz49_4, hfz49_5, hfz49_6⟩ := frz7 BK199.out))
                   have n0_ : Aside0 ((((((((w46.setCell ⟨gb199, 0, none⟩ (.int .i64 ((rd_T53 l0 x10_3).f0))).setCell ⟨gb199, 1, none⟩ (.int .i64 ((rd_T53 l0 x10_3).f1))).setCell ⟨gb199, 2, none⟩ (.int .i64 ((rd_T53 l0 x10_3).f2))).setCell ⟨gb199, 3, none⟩ (.int .i64 ((rd_T53 l0 x10_3).f3))).setCell ⟨gb199, 4, none⟩ (.int .i64 ((rd_T53 l0 x10_3).f4))).setCell ⟨gb199, 5, none⟩ (.int .i64 ((rd_T53 l0 x10_3).f5))).setCell ⟨gb199, 6, none⟩ (.int .i64 ((rd_T53 l0 x10_3).f6))).heap[gb187]? = some (.cells #[.int .i64 x188000_3, .int .i64 x188001_3, .int .i64 x188002_3, .int .i64 x188003_3, .int .i64 x188004_3, .int .i64 x188005_3, .int .i64 x188006_3, .int .i64 x188007_3, .int .i64 x188008_3] 27 (0, 0))) := ⟨by (with_reducible repeat (first | refine blk_drewN ?_ _ | refine blk_drew ?_ | refine blk_alloc ?_ _)); refine blk_far ?_ NB187_199.out _; (with_reducible repeat (first | refine blk_drewN ?_ _ | refine blk_drew ?_ | refine blk_alloc ?_ _)); refine blk_far ?_ NB187_199.out _; (with_reducible repeat (first | refine blk_drewN ?_ _ | refine blk_drew ?_ | refine blk_alloc ?_ _)); refine blk_far ?_ NB187_199.out _; (with_reducible repeat (first | refine blk_drewN ?_ _ | refine blk_drew ?_ | refine blk_alloc ?_ _)); refine blk_far ?_ NB187_199.out _; (with_reducible repeat (first | refine blk_drewN ?_ _ | refine blk_drew ?_ | refine blk_alloc ?_ _)); refine blk_far ?_ NB187_199.out _; (with_reducible repeat (first | refine blk_drewN ?_ _ | refine blk_drew ?_ | refine blk_alloc ?_ _)); refine blk_far ?_ NB187_199.out _; (with_reducible repeat (first | refine blk_drewN ?_ _ | refine blk_drew ?_ | refine blk_alloc ?_ _)); refine blk_far ?_ NB187_199.out _; (with_reducible repeat (first | refine blk_drewN ?_ _ | refine blk_drew ?_ | refine blk_alloc ?_ _)); exact BK187.out⟩
                   have n1_ : Aside0 ((((((((w46.setCell ⟨gb199, 0, none⟩ (.int .i64 ((rd_T53 l0 x10_3).f0))).setCell ⟨gb199, 1, none⟩ (.int .i64 ((rd_T53 l0 x10_3).f1))).setCell ⟨gb199, 2, none⟩ (.int .i64 ((rd_T53 l0 x10_3).f2))).setCell ⟨gb199, 3, none⟩ (.int .i64 ((rd_T53 l0 x10_3).f3))).setCell ⟨gb199, 4, none⟩ (.int .i64 ((rd_T53 l0 x10_3).f4))).setCell ⟨gb199, 5, none⟩ (.int .i64 ((rd_T53 l0 x10_3).f5))).setCell ⟨gb199, 6, none⟩ (.int .i64 ((rd_T53 l0 x10_3).f6))).heap[gb193]? = some (.cells #[.int .i64 t189, .int .i64 t190, .int .i64 t191] 25 (0, 0))) := ⟨by (with_reducible repeat (first | refine blk_drewN ?_ _ | refine blk_drew ?_ | refine blk_alloc ?_ _)); refine blk_far ?_ NB193_199.out _; (with_reducible repeat (first | refine blk_drewN ?_ _ | refine blk_drew ?_ | refine blk_alloc ?_ _)); refine blk_far ?_ NB193_199.out _; (with_reducible repeat (first | refine blk_drewN ?_ _ | refine blk_drew ?_ | refine blk_alloc ?_ _)); refine blk_far ?_ NB193_199.out _; (with_reducible repeat (first | refine blk_drewN ?_ _ | refine blk_drew ?_ | refine blk_alloc ?_ _)); refine blk_far ?_ NB193_199.out _; (with_reducible repeat (first | refine blk_drewN ?_ _ | refine blk_drew ?_ | refine blk_alloc ?_ _)); refine blk_far ?_ NB193_199.out _; (with_reducible repeat (first | refine blk_drewN ?_ _ | refine blk_drew ?_ | refine blk_alloc ?_ _)); refine blk_far ?_ NB193_199.out _; (with_reducible repeat (first | refine blk_drewN ?_ _ | refine blk_drew ?_ | refine blk_alloc ?_ _)); refine blk_far ?_ NB193_199.out _; (with_reducible repeat (first | refine blk_drewN ?_ _ | refine blk_drew ?_ | refine blk_alloc ?_ _)); exact BK193.out⟩
                   have n2_ : Aside0 ((((((((w46.setCell ⟨gb199, 0, none⟩ (.int .i64 ((rd_T53 l0 x10_3).f0))).setCell ⟨gb199, 1, none⟩ (.int .i64 ((rd_T53 l0 x10_3).f1))).setCell ⟨gb199, 2, none⟩ (.int .i64 ((rd_T53 l0 x10_3).f2))).setCell ⟨gb199, 3, none⟩ (.int .i64 ((rd_T53 l0 x10_3).f3))).setCell ⟨gb199, 4, none⟩ (.int .i64 ((rd_T53 l0 x10_3).f4))).setCell ⟨gb199, 5, none⟩ (.int .i64 ((rd_T53 l0 x10_3).f5))).setCell ⟨gb199, 6, none⟩ (.int .i64 ((rd_T53 l0 x10_3).f6))).heap[gb199]? = some (.cells #[.int .i64 ((rd_T53 l0 x10_3).f0), .int .i64 ((rd_T53 l0 x10_3).f1), .int .i64 ((rd_T53 l0 x10_3).f2), .int .i64 ((rd_T53 l0 x10_3).f3), .int .i64 ((rd_T53 l0 x10_3).f4), .int .i64 ((rd_T53 l0 x10_3).f5), .int .i64 ((rd_T53 l0 x10_3).f6)] 53 (0, 0))) := ⟨by (with_reducible repeat (first | refine blk_drewN ?_ _ | refine blk_drew ?_ | refine blk_alloc ?_ _)); refine blk_put (cs := #[.int .i64 ((rd_T53 l0 x10_3).f0), .int .i64 ((rd_T53 l0 x10_3).f1), .int .i64 ((rd_T53 l0 x10_3).f2), .int .i64 ((rd_T53 l0 x10_3).f3), .int .i64 ((rd_T53 l0 x10_3).f4), .int .i64 ((rd_T53 l0 x10_3).f5), .int .i64 0]) ?_ 6 _ rfl; (with_reducible repeat (first | refine blk_drewN ?_ _ | refine blk_drew ?_ | refine blk_alloc ?_ _)); refine blk_put (cs := #[.int .i64 ((rd_T53 l0 x10_3).f0), .int .i64 ((rd_T53 l0 x10_3).f1), .int .i64 ((rd_T53 l0 x10_3).f2), .int .i64 ((rd_T53 l0 x10_3).f3), .int .i64 ((rd_T53 l0 x10_3).f4), .int .i64 0, .int .i64 0]) ?_ 5 _ rfl; (with_reducible repeat (first | refine blk_drewN ?_ _ | refine blk_drew ?_ | refine blk_alloc ?_ _)); refine blk_put (cs := #[.int .i64 ((rd_T53 l0 x10_3).f0), .int .i64 ((rd_T53 l0 x10_3).f1), .int .i64 ((rd_T53 l0 x10_3).f2), .int .i64 ((rd_T53 l0 x10_3).f3), .int .i64 0, .int .i64 0, .int .i64 0]) ?_ 4 _ rfl; (with_reducible repeat (first | refine blk_drewN ?_ _ | refine blk_drew ?_ | refine blk_alloc ?_ _)); refine blk_put (cs := #[.int .i64 ((rd_T53 l0 x10_3).f0), .int .i64 ((rd_T53 l0 x10_3).f1), .int .i64 ((rd_T53 l0 x10_3).f2), .int .i64 0, .int .i64 0, .int .i64 0, .int .i64 0]) ?_ 3 _ rfl; (with_reducible repeat (first | refine blk_drewN ?_ _ | refine blk_drew ?_ | refine blk_alloc ?_ _)); refine blk_put (cs := #[.int .i64 ((rd_T53 l0 x10_3).f0), .int .i64 ((rd_T53 l0 x10_3).f1), .int .i64 0, .int .i64 0, .int .i64 0, .int .i64 0, .int .i64 0]) ?_ 2 _ rfl; (with_reducible repeat (first | refine blk_drewN ?_ _ | refine blk_drew ?_ | refine blk_alloc ?_ _)); refine blk_put (cs := #[.int .i64 ((rd_T53 l0 x10_3).f0), .int .i64 0, .int .i64 0, .int .i64 0, .int .i64 0, .int .i64 0, .int .i64 0]) ?_ 1 _ rfl; (with_reducible repeat (first | refine blk_drewN ?_ _ | refine blk_drew ?_ | refine blk_alloc ?_ _)); refine blk_put (cs := #[.int .i64 0, .int .i64 0, .int .i64 0, .int .i64 0, .int .i64 0, .int .i64 0, .int .i64 0]) ?_ 0 _ rfl; (with_reducible repeat (first | refine blk_drewN ?_ _ | refine blk_drew ?_ | refine blk_alloc ?_ _)); exact BK199.out⟩
                   have n3_ : Aside0 (Below w.heap.size w (((((((w46.setCell ⟨gb199, 0, none⟩ (.int .i64 ((rd_T53 l0 x10_3).f0))).setCell ⟨gb199, 1, none⟩ (.int .i64 ((rd_T53 l0 x10_3).f1))).setCell ⟨gb199, 2, none⟩ (.int .i64 ((rd_T53 l0 x10_3).f2))).setCell ⟨gb199, 3, none⟩ (.int .i64 ((rd_T53 l0 x10_3).f3))).setCell ⟨gb199, 4, none⟩ (.int .i64 ((rd_T53 l0 x10_3).f4))).setCell ⟨gb199, 5, none⟩ (.int .i64 ((rd_T53 l0 x10_3).f5))).setCell ⟨gb199, 6, none⟩ (.int .i64 ((rd_T53 l0 x10_3).f6)))) := ⟨by repeat (first | (with_reducible first | exact HB.out | apply below_alloc | apply pw_below_drewN | apply below_drew1 | refine below_set ?_ GE187.out | refine below_set ?_ GE193.out | refine below_set ?_ GE199.out) | exact HB.out)⟩
                   (try clear BK187)
                   (try clear BK193)
                   (try clear BK199)
                   (try clear HB)
                   generalize (((((((w46.setCell ⟨gb199, 0, none⟩ (.int .i64 ((rd_T53 l0 x10_3).f0))).setCell ⟨gb199, 1, none⟩ (.int .i64 ((rd_T53 l0 x10_3).f1))).setCell ⟨gb199, 2, none⟩ (.int .i64 ((rd_T53 l0 x10_3).f2))).setCell ⟨gb199, 3, none⟩ (.int .i64 ((rd_T53 l0 x10_3).f3))).setCell ⟨gb199, 4, none⟩ (.int .i64 ((rd_T53 l0 x10_3).f4))).setCell ⟨gb199, 5, none⟩ (.int .i64 ((rd_T53 l0 x10_3).f5))).setCell ⟨gb199, 6, none⟩ (.int .i64 ((rd_T53 l0 x10_3).f6))) = w50 at n0_ n1_ n2_ n3_ ⊢
                   have BK187 := n0_
                   have BK193 := n1_
                   have BK199 := n2_
                   have HB := n3_
                   clear n0_ n1_ n2_ n3_
                   have n0_ := Aside0.mk (blk_drew BK187.out)
                   have n1_ := Aside0.mk (blk_drew BK193.out)
                   have n2_ := Aside0.mk (blk_drew BK199.out)
                   have n3_ := Aside0.mk (below_drew1 HB.out)
                   clear BK187
                   clear BK193
                   clear BK199
                   clear HB
                   have BK187 := n0_
                   have BK193 := n1_
                   have BK199 := n2_
                   have HB := n3_
                   clear n0_ n1_ n2_ n3_
                   refine start_ (n := 12) (S := fun w' => w'.cell? ⟨gb199, 0, none⟩ = some (.int .i64 ((rd_T53 l0 x10_3).f0)) ∧ w'.cell? ⟨gb199, 1, none⟩ = some (.int .i64 ((rd_T53 l0 x10_3).f1)) ∧ w'.cell? ⟨gb199, 2, none⟩ = some (.int .i64 ((rd_T53 l0 x10_3).f2)) ∧ w'.cell? ⟨gb199, 3, none⟩ = some (.int .i64 ((rd_T53 l0 x10_3).f3)) ∧ w'.cell? ⟨gb199, 4, none⟩ = some (.int .i64 ((rd_T53 l0 x10_3).f4)) ∧ w'.cell? ⟨gb199, 5, none⟩ = some (.int .i64 ((rd_T53 l0 x10_3).f5)) ∧ w'.cell? ⟨gb199, 6, none⟩ = some (.int .i64 ((rd_T53 l0 x10_3).f6)) ∧ w'.cell? ⟨gb193, 0, none⟩ = some (.int .i64 t189) ∧ w'.cell? ⟨gb193, 1, none⟩ = some (.int .i64 t190) ∧ w'.cell? ⟨gb193, 2, none⟩ = some (.int .i64 t191)) (ds := []) #[false, false, false, false, false, false, false, false, false, false, false, false] (by kernel_rfl) rfl rfl ⟨(blk_cell BK199.out 0).trans rfl, (blk_cell BK199.out 1).trans rfl, (blk_cell BK199.out 2).trans rfl, (blk_cell BK199.out 3).trans rfl, (blk_cell BK199.out 4).trans rfl, (blk_cell BK199.out 5).trans rfl, (blk_cell BK199.out 6).trans rfl, (blk_cell BK193.out 0).trans rfl, (blk_cell BK193.out 1).trans rfl, (blk_cell BK193.out 2).trans rfl⟩ (fun hHeld => ?_); refine with_tabW masterdiscref10_Program.tab13 masterdiscref10_Program.bits13 (fun HT_ HW_ => ?_)
                   generalize w50.drew = w51 at BK187 BK193 BK199 HB hHeld ⊢
                   refine pure_ (i := 0) (N := some 67) (v := ?_) (a' := ?_) (mS 12 1) rfl rfl (any_of HT_.out (by kernel_rfl)) (fun _ _ _ h => h) (Or.inl ⟨by rfl, ?_⟩) ?_ ?_
                   rotate_left
                   · intro w'
                     go_simp
                     with_reducible rfl
                   rotate_left
                   · simp only [Act.put, List.setIfInBounds_toArray, List.set_cons_zero, List.set_cons_succ, i64_w, i32_w]
                     rfl
                   refine pure_ (i := 1) (N := some 68) (v := ?_) (a' := ?_) (mS 12 3) rfl rfl (any_of HT_.out (by kernel_rfl)) (fun _ _ _ h => h) (Or.inl ⟨by rfl, ?_⟩) ?_ ?_
                   rotate_left
                   · intro w'
                     go_simp
                     with_reducible rfl
                   rotate_left
                   · simp only [Act.put, List.setIfInBounds_toArray, List.set_cons_zero, List.set_cons_succ, i64_w, i32_w]
                     rfl
                   refine pure_ (i := 3) (N := some 70) (v := ?_) (a' := ?_) (mS 12 11) rfl rfl (any_of HT_.out (by kernel_rfl)) (fun _ _ _ h => h) (Or.inl ⟨by rfl, ?_⟩) ?_ ?_
                   rotate_left
                   · intro w'
                     go_simp
                     with_reducible rfl
                   rotate_left
                   · simp only [Act.put, List.setIfInBounds_toArray, List.set_cons_zero, List.set_cons_succ, i64_w, i32_w]
                     rfl
                   refine pure_ (i := 4) (N := some 71) (v := ?_) (a' := ?_) (mS 12 27) rfl rfl (any_of HT_.out (by kernel_rfl)) (fun _ _ _ h => h) (Or.inl ⟨by rfl, ?_⟩) ?_ ?_
                   rotate_left
                   · intro w'
                     go_simp
                     with_reducible rfl
                   rotate_left
                   · simp only [Act.put, List.setIfInBounds_toArray, List.set_cons_zero, List.set_cons_succ, i64_w, i32_w]
                     rfl
                   refine take_ (i := 2) (N := some 69) (v := ?_) (a' := ?_) (mS 12 31) rfl rfl (take_ofW HT_.out HW_.out (by kernel_rfl)) (fun _ _ _ h => h) (Or.inl ⟨by rfl, ?_⟩) hHeld ?_ ?_
                   rotate_left
                   · rintro w' ⟨s0, s1, s2, s3, s4, s5, s6, s7, s8, s9⟩
                     go_simp
                     with_reducible rfl
                   rotate_left
                   · simp only [Act.put, List.setIfInBounds_toArray, List.set_cons_zero, List.set_cons_succ, i64_w, i32_w]
                     rfl
                   refine take_ (i := 5) (N := some 72) (v := ?_) (a' := ?_) (mS 12 63) rfl rfl (take_ofW HT_.out HW_.out (by kernel_rfl)) (fun _ _ _ h => h) (Or.inl ⟨by rfl, ?_⟩) hHeld ?_ ?_
                   rotate_left
                   · rintro w' ⟨s0, s1, s2, s3, s4, s5, s6, s7, s8, s9⟩
                     go_simp
                     with_reducible rfl
                   rotate_left
                   · simp only [Act.put, List.setIfInBounds_toArray, List.set_cons_zero, List.set_cons_succ, i64_w, i32_w]
                     rfl
                   refine pure_ (i := 6) (N := some 73) (v := ?_) (a' := ?_) (mS 12 127) rfl rfl (any_of HT_.out (by kernel_rfl)) (fun _ _ _ h => h) (Or.inl ⟨by rfl, ?_⟩) ?_ ?_
                   rotate_left
                   · intro w'
                     go_simp
                     with_reducible rfl
                   rotate_left
                   · simp only [Act.put, List.setIfInBounds_toArray, List.set_cons_zero, List.set_cons_succ, i64_w, i32_w]
                     rfl
                   refine take_ (i := 8) (N := some 75) (v := ?_) (a' := ?_) (mS 12 383) rfl rfl (take_ofW HT_.out HW_.out (by kernel_rfl)) (fun _ _ _ h => h) (Or.inl ⟨by rfl, ?_⟩) hHeld ?_ ?_
                   rotate_left
                   · rintro w' ⟨s0, s1, s2, s3, s4, s5, s6, s7, s8, s9⟩
                     go_simp
                     with_reducible rfl
                   rotate_left
                   · simp only [Act.put, List.setIfInBounds_toArray, List.set_cons_zero, List.set_cons_succ, i64_w, i32_w]
                     rfl
                   refine one_ (i := 7) (N := some 74) (mS 12 511) rfl rfl (one_of HT_.out (by kernel_rfl)) (by decide) (fun K hK => ?_)
                   refine goes_ Try.func34 (by kernel_rfl) rfl #[.int .i64 (wrap64 (a2 - ((rd_T53 l0 x10_3).f2)))] (by rfl) rfl rfl (by (try simp only [List.map_toArray, List.map_cons, List.map_nil]); first | done | rfl | (simp only [List.length_drop, List.length_take]; rfl)) ?_
                   with_reducible refine (masterdiscref10_address.calls (wrap64 (a2 - ((rd_T53 l0 x10_3).f2))) t203 t204 t205 _ A45.out).mono ?_
                   rintro e w52 ⟨rfl, hb⟩
                   refine ⟨_, rfl, ?_⟩
                   have n0_ := Aside0.mk (blk_below (g := gb187) (o := .cells #[.int .i64 x188000_3, .int .i64 x188001_3, .int .i64 x188002_3, .int .i64 x188003_3, .int .i64 x188004_3, .int .i64 x188005_3, .int .i64 x188006_3, .int .i64 x188007_3, .int .i64 x188008_3] 27 (0, 0)) (by (with_reducible repeat (first | refine blk_drewN ?_ _ | refine blk_drew ?_ | refine blk_alloc ?_ _)); exact BK187.out) hb)
                   have n1_ := Aside0.mk (blk_below (g := gb193) (o := .cells #[.int .i64 t189, .int .i64 t190, .int .i64 t191] 25 (0, 0)) (by (with_reducible repeat (first | refine blk_drewN ?_ _ | refine blk_drew ?_ | refine blk_alloc ?_ _)); exact BK193.out) hb)
                   have n2_ := Aside0.mk (blk_below (g := gb199) (o := .cells #[.int .i64 ((rd_T53 l0 x10_3).f0), .int .i64 ((rd_T53 l0 x10_3).f1), .int .i64 ((rd_T53 l0 x10_3).f2), .int .i64 ((rd_T53 l0 x10_3).f3), .int .i64 ((rd_T53 l0 x10_3).f4), .int .i64 ((rd_T53 l0 x10_3).f5), .int .i64 ((rd_T53 l0 x10_3).f6)] 53 (0, 0)) (by (with_reducible repeat (first | refine blk_drewN ?_ _ | refine blk_drew ?_ | refine blk_alloc ?_ _)); exact BK199.out) hb)
                   have n3_ := Aside0.mk (below_step (by repeat (first | (with_reducible first | exact HB.out | apply below_alloc | apply pw_below_drewN | apply below_drew1 | refine below_set ?_ GE187.out | refine below_set ?_ GE193.out | refine below_set ?_ GE199.out) | exact HB.out)) hb)
                   clear BK187
                   clear BK193
                   clear BK199
                   clear HB
                   have BK187 := n0_
                   have BK193 := n1_
                   have BK199 := n2_
                   have HB := n3_
                   clear n0_ n1_ n2_ n3_
                   (try clear hb)
                   (try clear hb2)
                   (try clear hk)
                   (try clear hi)
                   refine hK.out _ _ ⟨(blk_cell BK199.out 0).trans rfl, (blk_cell BK199.out 1).trans rfl, (blk_cell BK199.out 2).trans rfl, (blk_cell BK199.out 3).trans rfl, (blk_cell BK199.out 4).trans rfl, (blk_cell BK199.out 5).trans rfl, (blk_cell BK199.out 6).trans rfl, (blk_cell BK193.out 0).trans rfl, (blk_cell BK193.out 1).trans rfl, (blk_cell BK193.out 2).trans rfl⟩ (fun hHeld => ?_)
                   clear hK K
                   refine norm_ (a' := ?_) ?_ ?_
                   rotate_left
                   · show Act.put _ (some 74) _ = _
                     simp only [Act.put, List.setIfInBounds_toArray, List.set_cons_zero, List.set_cons_succ, i64_w, i32_w]
                     rfl
                   refine pure_ (i := 9) (N := some 76) (v := ?_) (a' := ?_) (mS 12 1023) rfl rfl (any_of HT_.out (by kernel_rfl)) (fun _ _ _ h => h) (Or.inl ⟨by rfl, ?_⟩) ?_ ?_
                   rotate_left
                   · intro w'
                     go_simp
                     with_reducible rfl
                   rotate_left
                   · simp only [Act.put, List.setIfInBounds_toArray, List.set_cons_zero, List.set_cons_succ, i64_w, i32_w]
                     rfl
                   refine one_ (i := 10) (N := none) (mS 12 2047) rfl rfl (one_of HT_.out (by kernel_rfl)) (by decide) (fun K hK => ?_)
                   have hs53 : w52.cell? ⟨gb187, 0, none⟩ = some (.int .i64 x188000_3) := (blk_cell BK187.out 0).trans rfl
                   have hfs53 := blk_frozen BK187.out 0
                   have hns53_1 := NB193_187.out
                   have hns53_2 := NB199_187.out
                   have hms53_1 := NB187_193.out
                   have hms53_2 := NB187_199.out
                   have hs54 : w52.cell? ⟨gb187, 1, none⟩ = some (.int .i64 x188001_3) := (blk_cell BK187.out 1).trans rfl
                   have hfs54 := blk_frozen BK187.out 1
                   have hns54_1 := NB193_187.out
                   have hns54_2 := NB199_187.out
                   have hms54_1 := NB187_193.out
                   have hms54_2 := NB187_199.out
                   have hs55 : w52.cell? ⟨gb187, 2, none⟩ = some (.int .i64 x188002_3) := (blk_cell BK187.out 2).trans rfl
                   have hfs55 := blk_frozen BK187.out 2
                   have hns55_1 := NB193_187.out
                   have hns55_2 := NB199_187.out
                   have hms55_1 := NB187_193.out
                   have hms55_2 := NB187_199.out
                   have hs56 : w52.cell? ⟨gb187, 3, none⟩ = some (.int .i64 x188003_3) := (blk_cell BK187.out 3).trans rfl
                   have hfs56 := blk_frozen BK187.out 3
                   have hns56_1 := NB193_187.out
                   have hns56_2 := NB199_187.out
                   have hms56_1 := NB187_193.out
                   have hms56_2 := NB187_199.out
                   have hs57 : w52.cell? ⟨gb187, 4, none⟩ = some (.int .i64 x188004_3) := (blk_cell BK187.out 4).trans rfl
                   have hfs57 := blk_frozen BK187.out 4
                   have hns57_1 := NB193_187.out
                   have hns57_2 := NB199_187.out
                   have hms57_1 := NB187_193.out
                   have hms57_2 := NB187_199.out
                   have hs58 : w52.cell? ⟨gb187, 5, none⟩ = some (.int .i64 x188005_3) := (blk_cell BK187.out 5).trans rfl
                   have hfs58 := blk_frozen BK187.out 5
                   have hns58_1 := NB193_187.out
                   have hns58_2 := NB199_187.out
                   have hms58_1 := NB187_193.out
                   have hms58_2 := NB187_199.out
                   have hs59 : w52.cell? ⟨gb187, 6, none⟩ = some (.int .i64 x188006_3) := (blk_cell BK187.out 6).trans rfl
                   have hfs59 := blk_frozen BK187.out 6
                   have hns59_1 := NB193_187.out
                   have hns59_2 := NB199_187.out
                   have hms59_1 := NB187_193.out
                   have hms59_2 := NB187_199.out
                   have hs60 : w52.cell? ⟨gb187, 7, none⟩ = some (.int .i64 x188007_3) := (blk_cell BK187.out 7).trans rfl
                   have hfs60 := blk_frozen BK187.out 7
                   have hns60_1 := NB193_187.out
                   have hns60_2 := NB199_187.out
                   have hms60_1 := NB187_193.out
                   have hms60_2 := NB187_199.out
                   have hs61 : w52.cell? ⟨gb187, 8, none⟩ = some (.int .i64 x188008_3) := (blk_cell BK187.out 8).trans rfl
                   have hfs61 := blk_frozen BK187.out 8
                   have hns61_1 := NB193_187.out
                   have hns61_2 := NB199_187.out
                   have hms61_1 := NB187_193.out
                   have hms61_2 := NB187_199.out
                   refine skip_ (w1 := ?_) (by rfl) rfl ?_ ?_
                   rotate_left
                   · go_simp
                     rfl
                   refine hK.out _ _ ⟨((cell_far (p := ⟨gb187, _, none⟩) NB199_187.out _).trans (((cell_far (p := ⟨gb187, _, none⟩) NB199_187.out _).trans (((cell_far (p := ⟨gb187, _, none⟩) NB199_187.out _).trans (((cell_far (p := ⟨gb187, _, none⟩) NB199_187.out _).trans (((cell_far (p := ⟨gb187, _, none⟩) NB199_187.out _).trans (((cell_far (p := ⟨gb187, _, none⟩) NB199_187.out _).trans (((cell_far (p := ⟨gb187, _, none⟩) NB199_187.out _).trans (((cell_far (p := ⟨gb187, _, none⟩) NB199_187.out _).trans (((cell_far (p := ⟨gb187, _, none⟩) NB199_187.out _).trans (hHeld.1)))))))))))))))))), ((cell_far (p := ⟨gb187, _, none⟩) NB199_187.out _).trans (((cell_far (p := ⟨gb187, _, none⟩) NB199_187.out _).trans (((cell_far (p := ⟨gb187, _, none⟩) NB199_187.out _).trans (((cell_far (p := ⟨gb187, _, none⟩) NB199_187.out _).trans (((cell_far (p := ⟨gb187, _, none⟩) NB199_187.out _).trans (((cell_far (p := ⟨gb187, _, none⟩) NB199_187.out _).trans (((cell_far (p := ⟨gb187, _, none⟩) NB199_187.out _).trans (((cell_far (p := ⟨gb187, _, none⟩) NB199_187.out _).trans (((cell_far (p := ⟨gb187, _, none⟩) NB199_187.out _).trans (hHeld.2.1)))))))))))))))))), ((cell_far (p := ⟨gb187, _, none⟩) NB199_187.out _).trans (((cell_far (p := ⟨gb187, _, none⟩) NB199_187.out _).trans (((cell_far (p := ⟨gb187, _, none⟩) NB199_187.out _).trans (((cell_far (p := ⟨gb187, _, none⟩) NB199_187.out _).trans (((cell_far (p := ⟨gb187, _, none⟩) NB199_187.out _).trans (((cell_far (p := ⟨gb187, _, none⟩) NB199_187.out _).trans (((cell_far (p := ⟨gb187, _, none⟩) NB199_187.out _).trans (((cell_far (p := ⟨gb187, _, none⟩) NB199_187.out _).trans (((cell_far (p := ⟨gb187, _, none⟩) NB199_187.out _).trans (hHeld.2.2.1)))))))))))))))))), ((cell_far (p := ⟨gb187, _, none⟩) NB199_187.out _).trans (((cell_far (p := ⟨gb187, _, none⟩) NB199_187.out _).trans (((cell_far (p := ⟨gb187, _, none⟩) NB199_187.out _).trans (((cell_far (p := ⟨gb187, _, none⟩) NB199_187.out _).trans (((cell_far (p := ⟨gb187, _, none⟩) NB199_187.out _).trans (((cell_far (p := ⟨gb187, _, none⟩) NB199_187.out _).trans (((cell_far (p := ⟨gb187, _, none⟩) NB199_187.out _).trans (((cell_far (p := ⟨gb187, _, none⟩) NB199_187.out _).trans (((cell_far (p := ⟨gb187, _, none⟩) NB199_187.out _).trans (hHeld.2.2.2.1)))))))))))))))))), ((cell_far (p := ⟨gb187, _, none⟩) NB199_187.out _).trans (((cell_far (p := ⟨gb187, _, none⟩) NB199_187.out _).trans (((cell_far (p := ⟨gb187, _, none⟩) NB199_187.out _).trans (((cell_far (p := ⟨gb187, _, none⟩) NB199_187.out _).trans (((cell_far (p := ⟨gb187, _, none⟩) NB199_187.out _).trans (((cell_far (p := ⟨gb187, _, none⟩) NB199_187.out _).trans (((cell_far (p := ⟨gb187, _, none⟩) NB199_187.out _).trans (((cell_far (p := ⟨gb187, _, none⟩) NB199_187.out _).trans (((cell_far (p := ⟨gb187, _, none⟩) NB199_187.out _).trans (hHeld.2.2.2.2.1)))))))))))))))))), ((cell_far (p := ⟨gb187, _, none⟩) NB199_187.out _).trans (((cell_far (p := ⟨gb187, _, none⟩) NB199_187.out _).trans (((cell_far (p := ⟨gb187, _, none⟩) NB199_187.out _).trans (((cell_far (p := ⟨gb187, _, none⟩) NB199_187.out _).trans (((cell_far (p := ⟨gb187, _, none⟩) NB199_187.out _).trans (((cell_far (p := ⟨gb187, _, none⟩) NB199_187.out _).trans (((cell_far (p := ⟨gb187, _, none⟩) NB199_187.out _).trans (((cell_far (p := ⟨gb187, _, none⟩) NB199_187.out _).trans (((cell_far (p := ⟨gb187, _, none⟩) NB199_187.out _).trans (hHeld.2.2.2.2.2.1)))))))))))))))))), ((cell_far (p := ⟨gb187, _, none⟩) NB199_187.out _).trans (((cell_far (p := ⟨gb187, _, none⟩) NB199_187.out _).trans (((cell_far (p := ⟨gb187, _, none⟩) NB199_187.out _).trans (((cell_far (p := ⟨gb187, _, none⟩) NB199_187.out _).trans (((cell_far (p := ⟨gb187, _, none⟩) NB199_187.out _).trans (((cell_far (p := ⟨gb187, _, none⟩) NB199_187.out _).trans (((cell_far (p := ⟨gb187, _, none⟩) NB199_187.out _).trans (((cell_far (p := ⟨gb187, _, none⟩) NB199_187.out _).trans (((cell_far (p := ⟨gb187, _, none⟩) NB199_187.out _).trans (hHeld.2.2.2.2.2.2.1)))))))))))))))))), ((cell_far (p := ⟨gb187, _, none⟩) NB193_187.out _).trans (((cell_far (p := ⟨gb187, _, none⟩) NB193_187.out _).trans (((cell_far (p := ⟨gb187, _, none⟩) NB193_187.out _).trans (((cell_far (p := ⟨gb187, _, none⟩) NB193_187.out _).trans (((cell_far (p := ⟨gb187, _, none⟩) NB193_187.out _).trans (((cell_far (p := ⟨gb187, _, none⟩) NB193_187.out _).trans (((cell_far (p := ⟨gb187, _, none⟩) NB193_187.out _).trans (((cell_far (p := ⟨gb187, _, none⟩) NB193_187.out _).trans (((cell_far (p := ⟨gb187, _, none⟩) NB193_187.out _).trans (hHeld.2.2.2.2.2.2.2.1)))))))))))))))))), ((cell_far (p := ⟨gb187, _, none⟩) NB193_187.out _).trans (((cell_far (p := ⟨gb187, _, none⟩) NB193_187.out _).trans (((cell_far (p := ⟨gb187, _, none⟩) NB193_187.out _).trans (((cell_far (p := ⟨gb187, _, none⟩) NB193_187.out _).trans (((cell_far (p := ⟨gb187, _, none⟩) NB193_187.out _).trans (((cell_far (p := ⟨gb187, _, none⟩) NB193_187.out _).trans (((cell_far (p := ⟨gb187, _, none⟩) NB193_187.out _).trans (((cell_far (p := ⟨gb187, _, none⟩) NB193_187.out _).trans (((cell_far (p := ⟨gb187, _, none⟩) NB193_187.out _).trans (hHeld.2.2.2.2.2.2.2.2.1)))))))))))))))))), ((cell_far (p := ⟨gb187, _, none⟩) NB193_187.out _).trans (((cell_far (p := ⟨gb187, _, none⟩) NB193_187.out _).trans (((cell_far (p := ⟨gb187, _, none⟩) NB193_187.out _).trans (((cell_far (p := ⟨gb187, _, none⟩) NB193_187.out _).trans (((cell_far (p := ⟨gb187, _, none⟩) NB193_187.out _).trans (((cell_far (p := ⟨gb187, _, none⟩) NB193_187.out _).trans (((cell_far (p := ⟨gb187, _, none⟩) NB193_187.out _).trans (((cell_far (p := ⟨gb187, _, none⟩) NB193_187.out _).trans (((cell_far (p := ⟨gb187, _, none⟩) NB193_187.out _).trans (hHeld.2.2.2.2.2.2.2.2.2))))))))))))))))))⟩ (fun hHeld => ?_)
                   clear hK K
                   refine pure_ (i := 11) (N := some 7) (v := ?_) (a' := ?_) (mS 12 4095) rfl rfl (any_of HT_.out (by kernel_rfl)) (fun _ _ _ h => h) (Or.inl ⟨by rfl, ?_⟩) ?_ ?_
                   rotate_left
                   · intro w'
                     go_simp
                     with_reducible rfl
                   rotate_left
                   · simp only [Act.put, List.setIfInBounds_toArray, List.set_cons_zero, List.set_cons_succ, i64_w, i32_w]
                     rfl
                   refine done_ (done_of HT_.out (by kernel_rfl)) ?_
                   try go_wp2
                   refine bodyPost_ret (results_ct rfl _ _ gb187 27 #[.int .i64 a1, .int .i64 ((rd_T53 l0 x10_3).f0), .int .i64 1, .int .i64 t203, .int .i64 t204, .int .i64 t205, .int .i64 t189, .int .i64 t190, .int .i64 t191] (0, 0) _ rfl (by (with_reducible repeat (first | refine blk_drewN ?_ _ | refine blk_drew ?_ | refine blk_alloc ?_ _)); refine blk_put (cs := #[.int .i64 a1, .int .i64 ((rd_T53 l0 x10_3).f0), .int .i64 1, .int .i64 t203, .int .i64 t204, .int .i64 t205, .int .i64 t189, .int .i64 t190, .int .i64 x188008_3]) ?_ 8 _ rfl; (with_reducible repeat (first | refine blk_drewN ?_ _ | refine blk_drew ?_ | refine blk_alloc ?_ _)); refine blk_put (cs := #[.int .i64 a1, .int .i64 ((rd_T53 l0 x10_3).f0), .int .i64 1, .int .i64 t203, .int .i64 t204, .int .i64 t205, .int .i64 t189, .int .i64 x188007_3, .int .i64 x188008_3]) ?_ 7 _ rfl; (with_reducible repeat (first | refine blk_drewN ?_ _ | refine blk_drew ?_ | refine blk_alloc ?_ _)); refine blk_put (cs := #[.int .i64 a1, .int .i64 ((rd_T53 l0 x10_3).f0), .int .i64 1, .int .i64 t203, .int .i64 t204, .int .i64 t205, .int .i64 x188006_3, .int .i64 x188007_3, .int .i64 x188008_3]) ?_ 6 _ rfl; (with_reducible repeat (first | refine blk_drewN ?_ _ | refine blk_drew ?_ | refine blk_alloc ?_ _)); refine blk_put (cs := #[.int .i64 a1, .int .i64 ((rd_T53 l0 x10_3).f0), .int .i64 1, .int .i64 t203, .int .i64 t204, .int .i64 x188005_3, .int .i64 x188006_3, .int .i64 x188007_3, .int .i64 x188008_3]) ?_ 5 _ rfl; (with_reducible repeat (first | refine blk_drewN ?_ _ | refine blk_drew ?_ | refine blk_alloc ?_ _)); refine blk_put (cs := #[.int .i64 a1, .int .i64 ((rd_T53 l0 x10_3).f0), .int .i64 1, .int .i64 t203, .int .i64 x188004_3, .int .i64 x188005_3, .int .i64 x188006_3, .int .i64 x188007_3, .int .i64 x188008_3]) ?_ 4 _ rfl; (with_reducible repeat (first | refine blk_drewN ?_ _ | refine blk_drew ?_ | refine blk_alloc ?_ _)); refine blk_put (cs := #[.int .i64 a1, .int .i64 ((rd_T53 l0 x10_3).f0), .int .i64 1, .int .i64 x188003_3, .int .i64 x188004_3, .int .i64 x188005_3, .int .i64 x188006_3, .int .i64 x188007_3, .int .i64 x188008_3]) ?_ 3 _ rfl; (with_reducible repeat (first | refine blk_drewN ?_ _ | refine blk_drew ?_ | refine blk_alloc ?_ _)); refine blk_put (cs := #[.int .i64 a1, .int .i64 ((rd_T53 l0 x10_3).f0), .int .i64 x188002_3, .int .i64 x188003_3, .int .i64 x188004_3, .int .i64 x188005_3, .int .i64 x188006_3, .int .i64 x188007_3, .int .i64 x188008_3]) ?_ 2 _ rfl; (with_reducible repeat (first | refine blk_drewN ?_ _ | refine blk_drew ?_ | refine blk_alloc ?_ _)); refine blk_put (cs := #[.int .i64 a1, .int .i64 x188001_3, .int .i64 x188002_3, .int .i64 x188003_3, .int .i64 x188004_3, .int .i64 x188005_3, .int .i64 x188006_3, .int .i64 x188007_3, .int .i64 x188008_3]) ?_ 1 _ rfl; (with_reducible repeat (first | refine blk_drewN ?_ _ | refine blk_drew ?_ | refine blk_alloc ?_ _)); refine blk_put (cs := #[.int .i64 x188000_3, .int .i64 x188001_3, .int .i64 x188002_3, .int .i64 x188003_3, .int .i64 x188004_3, .int .i64 x188005_3, .int .i64 x188006_3, .int .i64 x188007_3, .int .i64 x188008_3]) ?_ 0 _ rfl; (with_reducible repeat (first | refine blk_drewN ?_ _ | refine blk_drew ?_ | refine blk_alloc ?_ _)); exact BK187.out) Try.underlying27 rfl (by kernel_rfl)) rfl ?_
                   exact ⟨by first | rfl | (simp [errW_none, errW_some] <;> rfl) | (simp [*, errW_none, errW_some] <;> rfl), by repeat (first | (with_reducible first | exact HB.out | apply below_alloc | apply pw_below_drewN | apply below_drew1 | refine below_set ?_ GE187.out | refine below_set ?_ GE193.out | refine below_set ?_ GE199.out) | exact HB.out)⟩
                 · rw [if_neg c44] at H
                   have c44b0 : decide (a2 < (wrap64 (((rd_T53 l0 x10_3).f2) + ((rd_T53 l0 x10_3).f3)))) = false := decide_eq_false c44
                   clear c44
                   have H' := Aside0.mk H
                   clear H
                   have p198 : 0 ≤ (x10_3 : Int) := of_decide_eq_true (by first | (with_reducible assumption) | assumption)
                   have q198 : x10_3 < (l0.length : Int) := of_decide_eq_true (by first | (with_reducible assumption) | assumption)
                   obtain ⟨ad198, e198, hx198_0, hx198_1, hx198_2, hx198_3, hx198_4, hx198_5, hx198_6⟩ := at_T53 HR0.out x10_3 p198 q198
                   cases e198
                   replace hx198_0 := upc HB.out hx198_0
                   replace hx198_1 := upc HB.out hx198_1
                   replace hx198_2 := upc HB.out hx198_2
                   replace hx198_3 := upc HB.out hx198_3
                   replace hx198_4 := upc HB.out hx198_4
                   replace hx198_5 := upc HB.out hx198_5
                   replace hx198_6 := upc HB.out hx198_6
                   replace p198 := eq_true p198
                   replace q198 := eq_true q198
                   go_wp2_with (first | ((with_reducible refine gate_dst (N := 11) rfl ?_); refine box_event ?hg (N := 11) ?hd (cs := #[.int .i64 0, .int .i64 0, .int .i64 0, .int .i64 0, .int .i64 0, .int .i64 0, .int .i64 0]) (t := 53) ?hr ?_; (case hd => rfl); (case hg => rfl); (case hr => first | (go_simp; done) | (go_simp; rfl)); intro gb199 hg w62 hbox hb; have n0_ := Aside0.mk (blk_below (g := gb187) (o := .cells #[.int .i64 x188000_3, .int .i64 x188001_3, .int .i64 x188002_3, .int .i64 x188003_3, .int .i64 x188004_3, .int .i64 x188005_3, .int .i64 x188006_3, .int .i64 x188007_3, .int .i64 x188008_3] 27 (0, 0)) (by (with_reducible repeat (first | refine blk_drewN ?_ _ | refine blk_drew ?_ | refine blk_alloc ?_ _)); exact BK187.out) hb); have n1_ := Aside0.mk (blk_below (g := gb193) (o := .cells #[.int .i64 t189, .int .i64 t190, .int .i64 t191] 25 (0, 0)) (by (with_reducible repeat (first | refine blk_drewN ?_ _ | refine blk_drew ?_ | refine blk_alloc ?_ _)); exact BK193.out) hb); have n2_ := Aside0.mk (below_step (by repeat (first | (with_reducible first | exact HB.out | apply below_alloc | apply pw_below_drewN | apply below_drew1 | refine below_set ?_ GE187.out | refine below_set ?_ GE193.out) | exact HB.out)) hb); have n3_ := Aside0.mk (hbox); have n4_ := Aside0.mk ((by rw [hg]; exact (below_size (by repeat (first | (with_reducible first | exact HB.out | apply below_alloc | apply pw_below_drewN | apply below_drew1 | refine below_set ?_ GE187.out | refine below_set ?_ GE193.out) | exact HB.out))) : w.heap.size ≤ gb199)); have n5_ := Aside0.mk ((by rw [hg]; exact (below_size (by repeat (first | (with_reducible first | exact HB.out | apply below_alloc | apply pw_below_drewN | apply below_drew1 | refine below_set ?_ GE187.out | refine below_set ?_ GE193.out) | exact HB.out))) : w.heap.size ≤ gb199)); have n6_ := Aside0.mk ((by rw [hg]; exact Nat.ne_of_lt (blk_lt (g := gb187) (o := .cells #[.int .i64 x188000_3, .int .i64 x188001_3, .int .i64 x188002_3, .int .i64 x188003_3, .int .i64 x188004_3, .int .i64 x188005_3, .int .i64 x188006_3, .int .i64 x188007_3, .int .i64 x188008_3] 27 (0, 0)) (by (with_reducible repeat (first | refine blk_drewN ?_ _ | refine blk_drew ?_ | refine blk_alloc ?_ _)); exact BK187.out)) : gb187 ≠ gb199)); have n7_ := Aside0.mk ((by rw [hg]; exact Nat.ne_of_gt (blk_lt (g := gb187) (o := .cells #[.int .i64 x188000_3, .int .i64 x188001_3, .int .i64 x188002_3, .int .i64 x188003_3, .int .i64 x188004_3, .int .i64 x188005_3, .int .i64 x188006_3, .int .i64 x188007_3, .int .i64 x188008_3] 27 (0, 0)) (by (with_reducible repeat (first | refine blk_drewN ?_ _ | refine blk_drew ?_ | refine blk_alloc ?_ _)); exact BK187.out)) : gb199 ≠ gb187)); have n8_ := Aside0.mk ((by rw [hg]; exact Nat.ne_of_lt (blk_lt (g := gb193) (o := .cells #[.int .i64 t189, .int .i64 t190, .int .i64 t191] 25 (0, 0)) (by (with_reducible repeat (first | refine blk_drewN ?_ _ | refine blk_drew ?_ | refine blk_alloc ?_ _)); exact BK193.out)) : gb193 ≠ gb199)); have n9_ := Aside0.mk ((by rw [hg]; exact Nat.ne_of_gt (blk_lt (g := gb193) (o := .cells #[.int .i64 t189, .int .i64 t190, .int .i64 t191] 25 (0, 0)) (by (with_reducible repeat (first | refine blk_drewN ?_ _ | refine blk_drew ?_ | refine blk_alloc ?_ _)); exact BK193.out)) : gb199 ≠ gb193)); clear BK187; clear BK193; clear HB; have BK187 := n0_; have BK193 := n1_; have HB := n2_; have BK199 := n3_; have GW199 := n4_; have GE199 := n5_; have NB187_199 := n6_; have NB199_187 := n7_; have NB193_199 := n8_; have NB199_193 := n9_; clear n0_ n1_ n2_ n3_ n4_ n5_ n6_ n7_ n8_ n9_; clear hb hbox hg; have hnb63 := NB199_187.out; have hnc63 := NB187_199.out; have hnb64 := NB199_193.out; have hnc64 := NB193_199.out; obtain ⟨hcz65_0, hcz65_1, hcz65_2, hcz65_3, hcz65_4, hcz65_5, hcz65_6⟩ := cel7 BK199.out; obtain ⟨hfz65_0, hfz65_1, hfz65_2, hfz65_3, hfz65_4, hfz65_5, hfz65_6⟩ := frz7 BK199.out))
                   go_roundg k3
                   case measure => have := HJ3.out; have := HJ14.out; have := HK3.out; omega
                   case rel => exact ⟨(wrap64 (x10_3 + 1)), (x188000_3), (x188001_3), (x188002_3), (x188003_3), (x188004_3), (x188005_3), (x188006_3), (x188007_3), (x188008_3), (by first | rfl | (simp; done) | (simp [*]; done)), H', ⟨by have := HJ3.out; have := HJ14.out; have := HK3.out; omega⟩, ⟨by (with_reducible repeat (first | refine blk_drewN ?_ _ | refine blk_drew ?_ | refine blk_alloc ?_ _)); refine blk_far ?_ NB187_199.out _; (with_reducible repeat (first | refine blk_drewN ?_ _ | refine blk_drew ?_ | refine blk_alloc ?_ _)); refine blk_far ?_ NB187_199.out _; (with_reducible repeat (first | refine blk_drewN ?_ _ | refine blk_drew ?_ | refine blk_alloc ?_ _)); refine blk_far ?_ NB187_199.out _; (with_reducible repeat (first | refine blk_drewN ?_ _ | refine blk_drew ?_ | refine blk_alloc ?_ _)); refine blk_far ?_ NB187_199.out _; (with_reducible repeat (first | refine blk_drewN ?_ _ | refine blk_drew ?_ | refine blk_alloc ?_ _)); refine blk_far ?_ NB187_199.out _; (with_reducible repeat (first | refine blk_drewN ?_ _ | refine blk_drew ?_ | refine blk_alloc ?_ _)); refine blk_far ?_ NB187_199.out _; (with_reducible repeat (first | refine blk_drewN ?_ _ | refine blk_drew ?_ | refine blk_alloc ?_ _)); refine blk_far ?_ NB187_199.out _; (with_reducible repeat (first | refine blk_drewN ?_ _ | refine blk_drew ?_ | refine blk_alloc ?_ _)); exact BK187.out⟩, ⟨by (with_reducible repeat (first | refine blk_drewN ?_ _ | refine blk_drew ?_ | refine blk_alloc ?_ _)); refine blk_far ?_ NB193_199.out _; (with_reducible repeat (first | refine blk_drewN ?_ _ | refine blk_drew ?_ | refine blk_alloc ?_ _)); refine blk_far ?_ NB193_199.out _; (with_reducible repeat (first | refine blk_drewN ?_ _ | refine blk_drew ?_ | refine blk_alloc ?_ _)); refine blk_far ?_ NB193_199.out _; (with_reducible repeat (first | refine blk_drewN ?_ _ | refine blk_drew ?_ | refine blk_alloc ?_ _)); refine blk_far ?_ NB193_199.out _; (with_reducible repeat (first | refine blk_drewN ?_ _ | refine blk_drew ?_ | refine blk_alloc ?_ _)); refine blk_far ?_ NB193_199.out _; (with_reducible repeat (first | refine blk_drewN ?_ _ | refine blk_drew ?_ | refine blk_alloc ?_ _)); refine blk_far ?_ NB193_199.out _; (with_reducible repeat (first | refine blk_drewN ?_ _ | refine blk_drew ?_ | refine blk_alloc ?_ _)); refine blk_far ?_ NB193_199.out _; (with_reducible repeat (first | refine blk_drewN ?_ _ | refine blk_drew ?_ | refine blk_alloc ?_ _)); exact BK193.out⟩, ⟨by repeat (first | (with_reducible first | exact HB.out | apply below_alloc | apply pw_below_drewN | apply below_drew1 | refine below_set ?_ GE187.out | refine below_set ?_ GE193.out | refine below_set ?_ GE199.out) | exact HB.out)⟩⟩
             · rw [if_neg c25] at H
               exact absurd H (by simp)
           · rw [if_neg c24] at H
             have c24b0 : decide (x10_3 < (l0.length : Int)) = false := decide_eq_false c24
             clear c24
             replace H := Option.bind_eq_some_iff.mp H
             obtain ⟨t194, A660, H⟩ := H
             replace H : ((masterdiscref10_address.f (wrap64 (a2 - t194))).bind fun bt195 => (some (a1, 170, 1, bt195.1, bt195.2.1, bt195.2.2, t189, t190, t191, 0))) = some (r1, r2, r3, r4, r5, r6, r7, r8, r9, r10) := H
             have A66 := Aside0.mk A660
             clear A660
             replace H := Option.bind_eq_some_iff.mp H
             obtain ⟨⟨t195, t196, t197⟩, A670, H⟩ := H
             replace H : (some (a1, 170, 1, t195, t196, t197, t189, t190, t191, 0)) = some (r1, r2, r3, r4, r5, r6, r7, r8, r9, r10) := H
             have A67 := Aside0.mk A670
             clear A670
             simp only [Option.some.injEq, Prod.mk.injEq] at H
             obtain ⟨rfl, rfl, rfl, rfl, rfl, rfl, rfl, rfl, rfl, rfl⟩ := H
             try go_wp2
             have n0_ := Aside0.mk (blk_drew BK187.out)
             have n1_ := Aside0.mk (blk_drew BK193.out)
             have n2_ := Aside0.mk (below_drew1 HB.out)
             clear BK187
             clear BK193
             clear HB
             have BK187 := n0_
             have BK193 := n1_
             have HB := n2_
             clear n0_ n1_ n2_
             refine start_ (n := 10) (S := fun w' => w'.cell? ⟨gb193, 0, none⟩ = some (.int .i64 t189) ∧ w'.cell? ⟨gb193, 1, none⟩ = some (.int .i64 t190) ∧ w'.cell? ⟨gb193, 2, none⟩ = some (.int .i64 t191)) (ds := []) #[false, false, false, false, false, false, false, false, false, false] (by kernel_rfl) rfl rfl ⟨(blk_cell BK193.out 0).trans rfl, (blk_cell BK193.out 1).trans rfl, (blk_cell BK193.out 2).trans rfl⟩ (fun hHeld => ?_); refine with_tabW masterdiscref10_Program.tab14 masterdiscref10_Program.bits14 (fun HT_ HW_ => ?_)
             generalize wr.drew = w68 at BK187 BK193 HB hHeld ⊢
             refine pure_ (i := 0) (N := some 77) (v := ?_) (a' := ?_) (mS 10 1) rfl rfl (any_of HT_.out (by kernel_rfl)) (fun _ _ _ h => h) (Or.inl ⟨by rfl, ?_⟩) ?_ ?_
             rotate_left
             · intro w'
               go_simp
               with_reducible rfl
             rotate_left
             · simp only [Act.put, List.setIfInBounds_toArray, List.set_cons_zero, List.set_cons_succ, i64_w, i32_w]
               rfl
             refine pure_ (i := 1) (N := some 78) (v := ?_) (a' := ?_) (mS 10 3) rfl rfl (any_of HT_.out (by kernel_rfl)) (fun _ _ _ h => h) (Or.inl ⟨by rfl, ?_⟩) ?_ ?_
             rotate_left
             · intro w'
               go_simp
               with_reducible rfl
             rotate_left
             · simp only [Act.put, List.setIfInBounds_toArray, List.set_cons_zero, List.set_cons_succ, i64_w, i32_w]
               rfl
             refine pure_ (i := 2) (N := some 79) (v := ?_) (a' := ?_) (mS 10 7) rfl rfl (any_of HT_.out (by kernel_rfl)) (fun _ _ _ h => h) (Or.inl ⟨by rfl, ?_⟩) ?_ ?_
             rotate_left
             · intro w'
               go_simp
               with_reducible rfl
             rotate_left
             · simp only [Act.put, List.setIfInBounds_toArray, List.set_cons_zero, List.set_cons_succ, i64_w, i32_w]
               rfl
             refine take_ (i := 6) (N := some 83) (v := ?_) (a' := ?_) (mS 10 71) rfl rfl (take_ofW HT_.out HW_.out (by kernel_rfl)) (fun _ _ _ h => h) (Or.inl ⟨by rfl, ?_⟩) hHeld ?_ ?_
             rotate_left
             · rintro w' ⟨s0, s1, s2⟩
               go_simp
               with_reducible rfl
             rotate_left
             · simp only [Act.put, List.setIfInBounds_toArray, List.set_cons_zero, List.set_cons_succ, i64_w, i32_w]
               rfl
             refine one_ (i := 3) (N := some 80) (mS 10 79) rfl rfl (one_of HT_.out (by kernel_rfl)) (by decide) (fun K hK => ?_)
             refine goes_ Try.func35 (by kernel_rfl) rfl #[.slice A0 l0.length c0] (by rfl) rfl rfl (by (try simp only [List.map_toArray, List.map_cons, List.map_nil]); first | done | rfl | (simp only [List.length_drop, List.length_take]; rfl)) ?_
             with_reducible refine (masterdiscref10_end.calls _ _ l0 t194 _ ?side1 ?side2 A66.out).mono ?_
             (case side1 => repeat (first | exact (Kd.C_below HR0.out HB.out) | (with_reducible refine Kd.C_alloc ?_ _) | (with_reducible refine Kd.C_drewN ?_ _) | (with_reducible refine Kd.C_drew ?_)))
             (case side2 => exact HC0.out)
             rintro e w' ⟨rfl, ⟨nd, rfl⟩⟩
             refine ⟨_, rfl, ?_⟩
             refine hK.out _ _ ⟨(blk_cell BK193.out 0).trans rfl, (blk_cell BK193.out 1).trans rfl, (blk_cell BK193.out 2).trans rfl⟩ (fun hHeld => ?_)
             clear hK K
             refine norm_ (a' := ?_) ?_ ?_
             rotate_left
             · show Act.put _ (some 80) _ = _
               simp only [Act.put, List.setIfInBounds_toArray, List.set_cons_zero, List.set_cons_succ, i64_w, i32_w]
               rfl
             refine pure_ (i := 4) (N := some 81) (v := ?_) (a' := ?_) (mS 10 95) rfl rfl (any_of HT_.out (by kernel_rfl)) (fun _ _ _ h => h) (Or.inl ⟨by rfl, ?_⟩) ?_ ?_
             rotate_left
             · intro w'
               go_simp
               with_reducible rfl
             rotate_left
             · simp only [Act.put, List.setIfInBounds_toArray, List.set_cons_zero, List.set_cons_succ, i64_w, i32_w]
               rfl
             refine one_ (i := 5) (N := some 82) (mS 10 127) rfl rfl (one_of HT_.out (by kernel_rfl)) (by decide) (fun K hK => ?_)
             refine goes_ Try.func34 (by kernel_rfl) rfl #[.int .i64 (wrap64 (a2 - t194))] (by rfl) rfl rfl (by (try simp only [List.map_toArray, List.map_cons, List.map_nil]); first | done | rfl | (simp only [List.length_drop, List.length_take]; rfl)) ?_
             with_reducible refine (masterdiscref10_address.calls (wrap64 (a2 - t194)) t195 t196 t197 _ A67.out).mono ?_
             rintro e w69 ⟨rfl, hb⟩
             refine ⟨_, rfl, ?_⟩
             have n0_ := Aside0.mk (blk_below (g := gb187) (o := .cells #[.int .i64 x188000_3, .int .i64 x188001_3, .int .i64 x188002_3, .int .i64 x188003_3, .int .i64 x188004_3, .int .i64 x188005_3, .int .i64 x188006_3, .int .i64 x188007_3, .int .i64 x188008_3] 27 (0, 0)) (by (with_reducible repeat (first | refine blk_drewN ?_ _ | refine blk_drew ?_ | refine blk_alloc ?_ _)); exact BK187.out) hb)
             have n1_ := Aside0.mk (blk_below (g := gb193) (o := .cells #[.int .i64 t189, .int .i64 t190, .int .i64 t191] 25 (0, 0)) (by (with_reducible repeat (first | refine blk_drewN ?_ _ | refine blk_drew ?_ | refine blk_alloc ?_ _)); exact BK193.out) hb)
             have n2_ := Aside0.mk (below_step (by repeat (first | (with_reducible first | exact HB.out | apply below_alloc | apply pw_below_drewN | apply below_drew1 | refine below_set ?_ GE187.out | refine below_set ?_ GE193.out) | exact HB.out)) hb)
             clear BK187
             clear BK193
             clear HB
             have BK187 := n0_
             have BK193 := n1_
             have HB := n2_
             clear n0_ n1_ n2_
             (try clear hb)
             (try clear hb2)
             (try clear hk)
             (try clear hi)
             refine hK.out _ _ ⟨(blk_cell BK193.out 0).trans rfl, (blk_cell BK193.out 1).trans rfl, (blk_cell BK193.out 2).trans rfl⟩ (fun hHeld => ?_)
             clear hK K
             refine norm_ (a' := ?_) ?_ ?_
             rotate_left
             · show Act.put _ (some 82) _ = _
               simp only [Act.put, List.setIfInBounds_toArray, List.set_cons_zero, List.set_cons_succ, i64_w, i32_w]
               rfl
             refine pure_ (i := 7) (N := some 84) (v := ?_) (a' := ?_) (mS 10 255) rfl rfl (any_of HT_.out (by kernel_rfl)) (fun _ _ _ h => h) (Or.inl ⟨by rfl, ?_⟩) ?_ ?_
             rotate_left
             · intro w'
               go_simp
               with_reducible rfl
             rotate_left
             · simp only [Act.put, List.setIfInBounds_toArray, List.set_cons_zero, List.set_cons_succ, i64_w, i32_w]
               rfl
             refine one_ (i := 8) (N := none) (mS 10 511) rfl rfl (one_of HT_.out (by kernel_rfl)) (by decide) (fun K hK => ?_)
             have hs70 : w69.cell? ⟨gb187, 0, none⟩ = some (.int .i64 x188000_3) := (blk_cell BK187.out 0).trans rfl
             have hfs70 := blk_frozen BK187.out 0
             have hns70_1 := NB193_187.out
             have hms70_1 := NB187_193.out
             have hs71 : w69.cell? ⟨gb187, 1, none⟩ = some (.int .i64 x188001_3) := (blk_cell BK187.out 1).trans rfl
             have hfs71 := blk_frozen BK187.out 1
             have hns71_1 := NB193_187.out
             have hms71_1 := NB187_193.out
             have hs72 : w69.cell? ⟨gb187, 2, none⟩ = some (.int .i64 x188002_3) := (blk_cell BK187.out 2).trans rfl
             have hfs72 := blk_frozen BK187.out 2
             have hns72_1 := NB193_187.out
             have hms72_1 := NB187_193.out
             have hs73 : w69.cell? ⟨gb187, 3, none⟩ = some (.int .i64 x188003_3) := (blk_cell BK187.out 3).trans rfl
             have hfs73 := blk_frozen BK187.out 3
             have hns73_1 := NB193_187.out
             have hms73_1 := NB187_193.out
             have hs74 : w69.cell? ⟨gb187, 4, none⟩ = some (.int .i64 x188004_3) := (blk_cell BK187.out 4).trans rfl
             have hfs74 := blk_frozen BK187.out 4
             have hns74_1 := NB193_187.out
             have hms74_1 := NB187_193.out
             have hs75 : w69.cell? ⟨gb187, 5, none⟩ = some (.int .i64 x188005_3) := (blk_cell BK187.out 5).trans rfl
             have hfs75 := blk_frozen BK187.out 5
             have hns75_1 := NB193_187.out
             have hms75_1 := NB187_193.out
             have hs76 : w69.cell? ⟨gb187, 6, none⟩ = some (.int .i64 x188006_3) := (blk_cell BK187.out 6).trans rfl
             have hfs76 := blk_frozen BK187.out 6
             have hns76_1 := NB193_187.out
             have hms76_1 := NB187_193.out
             have hs77 : w69.cell? ⟨gb187, 7, none⟩ = some (.int .i64 x188007_3) := (blk_cell BK187.out 7).trans rfl
             have hfs77 := blk_frozen BK187.out 7
             have hns77_1 := NB193_187.out
             have hms77_1 := NB187_193.out
             have hs78 : w69.cell? ⟨gb187, 8, none⟩ = some (.int .i64 x188008_3) := (blk_cell BK187.out 8).trans rfl
             have hfs78 := blk_frozen BK187.out 8
             have hns78_1 := NB193_187.out
             have hms78_1 := NB187_193.out
             refine skip_ (w1 := ?_) (by rfl) rfl ?_ ?_
             rotate_left
             · go_simp
               rfl
             refine hK.out _ _ ⟨((cell_far (p := ⟨gb187, _, none⟩) NB193_187.out _).trans (((cell_far (p := ⟨gb187, _, none⟩) NB193_187.out _).trans (((cell_far (p := ⟨gb187, _, none⟩) NB193_187.out _).trans (((cell_far (p := ⟨gb187, _, none⟩) NB193_187.out _).trans (((cell_far (p := ⟨gb187, _, none⟩) NB193_187.out _).trans (((cell_far (p := ⟨gb187, _, none⟩) NB193_187.out _).trans (((cell_far (p := ⟨gb187, _, none⟩) NB193_187.out _).trans (((cell_far (p := ⟨gb187, _, none⟩) NB193_187.out _).trans (((cell_far (p := ⟨gb187, _, none⟩) NB193_187.out _).trans (hHeld.1)))))))))))))))))), ((cell_far (p := ⟨gb187, _, none⟩) NB193_187.out _).trans (((cell_far (p := ⟨gb187, _, none⟩) NB193_187.out _).trans (((cell_far (p := ⟨gb187, _, none⟩) NB193_187.out _).trans (((cell_far (p := ⟨gb187, _, none⟩) NB193_187.out _).trans (((cell_far (p := ⟨gb187, _, none⟩) NB193_187.out _).trans (((cell_far (p := ⟨gb187, _, none⟩) NB193_187.out _).trans (((cell_far (p := ⟨gb187, _, none⟩) NB193_187.out _).trans (((cell_far (p := ⟨gb187, _, none⟩) NB193_187.out _).trans (((cell_far (p := ⟨gb187, _, none⟩) NB193_187.out _).trans (hHeld.2.1)))))))))))))))))), ((cell_far (p := ⟨gb187, _, none⟩) NB193_187.out _).trans (((cell_far (p := ⟨gb187, _, none⟩) NB193_187.out _).trans (((cell_far (p := ⟨gb187, _, none⟩) NB193_187.out _).trans (((cell_far (p := ⟨gb187, _, none⟩) NB193_187.out _).trans (((cell_far (p := ⟨gb187, _, none⟩) NB193_187.out _).trans (((cell_far (p := ⟨gb187, _, none⟩) NB193_187.out _).trans (((cell_far (p := ⟨gb187, _, none⟩) NB193_187.out _).trans (((cell_far (p := ⟨gb187, _, none⟩) NB193_187.out _).trans (((cell_far (p := ⟨gb187, _, none⟩) NB193_187.out _).trans (hHeld.2.2))))))))))))))))))⟩ (fun hHeld => ?_)
             clear hK K
             refine pure_ (i := 9) (N := some 7) (v := ?_) (a' := ?_) (mS 10 1023) rfl rfl (any_of HT_.out (by kernel_rfl)) (fun _ _ _ h => h) (Or.inl ⟨by rfl, ?_⟩) ?_ ?_
             rotate_left
             · intro w'
               go_simp
               with_reducible rfl
             rotate_left
             · simp only [Act.put, List.setIfInBounds_toArray, List.set_cons_zero, List.set_cons_succ, i64_w, i32_w]
               rfl
             refine done_ (done_of HT_.out (by kernel_rfl)) ?_
             try go_wp2
             refine bodyPost_ret (results_ct rfl _ _ gb187 27 #[.int .i64 a1, .int .i64 170, .int .i64 1, .int .i64 t195, .int .i64 t196, .int .i64 t197, .int .i64 t189, .int .i64 t190, .int .i64 t191] (0, 0) _ rfl (by (with_reducible repeat (first | refine blk_drewN ?_ _ | refine blk_drew ?_ | refine blk_alloc ?_ _)); refine blk_put (cs := #[.int .i64 a1, .int .i64 170, .int .i64 1, .int .i64 t195, .int .i64 t196, .int .i64 t197, .int .i64 t189, .int .i64 t190, .int .i64 x188008_3]) ?_ 8 _ rfl; (with_reducible repeat (first | refine blk_drewN ?_ _ | refine blk_drew ?_ | refine blk_alloc ?_ _)); refine blk_put (cs := #[.int .i64 a1, .int .i64 170, .int .i64 1, .int .i64 t195, .int .i64 t196, .int .i64 t197, .int .i64 t189, .int .i64 x188007_3, .int .i64 x188008_3]) ?_ 7 _ rfl; (with_reducible repeat (first | refine blk_drewN ?_ _ | refine blk_drew ?_ | refine blk_alloc ?_ _)); refine blk_put (cs := #[.int .i64 a1, .int .i64 170, .int .i64 1, .int .i64 t195, .int .i64 t196, .int .i64 t197, .int .i64 x188006_3, .int .i64 x188007_3, .int .i64 x188008_3]) ?_ 6 _ rfl; (with_reducible repeat (first | refine blk_drewN ?_ _ | refine blk_drew ?_ | refine blk_alloc ?_ _)); refine blk_put (cs := #[.int .i64 a1, .int .i64 170, .int .i64 1, .int .i64 t195, .int .i64 t196, .int .i64 x188005_3, .int .i64 x188006_3, .int .i64 x188007_3, .int .i64 x188008_3]) ?_ 5 _ rfl; (with_reducible repeat (first | refine blk_drewN ?_ _ | refine blk_drew ?_ | refine blk_alloc ?_ _)); refine blk_put (cs := #[.int .i64 a1, .int .i64 170, .int .i64 1, .int .i64 t195, .int .i64 x188004_3, .int .i64 x188005_3, .int .i64 x188006_3, .int .i64 x188007_3, .int .i64 x188008_3]) ?_ 4 _ rfl; (with_reducible repeat (first | refine blk_drewN ?_ _ | refine blk_drew ?_ | refine blk_alloc ?_ _)); refine blk_put (cs := #[.int .i64 a1, .int .i64 170, .int .i64 1, .int .i64 x188003_3, .int .i64 x188004_3, .int .i64 x188005_3, .int .i64 x188006_3, .int .i64 x188007_3, .int .i64 x188008_3]) ?_ 3 _ rfl; (with_reducible repeat (first | refine blk_drewN ?_ _ | refine blk_drew ?_ | refine blk_alloc ?_ _)); refine blk_put (cs := #[.int .i64 a1, .int .i64 170, .int .i64 x188002_3, .int .i64 x188003_3, .int .i64 x188004_3, .int .i64 x188005_3, .int .i64 x188006_3, .int .i64 x188007_3, .int .i64 x188008_3]) ?_ 2 _ rfl; (with_reducible repeat (first | refine blk_drewN ?_ _ | refine blk_drew ?_ | refine blk_alloc ?_ _)); refine blk_put (cs := #[.int .i64 a1, .int .i64 x188001_3, .int .i64 x188002_3, .int .i64 x188003_3, .int .i64 x188004_3, .int .i64 x188005_3, .int .i64 x188006_3, .int .i64 x188007_3, .int .i64 x188008_3]) ?_ 1 _ rfl; (with_reducible repeat (first | refine blk_drewN ?_ _ | refine blk_drew ?_ | refine blk_alloc ?_ _)); refine blk_put (cs := #[.int .i64 x188000_3, .int .i64 x188001_3, .int .i64 x188002_3, .int .i64 x188003_3, .int .i64 x188004_3, .int .i64 x188005_3, .int .i64 x188006_3, .int .i64 x188007_3, .int .i64 x188008_3]) ?_ 0 _ rfl; (with_reducible repeat (first | refine blk_drewN ?_ _ | refine blk_drew ?_ | refine blk_alloc ?_ _)); exact BK187.out) Try.underlying27 rfl (by kernel_rfl)) rfl ?_
             exact ⟨by first | rfl | (simp [errW_none, errW_some] <;> rfl) | (simp [*, errW_none, errW_some] <;> rfl), by repeat (first | (with_reducible first | exact HB.out | apply below_alloc | apply pw_below_drewN | apply below_drew1 | refine below_set ?_ GE187.out | refine below_set ?_ GE193.out) | exact HB.out)⟩
end Go.Proofs.Ytpmkibggmkibeaa.G
namespace Go.Proofs.Ytpmkibggmkibeaa.G
open Go.RowKit Go.Proofs.YtpmkibggmkibeaaW.PrintWords Go.Proofs.YtpmkibggmkibeaaW.PrintLast Go.Proofs.YtpmkibggmkibeaaW.PrintMore
attribute [local go_sem] max2_int min2_int max_two min_two max_three min_three max_four min_four   -- for this text's walks alone
set_option linter.unusedVariables false
set_option linter.unusedSimpArgs false
mutual
def masterdiscref10_Entries.j0 : Nat → List (S53) → Int → Bool → Option ((List (S27)) × Int)
 | 0, _, _, _ => none
 | k + 1, x0, x1, x22 => if x22 = true then (some (([] : List (S27)), 1)) else ((masterdiscref10_end.f x0).bind fun t207 => ((masterdiscref06_ToMSF.f t207).bind fun bt208 => (if 0 < (x0.length : Int) then (if 0 ≤ (wrap64 ((x0.length : Int) - 1)) then (if (wrap64 ((x0.length : Int) - 1)) < (x0.length : Int) then (masterdiscref10_Entries.l0 k x0 x1 (([(⟨x1, 0, 160, (⟨0, 0, 0⟩ : S25), (⟨(rd_T53 x0 0).f0, 0, 0⟩ : S25)⟩ : S27), (⟨x1, 0, 161, (⟨0, 0, 0⟩ : S25), (⟨(rd_T53 x0 (wrap64 ((x0.length : Int) - 1))).f0, 0, 0⟩ : S25)⟩ : S27), (⟨x1, 0, 162, (⟨0, 0, 0⟩ : S25), (⟨bt208.1, bt208.2.1, bt208.2.2.1⟩ : S25)⟩ : S27)] : List (S27))) 0) else (none)) else (none)) else (none))))
def masterdiscref10_Entries.l0 : Nat → List (S53) → Int → List (S27) → Int → Option ((List (S27)) × Int)
 | 0, _, _, _, _ => none
 | k + 1, x0, x1, x8, x9 => if x9 < (x0.length : Int) then (if 0 ≤ x9 then ((masterdiscref06_ToMSF.f ((rd_T53 x0 x9).f2)).bind fun bt219 => (if x8.length < 1954687338268 then (masterdiscref10_Entries.l0 k x0 x1 (x8 ++ [(⟨x1, 0, (rd_T53 x0 x9).f0, (⟨0, 0, 0⟩ : S25), (⟨bt219.1, bt219.2.1, bt219.2.2.1⟩ : S25)⟩ : S27)]) (wrap64 (x9 + 1))) else (none))) else (none)) else (some (x8, 0))
end
def masterdiscref10_Entries.f (k : Nat) (l0 : List (S53)) (a1 : Int) : Option ((List (S27)) × Int) := (masterdiscref10_Session.f l0).bind fun t206 => (if t206 = true then (if a1 < 0 then (masterdiscref10_Entries.j0 k l0 a1 true) else (masterdiscref10_Entries.j0 k l0 a1 (decide (a1 > 15)))) else (masterdiscref10_Entries.j0 k l0 a1 true))
theorem masterdiscref10_Entries.mono_l : ∀ k, (∀ y0 y1 y2, LeO (masterdiscref10_Entries.j0 k y0 y1 y2) (masterdiscref10_Entries.j0 (k + 1) y0 y1 y2)) ∧ (∀ y0 y1 y2 y3, LeO (masterdiscref10_Entries.l0 k y0 y1 y2 y3) (masterdiscref10_Entries.l0 (k + 1) y0 y1 y2 y3))
 | 0 => ⟨fun _ _ _ r h => by simp [masterdiscref10_Entries.j0] at h, fun _ _ _ _ r h => by simp [masterdiscref10_Entries.l0] at h⟩
 | k + 1 => by
  obtain ⟨ih0, ih1⟩ := masterdiscref10_Entries.mono_l k
  refine ⟨?_, ?_⟩
  · intro y0 y1 y2
    unfold masterdiscref10_Entries.j0
    repeat' first
    | (with_reducible exact ih0 _ _ _)
    | (with_reducible exact ih1 _ _ _ _)
    | (with_reducible exact LeO.refl _)
    | (with_reducible exact LeO.none _)
    | (with_reducible refine LeO.ite ?_ ?_)
    | (with_reducible refine LeO.bind ?_ (fun _ => ?_))
    | exact ih0 _ _ _
    | exact ih1 _ _ _ _
    | exact LeO.none _
    | refine LeO.ite ?_ ?_
    | refine LeO.bind ?_ (fun _ => ?_)
  · intro y0 y1 y2 y3
    unfold masterdiscref10_Entries.l0
    repeat' first
    | (with_reducible exact ih0 _ _ _)
    | (with_reducible exact ih1 _ _ _ _)
    | (with_reducible exact LeO.refl _)
    | (with_reducible exact LeO.none _)
    | (with_reducible refine LeO.ite ?_ ?_)
    | (with_reducible refine LeO.bind ?_ (fun _ => ?_))
    | exact ih0 _ _ _
    | exact ih1 _ _ _ _
    | exact LeO.none _
    | refine LeO.ite ?_ ?_
    | refine LeO.bind ?_ (fun _ => ?_)
theorem masterdiscref10_Entries.mono : ∀ a0 a1 k, LeO (masterdiscref10_Entries.f k a0 a1) (masterdiscref10_Entries.f (k + 1) a0 a1) := by
 intro a0 a1 k
 obtain ⟨ih0, ih1⟩ := masterdiscref10_Entries.mono_l k
 unfold masterdiscref10_Entries.f
 repeat' first
  | (with_reducible exact ih0 _ _ _)
  | (with_reducible exact ih1 _ _ _ _)
  | (with_reducible exact LeO.refl _)
  | (with_reducible exact LeO.none _)
  | (with_reducible refine LeO.ite ?_ ?_)
  | (with_reducible refine LeO.bind ?_ (fun _ => ?_))
  | exact ih0 _ _ _
  | exact ih1 _ _ _ _
  | exact LeO.none _
  | refine LeO.ite ?_ ?_
  | refine LeO.bind ?_ (fun _ => ?_)
def masterdiscref10_Entries.T4 : Bool × List (List Nat × List Nat) := (true, [([], []), ([], []), ([1], [1]), ([2], [2]), ([3], [3]), ([4], [4]), ([0, 5], [0, 5]), ([], []), ([], []), ([], []), ([9], [9]), ([10], [10]), ([8, 11], [8, 11]), ([12], [12]), ([13], [13]), ([14], [14]), ([7, 15], [7, 15]), ([], []), ([], []), ([17, 18], [17, 18]), ([6, 16, 19], [6, 16, 19]), ([20, 0, 1, 2, 3, 4, 5, 6, 7, 8, 9, 10, 11, 12, 13, 14, 15, 16, 17, 18, 19, 20], [20])])
def masterdiscref10_Entries.B4 : List Nat := [0, 0, 2, 6, 14, 30, 63, 0, 0, 0, 512, 1536, 3840, 7936, 16128, 32512, 65408, 0, 0, 393216, 1048575, 2097151]
theorem masterdiscref10_Entries.tab4 : rtab .any (opsOf Try.f14 4) = masterdiscref10_Entries.T4 := by kernel_rfl
theorem masterdiscref10_Entries.bits4 : waitsOk masterdiscref10_Entries.T4.2 masterdiscref10_Entries.B4 = true := by kernel_rfl
def masterdiscref10_Entries.T9 : Bool × List (List Nat × List Nat) := (true, [([], []), ([], []), ([], []), ([], []), ([2, 3], [2, 3]), ([4], [4]), ([5], [5]), ([], []), ([1, 6, 7], [1, 6, 7]), ([8], [8]), ([0, 9], [0, 9]), ([10, 10, 0, 1, 2, 3, 4, 5, 6, 7, 8, 9, 10], [0, 10])])
def masterdiscref10_Entries.B9 : List Nat := [0, 0, 0, 0, 12, 28, 60, 0, 254, 510, 1023, 2047]
theorem masterdiscref10_Entries.tab9 : rtab .any (opsOf Try.f14 9) = masterdiscref10_Entries.T9 := by kernel_rfl
theorem masterdiscref10_Entries.bits9 : waitsOk masterdiscref10_Entries.T9.2 masterdiscref10_Entries.B9 = true := by kernel_rfl
set_option maxHeartbeats 8000000 in
set_option maxRecDepth 100000 in
theorem masterdiscref10_Entries.calls (k : Nat) (A0 : Option Addr) (c0 : Nat) (l0 : List (S53)) (a1 : Int) (r1 : List (S27)) (r2 : Int) (w : World) (hr0 : Kd.C k53 w A0 l0.length l0) (hc0 : l0.length ≤ c0) (h : masterdiscref10_Entries.f k l0 a1 = some (r1, r2)) :
 Calls Try.prog 14 #[.slice A0 l0.length c0, .int .i64 a1] w fun e w' => ∃ v0_ : Value, e = .returned (.tuple #[v0_, .int .i64 r2]) ∧ Kd.R k27 27 w' w.heap.size (fun _ => True) v0_ r1 ∧ Below w.heap.size w w' := by
 have hu25 := Try.underlying25
 have hu27 := Try.underlying27
 have HR0 := Aside0.mk hr0
 have HC0 := Aside0.mk hc0
 clear hr0 hc0
 have HB := Aside0.mk (Below.refl w.heap.size w)
 have H : ((masterdiscref10_Session.f l0).bind fun t206 => (if t206 = true then (if a1 < 0 then (masterdiscref10_Entries.j0 k l0 a1 true) else (masterdiscref10_Entries.j0 k l0 a1 (decide (a1 > 15)))) else (masterdiscref10_Entries.j0 k l0 a1 true))) = some (r1, r2) := h
 clear h
 have HC3 := Aside0.mk H
 clear H
 go_enter Try.func14, Try.ntmps14
 go_upto_region 1 with (fail)
 go_cut [22] (fun v22 wc => ∃ (kq : Nat) (x22_2 : Bool), v22 = .bool x22_2 ∧ Aside0 (masterdiscref10_Entries.j0 kq l0 a1 x22_2 = some (r1, r2)) ∧ Aside0 (kq ≤ k) ∧ Aside0 (Below w.heap.size w wc))
 case first =>
  have H := HC3.out
  clear HC3
  replace H := Option.bind_eq_some_iff.mp H
  obtain ⟨t206, A40, H⟩ := H
  replace H : (if t206 = true then (if a1 < 0 then (masterdiscref10_Entries.j0 k l0 a1 true) else (masterdiscref10_Entries.j0 k l0 a1 (decide (a1 > 15)))) else (masterdiscref10_Entries.j0 k l0 a1 true)) = some (r1, r2) := H
  have A4 := Aside0.mk A40
  clear A40
  by_cases c5 : t206 = true
  · subst c5
    have H1 : (if a1 < 0 then (masterdiscref10_Entries.j0 k l0 a1 true) else (masterdiscref10_Entries.j0 k l0 a1 (decide (a1 > 15)))) = some (r1, r2) := by rw [if_pos rfl] at H; exact H
    clear H
    have H := H1
    clear H1
    by_cases c6 : a1 < 0
    · rw [if_pos c6] at H
      have c6b0 : decide (a1 < 0) = true := decide_eq_true c6
      clear c6
      (first | rw [c6b0] | (simp only [i64_w, i32_w]; rw [c6b0]) | skip)
      have H' := Aside0.mk H
      clear H
      go_wp2_with (first | ((with_reducible refine gate_callee (f := 32) rfl ?_); refine goesL_ (some 13) rfl rfl Try.func32 (by kernel_rfl) rfl #[.slice A0 l0.length c0] rfl (by (try simp only [List.map_toArray, List.map_cons, List.map_nil]); first | done | rfl | (simp only [List.length_drop, List.length_take]; rfl)) ?_; (with_reducible refine (masterdiscref10_Session.calls _ _ l0 true _ ?side1 ?side2 A4.out).mono ?_); (case side1 => repeat (first | exact (Kd.C_below HR0.out HB.out) | (with_reducible refine Kd.C_alloc ?_ _) | (with_reducible refine Kd.C_drewN ?_ _) | (with_reducible refine Kd.C_drew ?_))); (case side2 => exact HC0.out); rintro e w7 ⟨rfl, hb⟩; refine ⟨_, rfl, ?_⟩; have n0_ := Aside0.mk (below_step (by repeat (first | (with_reducible first | exact HB.out | apply below_alloc | apply pw_below_drewN | apply below_drew1) | exact HB.out)) hb); clear HB; have HB := n0_; clear n0_; (try clear hb); (try clear hb2); (try clear hk); (try clear hi)))
      go_meet
      case rel => exact ⟨_, (true), (by first | rfl | (simp; done) | (simp [*]; done)), H', ⟨by first | omega | exact Nat.le_refl _⟩, ⟨by repeat (first | (with_reducible first | exact HB.out | apply below_alloc | apply pw_below_drewN | apply below_drew1) | exact HB.out)⟩⟩
    · rw [if_neg c6] at H
      have c6b0 : decide (a1 < 0) = false := decide_eq_false c6
      clear c6
      (first | rw [c6b0] | (simp only [i64_w, i32_w]; rw [c6b0]) | skip)
      have H' := Aside0.mk H
      clear H
      go_wp2_with (first | ((with_reducible refine gate_callee (f := 32) rfl ?_); refine goesL_ (some 13) rfl rfl Try.func32 (by kernel_rfl) rfl #[.slice A0 l0.length c0] rfl (by (try simp only [List.map_toArray, List.map_cons, List.map_nil]); first | done | rfl | (simp only [List.length_drop, List.length_take]; rfl)) ?_; (with_reducible refine (masterdiscref10_Session.calls _ _ l0 true _ ?side1 ?side2 A4.out).mono ?_); (case side1 => repeat (first | exact (Kd.C_below HR0.out HB.out) | (with_reducible refine Kd.C_alloc ?_ _) | (with_reducible refine Kd.C_drewN ?_ _) | (with_reducible refine Kd.C_drew ?_))); (case side2 => exact HC0.out); rintro e w8 ⟨rfl, hb⟩; refine ⟨_, rfl, ?_⟩; have n0_ := Aside0.mk (below_step (by repeat (first | (with_reducible first | exact HB.out | apply below_alloc | apply pw_below_drewN | apply below_drew1) | exact HB.out)) hb); clear HB; have HB := n0_; clear n0_; (try clear hb); (try clear hb2); (try clear hk); (try clear hi)))
      go_meet
      case rel => exact ⟨_, (decide (a1 > 15)), (by first | rfl | (simp; done) | (simp [*]; done)), H', ⟨by first | omega | exact Nat.le_refl _⟩, ⟨by repeat (first | (with_reducible first | exact HB.out | apply below_alloc | apply pw_below_drewN | apply below_drew1) | exact HB.out)⟩⟩
  · replace c5 := Bool.eq_false_iff.mpr c5
    subst c5
    have H1 : (masterdiscref10_Entries.j0 k l0 a1 true) = some (r1, r2) := by rw [if_neg (show ¬ (false = true) by decide)] at H; exact H
    clear H
    have H := H1
    clear H1
    have H' := Aside0.mk H
    clear H
    go_wp2_with (first | ((with_reducible refine gate_callee (f := 32) rfl ?_); refine goesL_ (some 13) rfl rfl Try.func32 (by kernel_rfl) rfl #[.slice A0 l0.length c0] rfl (by (try simp only [List.map_toArray, List.map_cons, List.map_nil]); first | done | rfl | (simp only [List.length_drop, List.length_take]; rfl)) ?_; (with_reducible refine (masterdiscref10_Session.calls _ _ l0 false _ ?side1 ?side2 A4.out).mono ?_); (case side1 => repeat (first | exact (Kd.C_below HR0.out HB.out) | (with_reducible refine Kd.C_alloc ?_ _) | (with_reducible refine Kd.C_drewN ?_ _) | (with_reducible refine Kd.C_drew ?_))); (case side2 => exact HC0.out); rintro e w9 ⟨rfl, hb⟩; refine ⟨_, rfl, ?_⟩; have n0_ := Aside0.mk (below_step (by repeat (first | (with_reducible first | exact HB.out | apply below_alloc | apply pw_below_drewN | apply below_drew1) | exact HB.out)) hb); clear HB; have HB := n0_; clear n0_; (try clear hb); (try clear hb2); (try clear hk); (try clear hi)))
    go_meet
    case rel => exact ⟨_, (true), (by first | rfl | (simp; done) | (simp [*]; done)), H', ⟨by first | omega | exact Nat.le_refl _⟩, ⟨by repeat (first | (with_reducible first | exact HB.out | apply below_alloc | apply pw_below_drewN | apply below_drew1) | exact HB.out)⟩⟩
 case rest =>
  clear HC3
  try clear c1
  try clear p2
  try clear c3
  try clear c5
  try clear c6
  try clear c6b0
  obtain ⟨kq, x22_2, rfl, HA, HJ2, HB⟩ := hcut
  cases kq with
  | zero => exact absurd HA.out (by simp [masterdiscref10_Entries.j0])
  | succ kj2 =>
   have H := HA.out
   clear HA
   simp only [masterdiscref10_Entries.j0] at H
   by_cases c10 : x22_2 = true
   · subst c10
     have H1 : (some (([] : List (S27)), 1)) = some (r1, r2) := by rw [if_pos rfl] at H; exact H
     clear H
     have H := H1
     clear H1
     simp only [Option.some.injEq, Prod.mk.injEq] at H
     obtain ⟨rfl, rfl⟩ := H
     go_wp2
     go_ret2
     exact ⟨_, by first | rfl | (simp [errW_none, errW_some] <;> rfl) | (simp [*, errW_none, errW_some] <;> rfl), by first | exact Kd.R_nil _ _ _ _ _ | exact Kd.N_nil _ _ _ _ _ | exact Kd.V_nil _ _ _ _ _ | exact Kd.Q_nil _ _ _ _ _ | exact Kd.S_nil _ _ _ _ _, by repeat (first | (with_reducible first | exact HB.out | apply below_alloc | apply pw_below_drewN | apply below_drew1) | exact HB.out)⟩
   · replace c10 := Bool.eq_false_iff.mpr c10
     subst c10
     have H1 : ((masterdiscref10_end.f l0).bind fun t207 => ((masterdiscref06_ToMSF.f t207).bind fun bt208 => (if 0 < (l0.length : Int) then (if 0 ≤ (wrap64 ((l0.length : Int) - 1)) then (if (wrap64 ((l0.length : Int) - 1)) < (l0.length : Int) then (masterdiscref10_Entries.l0 kj2 l0 a1 (([(⟨a1, 0, 160, (⟨0, 0, 0⟩ : S25), (⟨(rd_T53 l0 0).f0, 0, 0⟩ : S25)⟩ : S27), (⟨a1, 0, 161, (⟨0, 0, 0⟩ : S25), (⟨(rd_T53 l0 (wrap64 ((l0.length : Int) - 1))).f0, 0, 0⟩ : S25)⟩ : S27), (⟨a1, 0, 162, (⟨0, 0, 0⟩ : S25), (⟨bt208.1, bt208.2.1, bt208.2.2.1⟩ : S25)⟩ : S27)] : List (S27))) 0) else (none)) else (none)) else (none)))) = some (r1, r2) := by rw [if_neg (show ¬ (false = true) by decide)] at H; exact H
     clear H
     have H := H1
     clear H1
     replace H := Option.bind_eq_some_iff.mp H
     obtain ⟨t207, A110, H⟩ := H
     replace H : ((masterdiscref06_ToMSF.f t207).bind fun bt208 => (if 0 < (l0.length : Int) then (if 0 ≤ (wrap64 ((l0.length : Int) - 1)) then (if (wrap64 ((l0.length : Int) - 1)) < (l0.length : Int) then (masterdiscref10_Entries.l0 kj2 l0 a1 (([(⟨a1, 0, 160, (⟨0, 0, 0⟩ : S25), (⟨(rd_T53 l0 0).f0, 0, 0⟩ : S25)⟩ : S27), (⟨a1, 0, 161, (⟨0, 0, 0⟩ : S25), (⟨(rd_T53 l0 (wrap64 ((l0.length : Int) - 1))).f0, 0, 0⟩ : S25)⟩ : S27), (⟨a1, 0, 162, (⟨0, 0, 0⟩ : S25), (⟨bt208.1, bt208.2.1, bt208.2.2.1⟩ : S25)⟩ : S27)] : List (S27))) 0) else (none)) else (none)) else (none))) = some (r1, r2) := H
     have A11 := Aside0.mk A110
     clear A110
     replace H := Option.bind_eq_some_iff.mp H
     obtain ⟨⟨t208, t209, t210, t211⟩, A120, H⟩ := H
     replace H : (if 0 < (l0.length : Int) then (if 0 ≤ (wrap64 ((l0.length : Int) - 1)) then (if (wrap64 ((l0.length : Int) - 1)) < (l0.length : Int) then (masterdiscref10_Entries.l0 kj2 l0 a1 (([(⟨a1, 0, 160, (⟨0, 0, 0⟩ : S25), (⟨(rd_T53 l0 0).f0, 0, 0⟩ : S25)⟩ : S27), (⟨a1, 0, 161, (⟨0, 0, 0⟩ : S25), (⟨(rd_T53 l0 (wrap64 ((l0.length : Int) - 1))).f0, 0, 0⟩ : S25)⟩ : S27), (⟨a1, 0, 162, (⟨0, 0, 0⟩ : S25), (⟨t208, t209, t210⟩ : S25)⟩ : S27)] : List (S27))) 0) else (none)) else (none)) else (none)) = some (r1, r2) := H
     have A12 := Aside0.mk A120
     clear A120
     by_cases c13 : 0 < (l0.length : Int)
     · rw [if_pos c13] at H
       have c13b0 : decide (0 < (l0.length : Int)) = true := decide_eq_true c13
       have c13b1 : decide (0 < l0.length) = true := decide_eq_true (by omega)
       clear c13
       obtain ⟨ji14, hji14⟩ : ∃ j_ : Int, (wrap64 ((l0.length : Int) - 1)) = j_ := ⟨_, rfl⟩
       replace H : (if 0 ≤ (ji14) then (if (ji14) < (l0.length : Int) then (masterdiscref10_Entries.l0 kj2 l0 a1 (([(⟨a1, 0, 160, (⟨0, 0, 0⟩ : S25), (⟨(rd_T53 l0 0).f0, 0, 0⟩ : S25)⟩ : S27), (⟨a1, 0, 161, (⟨0, 0, 0⟩ : S25), (⟨(rd_T53 l0 (ji14)).f0, 0, 0⟩ : S25)⟩ : S27), (⟨a1, 0, 162, (⟨0, 0, 0⟩ : S25), (⟨t208, t209, t210⟩ : S25)⟩ : S27)] : List (S27))) 0) else (none)) else (none)) = some (r1, r2) := by first | (rw [hji14] at H; exact H) | (simp only [hji14] at H ⊢; exact H)
       (try rw [hji14] at A11)
       (try rw [hji14] at A12)
       have hji14w : (IntKind.i64.wrap ((l0.length : Int) - 1)) = ji14 := (i64_w _).trans hji14
       by_cases c15 : 0 ≤ (ji14)
       · rw [if_pos c15] at H
         have c15b0 : decide (0 ≤ (ji14)) = true := decide_eq_true c15
         clear c15
         by_cases c16 : (ji14) < (l0.length : Int)
         · rw [if_pos c16] at H
           have c16b0 : decide ((ji14) < (l0.length : Int)) = true := decide_eq_true c16
           clear c16
           obtain ⟨y215, hy215⟩ : ∃ y_ : List (S27), y_ = (([(⟨a1, 0, 160, (⟨0, 0, 0⟩ : S25), (⟨(rd_T53 l0 0).f0, 0, 0⟩ : S25)⟩ : S27), (⟨a1, 0, 161, (⟨0, 0, 0⟩ : S25), (⟨(rd_T53 l0 (ji14)).f0, 0, 0⟩ : S25)⟩ : S27), (⟨a1, 0, 162, (⟨0, 0, 0⟩ : S25), (⟨t208, t209, t210⟩ : S25)⟩ : S27)] : List (S27))) := ⟨_, rfl⟩
           replace H : (masterdiscref10_Entries.l0 kj2 l0 a1 y215 0) = some (r1, r2) := by first | (rw [hy215]; with_reducible exact H) | (have H2_ := (Option.bind_some _ _).symm.trans H; rw [hy215]; with_reducible exact H2_) | (have H2_ := (Option.bind_some _ _).symm.trans H; with_reducible exact H2_) | with_reducible exact H | (rw [hy215]; exact H) | exact H
           have Ny215 := Aside0.mk hy215
           clear hy215
           have H' := Aside0.mk H
           clear H
           try go_wp2_with (first | ((with_reducible refine gate_callee (f := 35) rfl ?_); refine goesL_ (some 25) rfl rfl Try.func35 (by kernel_rfl) rfl #[.slice A0 l0.length c0] rfl (by (try simp only [List.map_toArray, List.map_cons, List.map_nil]); first | done | rfl | (simp only [List.length_drop, List.length_take]; rfl)) ?_; (with_reducible refine (masterdiscref10_end.calls _ _ l0 t207 _ ?side1 ?side2 A11.out).mono ?_); (case side1 => repeat (first | exact (Kd.C_below HR0.out HB.out) | (with_reducible refine Kd.C_alloc ?_ _) | (with_reducible refine Kd.C_drewN ?_ _) | (with_reducible refine Kd.C_drew ?_))); (case side2 => exact HC0.out); rintro e w' ⟨rfl, ⟨nd, rfl⟩⟩; refine ⟨_, rfl, ?_⟩; (try (rw [drewN_self wc]; generalize hq_ : World.drewN wc _ = wc; have n0_ : Aside0 (Below w.heap.size w wc) := ⟨by rw [← hq_]; exact (by repeat (first | (with_reducible first | exact HB.out | apply below_alloc | apply pw_below_drewN | apply below_drew1) | exact HB.out))⟩; clear HB hq_; have HB := n0_; clear n0_))) | ((with_reducible refine gate_callee (f := 33) rfl ?_); refine goesL_ (some 26) rfl rfl Try.func33 (by kernel_rfl) rfl #[.int .i64 t207] rfl (by (try simp only [List.map_toArray, List.map_cons, List.map_nil]); first | done | rfl | (simp only [List.length_drop, List.length_take]; rfl)) ?_; (with_reducible refine (masterdiscref06_ToMSF.calls t207 t208 t209 t210 t211 _ A12.out).mono ?_); rintro e w17 ⟨rfl, hb⟩; refine ⟨_, rfl, ?_⟩; have n0_ := Aside0.mk (below_step (by repeat (first | (with_reducible first | exact HB.out | apply below_alloc | apply pw_below_drewN | apply below_drew1) | exact HB.out)) hb); clear HB; have HB := n0_; clear n0_; (try clear hb); (try clear hb2); (try clear hk); (try clear hi)) | ((with_reducible refine gate_dst (N := 6) rfl ?_); refine box_event ?hg (N := 6) ?hd (cs := #[.int .i64 0, .int .i64 0, .int .i64 0]) (t := 25) ?hr ?_; (case hd => rfl); (case hg => rfl); (case hr => first | (go_simp; done) | (go_simp; rfl)); intro gb212 hg w18 hbox hb; have n0_ := Aside0.mk (below_step (by repeat (first | (with_reducible first | exact HB.out | apply below_alloc | apply pw_below_drewN | apply below_drew1) | exact HB.out)) hb); have n1_ := Aside0.mk (hbox); have n2_ := Aside0.mk ((by rw [hg]; exact (below_size (by repeat (first | (with_reducible first | exact HB.out | apply below_alloc | apply pw_below_drewN | apply below_drew1) | exact HB.out))) : w.heap.size ≤ gb212)); have n3_ := Aside0.mk ((by rw [hg]; exact (below_size (by repeat (first | (with_reducible first | exact HB.out | apply below_alloc | apply pw_below_drewN | apply below_drew1) | exact HB.out))) : w.heap.size ≤ gb212)); clear HB; have HB := n0_; have BK212 := n1_; have GW212 := n2_; have GE212 := n3_; clear n0_ n1_ n2_ n3_; clear hb hbox hg; obtain ⟨hcz19_0, hcz19_1, hcz19_2⟩ := cel3 BK212.out; obtain ⟨hfz19_0, hfz19_1, hfz19_2⟩ := frz3 BK212.out))
           have n0_ : Aside0 ((((w18.setCell ⟨gb212, 0, none⟩ (.int .i64 t208)).setCell ⟨gb212, 1, none⟩ (.int .i64 t209)).setCell ⟨gb212, 2, none⟩ (.int .i64 t210)).heap[gb212]? = some (.cells #[.int .i64 t208, .int .i64 t209, .int .i64 t210] 25 (0, 0))) := ⟨by (with_reducible repeat (first | refine blk_drewN ?_ _ | refine blk_drew ?_ | refine blk_alloc ?_ _)); refine blk_put (cs := #[.int .i64 t208, .int .i64 t209, .int .i64 0]) ?_ 2 _ rfl; (with_reducible repeat (first | refine blk_drewN ?_ _ | refine blk_drew ?_ | refine blk_alloc ?_ _)); refine blk_put (cs := #[.int .i64 t208, .int .i64 0, .int .i64 0]) ?_ 1 _ rfl; (with_reducible repeat (first | refine blk_drewN ?_ _ | refine blk_drew ?_ | refine blk_alloc ?_ _)); refine blk_put (cs := #[.int .i64 0, .int .i64 0, .int .i64 0]) ?_ 0 _ rfl; (with_reducible repeat (first | refine blk_drewN ?_ _ | refine blk_drew ?_ | refine blk_alloc ?_ _)); exact BK212.out⟩
           have n1_ : Aside0 (Below w.heap.size w (((w18.setCell ⟨gb212, 0, none⟩ (.int .i64 t208)).setCell ⟨gb212, 1, none⟩ (.int .i64 t209)).setCell ⟨gb212, 2, none⟩ (.int .i64 t210))) := ⟨by repeat (first | (with_reducible first | exact HB.out | apply below_alloc | apply pw_below_drewN | apply below_drew1 | refine below_set ?_ GE212.out) | exact HB.out)⟩
           (try clear BK212)
           (try clear HB)
           generalize (((w18.setCell ⟨gb212, 0, none⟩ (.int .i64 t208)).setCell ⟨gb212, 1, none⟩ (.int .i64 t209)).setCell ⟨gb212, 2, none⟩ (.int .i64 t210)) = w20 at n0_ n1_ ⊢
           have BK212 := n0_
           have HB := n1_
           clear n0_ n1_
           have n0_ := Aside0.mk (blk_drew BK212.out)
           have n1_ := Aside0.mk (below_drew1 HB.out)
           clear BK212
           clear HB
           have BK212 := n0_
           have HB := n1_
           clear n0_ n1_
           have p213 : 0 ≤ (0 : Int) := (by omega)
           have q213 : 0 < (l0.length : Int) := of_decide_eq_true (by first | (with_reducible assumption) | assumption)
           obtain ⟨ad213, e213, hx213_0, hx213_1, hx213_2, hx213_3, hx213_4, hx213_5, hx213_6⟩ := at_T53 HR0.out 0 p213 q213
           have hw213_6 := hx213_6
           (try rw [show ((0 : Int)).toNat = 0 from rfl] at hw213_6)
           (try rw [show 0 * 7 = 0 from rfl] at hw213_6)
           (try rw [Addr.add_zero'] at hw213_6)
           have hw213_5 := hx213_5
           (try rw [show ((0 : Int)).toNat = 0 from rfl] at hw213_5)
           (try rw [show 0 * 7 = 0 from rfl] at hw213_5)
           (try rw [Addr.add_zero'] at hw213_5)
           have hw213_4 := hx213_4
           (try rw [show ((0 : Int)).toNat = 0 from rfl] at hw213_4)
           (try rw [show 0 * 7 = 0 from rfl] at hw213_4)
           (try rw [Addr.add_zero'] at hw213_4)
           have hw213_3 := hx213_3
           (try rw [show ((0 : Int)).toNat = 0 from rfl] at hw213_3)
           (try rw [show 0 * 7 = 0 from rfl] at hw213_3)
           (try rw [Addr.add_zero'] at hw213_3)
           have hw213_2 := hx213_2
           (try rw [show ((0 : Int)).toNat = 0 from rfl] at hw213_2)
           (try rw [show 0 * 7 = 0 from rfl] at hw213_2)
           (try rw [Addr.add_zero'] at hw213_2)
           have hw213_1 := hx213_1
           (try rw [show ((0 : Int)).toNat = 0 from rfl] at hw213_1)
           (try rw [show 0 * 7 = 0 from rfl] at hw213_1)
           (try rw [Addr.add_zero'] at hw213_1)
           have hw213_0 := hx213_0
           (try rw [show ((0 : Int)).toNat = 0 from rfl] at hw213_0)
           (try rw [show 0 * 7 = 0 from rfl] at hw213_0)
           (try rw [Addr.add_zero'] at hw213_0)
           cases e213
           have qi213 : (0 < l0.length) = True := eq_true (by omega)
           (try rw [show ((0 : Int)).toNat = 0 from rfl] at hx213_0)
           (try rw [show 0 * 7 = 0 from rfl] at hx213_0)
           (try rw [Addr.add_zero'] at hx213_0)
           (try rw [show ((0 : Int)).toNat = 0 from rfl] at hx213_1)
           (try rw [show 0 * 7 = 0 from rfl] at hx213_1)
           (try rw [Addr.add_zero'] at hx213_1)
           (try rw [show ((0 : Int)).toNat = 0 from rfl] at hx213_2)
           (try rw [show 0 * 7 = 0 from rfl] at hx213_2)
           (try rw [Addr.add_zero'] at hx213_2)
           (try rw [show ((0 : Int)).toNat = 0 from rfl] at hx213_3)
           (try rw [show 0 * 7 = 0 from rfl] at hx213_3)
           (try rw [Addr.add_zero'] at hx213_3)
           (try rw [show ((0 : Int)).toNat = 0 from rfl] at hx213_4)
           (try rw [show 0 * 7 = 0 from rfl] at hx213_4)
           (try rw [Addr.add_zero'] at hx213_4)
           (try rw [show ((0 : Int)).toNat = 0 from rfl] at hx213_5)
           (try rw [show 0 * 7 = 0 from rfl] at hx213_5)
           (try rw [Addr.add_zero'] at hx213_5)
           (try rw [show ((0 : Int)).toNat = 0 from rfl] at hx213_6)
           (try rw [show 0 * 7 = 0 from rfl] at hx213_6)
           (try rw [Addr.add_zero'] at hx213_6)
           replace hx213_0 := upc HB.out hx213_0
           replace hx213_1 := upc HB.out hx213_1
           replace hx213_2 := upc HB.out hx213_2
           replace hx213_3 := upc HB.out hx213_3
           replace hx213_4 := upc HB.out hx213_4
           replace hx213_5 := upc HB.out hx213_5
           replace hx213_6 := upc HB.out hx213_6
           replace p213 := eq_true p213
           replace q213 := eq_true q213
           have p214 : 0 ≤ ((ji14) : Int) := of_decide_eq_true (by first | (with_reducible assumption) | assumption)
           have q214 : (ji14) < (l0.length : Int) := of_decide_eq_true (by first | (with_reducible assumption) | assumption)
           obtain ⟨ad214, e214, hx214_0, hx214_1, hx214_2, hx214_3, hx214_4, hx214_5, hx214_6⟩ := at_T53 HR0.out (ji14) p214 q214
           have hw214_6 := hx214_6
           have hw214_5 := hx214_5
           have hw214_4 := hx214_4
           have hw214_3 := hx214_3
           have hw214_2 := hx214_2
           have hw214_1 := hx214_1
           have hw214_0 := hx214_0
           obtain rfl : ad213 = ad214 := (by injection e214)
           replace hx214_0 := upc HB.out hx214_0
           replace hx214_1 := upc HB.out hx214_1
           replace hx214_2 := upc HB.out hx214_2
           replace hx214_3 := upc HB.out hx214_3
           replace hx214_4 := upc HB.out hx214_4
           replace hx214_5 := upc HB.out hx214_5
           replace hx214_6 := upc HB.out hx214_6
           replace p214 := eq_true p214
           replace q214 := eq_true q214
           refine start_ (n := 22) (S := fun w' => w'.cell? ⟨gb212, 0, none⟩ = some (.int .i64 t208) ∧ w'.cell? ⟨gb212, 1, none⟩ = some (.int .i64 t209) ∧ w'.cell? ⟨gb212, 2, none⟩ = some (.int .i64 t210) ∧ w'.cell? ad213 = some (.int .i64 ((rd_T53 l0 0).f0)) ∧ w'.cell? ⟨ad213.block, ad213.off + 1, none⟩ = some (.int .i64 ((rd_T53 l0 0).f1)) ∧ w'.cell? ⟨ad213.block, ad213.off + 2, none⟩ = some (.int .i64 ((rd_T53 l0 0).f2)) ∧ w'.cell? ⟨ad213.block, ad213.off + 3, none⟩ = some (.int .i64 ((rd_T53 l0 0).f3)) ∧ w'.cell? ⟨ad213.block, ad213.off + 4, none⟩ = some (.int .i64 ((rd_T53 l0 0).f4)) ∧ w'.cell? ⟨ad213.block, ad213.off + 5, none⟩ = some (.int .i64 ((rd_T53 l0 0).f5)) ∧ w'.cell? ⟨ad213.block, ad213.off + 6, none⟩ = some (.int .i64 ((rd_T53 l0 0).f6)) ∧ w'.cell? (ad213.add (((ji14)).toNat * 7)) = some (.int .i64 ((rd_T53 l0 (ji14)).f0)) ∧ w'.cell? ⟨(ad213.add (((ji14)).toNat * 7)).block, (ad213.add (((ji14)).toNat * 7)).off + 1, none⟩ = some (.int .i64 ((rd_T53 l0 (ji14)).f1)) ∧ w'.cell? ⟨(ad213.add (((ji14)).toNat * 7)).block, (ad213.add (((ji14)).toNat * 7)).off + 2, none⟩ = some (.int .i64 ((rd_T53 l0 (ji14)).f2)) ∧ w'.cell? ⟨(ad213.add (((ji14)).toNat * 7)).block, (ad213.add (((ji14)).toNat * 7)).off + 3, none⟩ = some (.int .i64 ((rd_T53 l0 (ji14)).f3)) ∧ w'.cell? ⟨(ad213.add (((ji14)).toNat * 7)).block, (ad213.add (((ji14)).toNat * 7)).off + 4, none⟩ = some (.int .i64 ((rd_T53 l0 (ji14)).f4)) ∧ w'.cell? ⟨(ad213.add (((ji14)).toNat * 7)).block, (ad213.add (((ji14)).toNat * 7)).off + 5, none⟩ = some (.int .i64 ((rd_T53 l0 (ji14)).f5)) ∧ w'.cell? ⟨(ad213.add (((ji14)).toNat * 7)).block, (ad213.add (((ji14)).toNat * 7)).off + 6, none⟩ = some (.int .i64 ((rd_T53 l0 (ji14)).f6))) (ds := []) #[false, false, false, false, false, false, false, false, false, false, false, false, false, false, false, false, false, false, false, false, false, false] (by kernel_rfl) rfl rfl ⟨(blk_cell BK212.out 0).trans rfl, (blk_cell BK212.out 1).trans rfl, (blk_cell BK212.out 2).trans rfl, ((HB.out.cell (World.block_lt_of_cell? w _ hw213_0)).trans hw213_0), ((HB.out.cell (World.block_lt_of_cell? w _ hw213_1)).trans hw213_1), ((HB.out.cell (World.block_lt_of_cell? w _ hw213_2)).trans hw213_2), ((HB.out.cell (World.block_lt_of_cell? w _ hw213_3)).trans hw213_3), ((HB.out.cell (World.block_lt_of_cell? w _ hw213_4)).trans hw213_4), ((HB.out.cell (World.block_lt_of_cell? w _ hw213_5)).trans hw213_5), ((HB.out.cell (World.block_lt_of_cell? w _ hw213_6)).trans hw213_6), ((HB.out.cell (World.block_lt_of_cell? w _ hw214_0)).trans hw214_0), ((HB.out.cell (World.block_lt_of_cell? w _ hw214_1)).trans hw214_1), ((HB.out.cell (World.block_lt_of_cell? w _ hw214_2)).trans hw214_2), ((HB.out.cell (World.block_lt_of_cell? w _ hw214_3)).trans hw214_3), ((HB.out.cell (World.block_lt_of_cell? w _ hw214_4)).trans hw214_4), ((HB.out.cell (World.block_lt_of_cell? w _ hw214_5)).trans hw214_5), ((HB.out.cell (World.block_lt_of_cell? w _ hw214_6)).trans hw214_6)⟩ (fun hHeld => ?_); refine with_tabW masterdiscref10_Entries.tab4 masterdiscref10_Entries.bits4 (fun HT_ HW_ => ?_)
           generalize w20.drew = w21 at BK212 HB hx213_0 hx213_1 hx213_2 hx213_3 hx213_4 hx213_5 hx213_6 hx214_0 hx214_1 hx214_2 hx214_3 hx214_4 hx214_5 hx214_6 hHeld ⊢
           refine pure_ (i := 0) (N := some 29) (v := ?_) (a' := ?_) (mS 22 1) rfl rfl (any_of HT_.out (by kernel_rfl)) (fun _ _ _ h => h) (Or.inl ⟨by rfl, ?_⟩) ?_ ?_
           rotate_left
           · intro w'
             go_simp
             with_reducible rfl
           rotate_left
           · simp only [Act.put, List.setIfInBounds_toArray, List.set_cons_zero, List.set_cons_succ, i64_w, i32_w]
             rfl
           refine pure_ (i := 1) (N := some 30) (v := ?_) (a' := ?_) (mS 22 3) rfl rfl (any_of HT_.out (by kernel_rfl)) (fun _ _ _ h => h) (Or.inl ⟨by rfl, ?_⟩) ?_ ?_
           rotate_left
           · intro w'
             go_simp
             with_reducible rfl
           rotate_left
           · simp only [Act.put, List.setIfInBounds_toArray, List.set_cons_zero, List.set_cons_succ, i64_w, i32_w]
             rfl
           refine pure_ (i := 2) (N := some 31) (v := ?_) (a' := ?_) (mS 22 7) rfl rfl (any_of HT_.out (by kernel_rfl)) (fun _ _ _ h => h) (Or.inl ⟨by rfl, ?_⟩) ?_ ?_
           rotate_left
           · intro w'
             go_simp
             with_reducible rfl
           rotate_left
           · simp only [Act.put, List.setIfInBounds_toArray, List.set_cons_zero, List.set_cons_succ, i64_w, i32_w]
             rfl
           refine pure_ (i := 3) (N := some 32) (v := ?_) (a' := ?_) (mS 22 15) rfl rfl (any_of HT_.out (by kernel_rfl)) (fun _ _ _ h => h) (Or.inl ⟨by rfl, ?_⟩) ?_ ?_
           rotate_left
           · intro w'
             go_simp
             with_reducible rfl
           rotate_left
           · simp only [Act.put, List.setIfInBounds_toArray, List.set_cons_zero, List.set_cons_succ, i64_w, i32_w]
             rfl
           refine pure_ (i := 7) (N := some 36) (v := ?_) (a' := ?_) (mS 22 143) rfl rfl (any_of HT_.out (by kernel_rfl)) (fun _ _ _ h => h) (Or.inl ⟨by rfl, ?_⟩) ?_ ?_
           rotate_left
           · intro w'
             go_simp
             with_reducible rfl
           rotate_left
           · simp only [Act.put, List.setIfInBounds_toArray, List.set_cons_zero, List.set_cons_succ, i64_w, i32_w]
             rfl
           refine pure_ (i := 8) (N := some 37) (v := ?_) (a' := ?_) (mS 22 399) rfl rfl (any_of HT_.out (by kernel_rfl)) (fun _ _ _ h => h) (Or.inl ⟨by rfl, ?_⟩) ?_ ?_
           rotate_left
           · intro w'
             go_simp
             with_reducible rfl
           rotate_left
           · simp only [Act.put, List.setIfInBounds_toArray, List.set_cons_zero, List.set_cons_succ, i64_w, i32_w]
             rfl
           refine pure_ (i := 9) (N := some 38) (v := ?_) (a' := ?_) (mS 22 911) rfl rfl (any_of HT_.out (by kernel_rfl)) (fun _ _ _ h => h) (Or.inl ⟨by rfl, ?_⟩) ?_ ?_
           rotate_left
           · intro w'
             go_simp
             with_reducible rfl
           rotate_left
           · simp only [Act.put, List.setIfInBounds_toArray, List.set_cons_zero, List.set_cons_succ, i64_w, i32_w]
             rfl
           refine pure_ (i := 10) (N := some 39) (v := ?_) (a' := ?_) (mS 22 1935) rfl rfl (any_of HT_.out (by kernel_rfl)) (fun _ _ _ h => h) (Or.inl ⟨by rfl, ?_⟩) ?_ ?_
           rotate_left
           · intro w'
             go_simp
             with_reducible rfl
           rotate_left
           · simp only [Act.put, List.setIfInBounds_toArray, List.set_cons_zero, List.set_cons_succ, i64_w, i32_w]
             rfl
           refine pure_ (i := 11) (N := some 40) (v := ?_) (a' := ?_) (mS 22 3983) rfl rfl (any_of HT_.out (by kernel_rfl)) (fun _ _ _ h => h) (Or.inl ⟨by rfl, ?_⟩) ?_ ?_
           rotate_left
           · intro w'
             go_simp
             with_reducible rfl
           rotate_left
           · simp only [Act.put, List.setIfInBounds_toArray, List.set_cons_zero, List.set_cons_succ, i64_w, i32_w]
             rfl
           refine pure_ (i := 12) (N := some 41) (v := ?_) (a' := ?_) (mS 22 8079) rfl rfl (any_of HT_.out (by kernel_rfl)) (fun _ _ _ h => h) (Or.inl ⟨by rfl, ?_⟩) ?_ ?_
           rotate_left
           · intro w'
             go_simp
             with_reducible rfl
           rotate_left
           · simp only [Act.put, List.setIfInBounds_toArray, List.set_cons_zero, List.set_cons_succ, i64_w, i32_w]
             rfl
           refine pure_ (i := 13) (N := some 42) (v := ?_) (a' := ?_) (mS 22 16271) rfl rfl (any_of HT_.out (by kernel_rfl)) (fun _ _ _ h => h) (Or.inl ⟨by rfl, ?_⟩) ?_ ?_
           rotate_left
           · intro w'
             go_simp
             with_reducible rfl
           rotate_left
           · simp only [Act.put, List.setIfInBounds_toArray, List.set_cons_zero, List.set_cons_succ, i64_w, i32_w]
             rfl
           refine pure_ (i := 17) (N := some 46) (v := ?_) (a' := ?_) (mS 22 147343) rfl rfl (any_of HT_.out (by kernel_rfl)) (fun _ _ _ h => h) (Or.inl ⟨by rfl, ?_⟩) ?_ ?_
           rotate_left
           · intro w'
             go_simp
             with_reducible rfl
           rotate_left
           · simp only [Act.put, List.setIfInBounds_toArray, List.set_cons_zero, List.set_cons_succ, i64_w, i32_w]
             rfl
           refine take_ (i := 4) (N := some 33) (v := ?_) (a' := ?_) (mS 22 147359) rfl rfl (take_ofW HT_.out HW_.out (by kernel_rfl)) (fun _ _ _ h => h) (Or.inl ⟨by rfl, ?_⟩) hHeld ?_ ?_
           rotate_left
           · rintro w' ⟨s0, s1, s2, s3, s4, s5, s6, s7, s8, s9, s10, s11, s12, s13, s14, s15, s16⟩
             go_simp
             with_reducible rfl
           rotate_left
           · simp only [Act.put, List.setIfInBounds_toArray, List.set_cons_zero, List.set_cons_succ, i64_w, i32_w]
             rfl
           refine pure_ (i := 5) (N := some 34) (v := ?_) (a' := ?_) (mS 22 147391) rfl rfl (any_of HT_.out (by kernel_rfl)) (fun _ _ _ h => h) (Or.inl ⟨by rfl, ?_⟩) ?_ ?_
           rotate_left
           · intro w'
             go_simp
             with_reducible rfl
           rotate_left
           · simp only [Act.put, List.setIfInBounds_toArray, List.set_cons_zero, List.set_cons_succ, i64_w, i32_w]
             rfl
           refine pure_ (i := 6) (N := some 35) (v := ?_) (a' := ?_) (mS 22 147455) rfl rfl (any_of HT_.out (by kernel_rfl)) (fun _ _ _ h => h) (Or.inl ⟨by rfl, ?_⟩) ?_ ?_
           rotate_left
           · intro w'
             go_simp
             with_reducible rfl
           rotate_left
           · simp only [Act.put, List.setIfInBounds_toArray, List.set_cons_zero, List.set_cons_succ, i64_w, i32_w]
             rfl
           refine take_ (i := 14) (N := some 43) (v := ?_) (a' := ?_) (mS 22 163839) rfl rfl (take_ofW HT_.out HW_.out (by kernel_rfl)) (fun _ _ _ h => h) (Or.inl ⟨by rfl, ?_⟩) hHeld ?_ ?_
           rotate_left
           · rintro w' ⟨s0, s1, s2, s3, s4, s5, s6, s7, s8, s9, s10, s11, s12, s13, s14, s15, s16⟩
             go_simp
             with_reducible rfl
           rotate_left
           · simp only [Act.put, List.setIfInBounds_toArray, List.set_cons_zero, List.set_cons_succ, i64_w, i32_w]
             rfl
           refine pure_ (i := 15) (N := some 44) (v := ?_) (a' := ?_) (mS 22 196607) rfl rfl (any_of HT_.out (by kernel_rfl)) (fun _ _ _ h => h) (Or.inl ⟨by rfl, ?_⟩) ?_ ?_
           rotate_left
           · intro w'
             go_simp
             with_reducible rfl
           rotate_left
           · simp only [Act.put, List.setIfInBounds_toArray, List.set_cons_zero, List.set_cons_succ, i64_w, i32_w]
             rfl
           refine pure_ (i := 16) (N := some 45) (v := ?_) (a' := ?_) (mS 22 262143) rfl rfl (any_of HT_.out (by kernel_rfl)) (fun _ _ _ h => h) (Or.inl ⟨by rfl, ?_⟩) ?_ ?_
           rotate_left
           · intro w'
             go_simp
             with_reducible rfl
           rotate_left
           · simp only [Act.put, List.setIfInBounds_toArray, List.set_cons_zero, List.set_cons_succ, i64_w, i32_w]
             rfl
           refine take_ (i := 18) (N := some 47) (v := ?_) (a' := ?_) (mS 22 524287) rfl rfl (take_ofW HT_.out HW_.out (by kernel_rfl)) (fun _ _ _ h => h) (Or.inl ⟨by rfl, ?_⟩) hHeld ?_ ?_
           rotate_left
           · rintro w' ⟨s0, s1, s2, s3, s4, s5, s6, s7, s8, s9, s10, s11, s12, s13, s14, s15, s16⟩
             go_simp
             with_reducible rfl
           rotate_left
           · simp only [Act.put, List.setIfInBounds_toArray, List.set_cons_zero, List.set_cons_succ, i64_w, i32_w]
             rfl
           refine pure_ (i := 19) (N := some 48) (v := ?_) (a' := ?_) (mS 22 1048575) rfl rfl (any_of HT_.out (by kernel_rfl)) (fun _ _ _ h => h) (Or.inl ⟨by rfl, ?_⟩) ?_ ?_
           rotate_left
           · intro w'
             go_simp
             with_reducible rfl
           rotate_left
           · simp only [Act.put, List.setIfInBounds_toArray, List.set_cons_zero, List.set_cons_succ, i64_w, i32_w]
             rfl
           refine one_ (i := 20) (N := some 49) (mS 22 2097151) rfl rfl (one_of HT_.out (by kernel_rfl)) (by decide) (fun K hK => ?_)
           refine Kd.R_lit_step k27 _ 27 ?hg (N := 49) ?hd (xs := ([(⟨a1, 0, 160, (⟨0, 0, 0⟩ : S25), (⟨(rd_T53 l0 0).f0, 0, 0⟩ : S25)⟩ : S27), (⟨a1, 0, 161, (⟨0, 0, 0⟩ : S25), (⟨(rd_T53 l0 (ji14)).f0, 0, 0⟩ : S25)⟩ : S27), (⟨a1, 0, 162, (⟨0, 0, 0⟩ : S25), (⟨t208, t209, t210⟩ : S25)⟩ : S27)] : List (S27))) (inner := [.int .i64 a1, .int .i64 0, .int .i64 160, .int .i64 0, .int .i64 0, .int .i64 0, .int .i64 ((rd_T53 l0 0).f0), .int .i64 0, .int .i64 0, .int .i64 a1, .int .i64 0, .int .i64 161, .int .i64 0, .int .i64 0, .int .i64 0, .int .i64 ((rd_T53 l0 (ji14)).f0), .int .i64 0, .int .i64 0, .int .i64 a1, .int .i64 0, .int .i64 162, .int .i64 0, .int .i64 0, .int .i64 0, .int .i64 t208, .int .i64 t209, .int .i64 t210]) (ok := fun _ => True) (okp := fun _ => True) ?hr ?hp (fun _ hk => hk) trivial (Below.refl _ _) (Nat.le_refl _) (by simp) ?_; (case hd => rfl); (case hg => rfl); (case hr => first | (go_simp; done) | (go_simp; rfl)); (case hp => exact (Reps.c9 (show Kd.M k27 _ _ _ (⟨a1, 0, 160, (⟨0, 0, 0⟩ : S25), (⟨(rd_T53 l0 0).f0, 0, 0⟩ : S25)⟩ : S27) [.int .i64 a1, .int .i64 0, .int .i64 160, .int .i64 0, .int .i64 0, .int .i64 0, .int .i64 ((rd_T53 l0 0).f0), .int .i64 0, .int .i64 0] from (k27_mkM _ _ _ (⟨a1, 0, 160, (⟨0, 0, 0⟩ : S25), (⟨(rd_T53 l0 0).f0, 0, 0⟩ : S25)⟩ : S27) )) (Reps.c9 (show Kd.M k27 _ _ _ (⟨a1, 0, 161, (⟨0, 0, 0⟩ : S25), (⟨(rd_T53 l0 (ji14)).f0, 0, 0⟩ : S25)⟩ : S27) [.int .i64 a1, .int .i64 0, .int .i64 161, .int .i64 0, .int .i64 0, .int .i64 0, .int .i64 ((rd_T53 l0 (ji14)).f0), .int .i64 0, .int .i64 0] from (k27_mkM _ _ _ (⟨a1, 0, 161, (⟨0, 0, 0⟩ : S25), (⟨(rd_T53 l0 (ji14)).f0, 0, 0⟩ : S25)⟩ : S27) )) (Reps.c9 (show Kd.M k27 _ _ _ (⟨a1, 0, 162, (⟨0, 0, 0⟩ : S25), (⟨t208, t209, t210⟩ : S25)⟩ : S27) [.int .i64 a1, .int .i64 0, .int .i64 162, .int .i64 0, .int .i64 0, .int .i64 0, .int .i64 t208, .int .i64 t209, .int .i64 t210] from (k27_mkM _ _ _ (⟨a1, 0, 162, (⟨0, 0, 0⟩ : S25), (⟨t208, t209, t210⟩ : S25)⟩ : S27) )) (Reps.none _ _)))))
           intro v216 w22 ho23 hb hg_ hnew_
           clear hg_ hnew_
           (first | rw [← Ny215.out] at ho23 | (simp only [Int.reduceToNat] at ho23; rw [← Ny215.out] at ho23))
           have n0_ := Aside0.mk (Kd.R_lower ho23 (below_size (by repeat (first | (with_reducible first | exact HB.out | apply below_alloc | apply pw_below_drewN | apply below_drew1 | refine below_set ?_ GE212.out) | exact HB.out))))
           have n1_ := Aside0.mk (blk_below (g := gb212) (o := .cells #[.int .i64 t208, .int .i64 t209, .int .i64 t210] 25 (0, 0)) (by (with_reducible repeat (first | refine blk_drewN ?_ _ | refine blk_drew ?_ | refine blk_alloc ?_ _)); exact BK212.out) hb)
           have n2_ := Aside0.mk (below_step (by repeat (first | (with_reducible first | exact HB.out | apply below_alloc | apply pw_below_drewN | apply below_drew1 | refine below_set ?_ GE212.out) | exact HB.out)) hb)
           clear BK212
           clear HB
           have HO217 := n0_
           have BK212 := n1_
           have HB := n2_
           clear n0_ n1_ n2_
           clear hb ho23
           refine hK.out _ _ ⟨(blk_cell BK212.out 0).trans rfl, (blk_cell BK212.out 1).trans rfl, (blk_cell BK212.out 2).trans rfl, ((HB.out.cell (World.block_lt_of_cell? w _ hw213_0)).trans hw213_0), ((HB.out.cell (World.block_lt_of_cell? w _ hw213_1)).trans hw213_1), ((HB.out.cell (World.block_lt_of_cell? w _ hw213_2)).trans hw213_2), ((HB.out.cell (World.block_lt_of_cell? w _ hw213_3)).trans hw213_3), ((HB.out.cell (World.block_lt_of_cell? w _ hw213_4)).trans hw213_4), ((HB.out.cell (World.block_lt_of_cell? w _ hw213_5)).trans hw213_5), ((HB.out.cell (World.block_lt_of_cell? w _ hw213_6)).trans hw213_6), ((HB.out.cell (World.block_lt_of_cell? w _ hw214_0)).trans hw214_0), ((HB.out.cell (World.block_lt_of_cell? w _ hw214_1)).trans hw214_1), ((HB.out.cell (World.block_lt_of_cell? w _ hw214_2)).trans hw214_2), ((HB.out.cell (World.block_lt_of_cell? w _ hw214_3)).trans hw214_3), ((HB.out.cell (World.block_lt_of_cell? w _ hw214_4)).trans hw214_4), ((HB.out.cell (World.block_lt_of_cell? w _ hw214_5)).trans hw214_5), ((HB.out.cell (World.block_lt_of_cell? w _ hw214_6)).trans hw214_6)⟩ (fun hHeld => ?_)
           clear hK K
           refine norm_ (a' := ?_) ?_ ?_
           rotate_left
           · show Act.put _ (some 49) _ = _
             simp only [Act.put, List.setIfInBounds_toArray, List.set_cons_zero, List.set_cons_succ, i64_w, i32_w]
             rfl
           refine pure_ (i := 21) (N := some 8) (v := ?_) (a' := ?_) (mS 22 4194303) rfl rfl (any_of HT_.out (by kernel_rfl)) (fun _ _ _ h => h) (Or.inl ⟨by rfl, ?_⟩) ?_ ?_
           rotate_left
           · intro w'
             go_simp
             with_reducible rfl
           rotate_left
           · simp only [Act.put, List.setIfInBounds_toArray, List.set_cons_zero, List.set_cons_succ, i64_w, i32_w]
             rfl
           refine done_ (done_of HT_.out (by kernel_rfl)) ?_
           try go_wp2
           go_loopg [8, 9] kj2 (fun kq v8 v9 w' => ∃ (x8_2 : List (S27)) (x9_2 : Int), v9 = .int .i64 x9_2 ∧ Aside0 (masterdiscref10_Entries.l0 kq l0 a1 x8_2 x9_2 = some (r1, r2)) ∧ Aside0 (kq ≤ kj2) ∧ Aside0 (Kd.R k27 27 w' w.heap.size (fun _ => True) v8 x8_2) ∧ Aside0 (w'.heap[gb212]? = some (.cells #[.int .i64 t208, .int .i64 t209, .int .i64 t210] 25 (0, 0))) ∧ Aside0 (Below w.heap.size w w'))
           case atStart => exact ⟨(y215), (0), (by first | rfl | (simp; done) | (simp [*]; done)), H', ⟨Nat.le_refl _⟩, ⟨by (with_reducible repeat (first | apply Kd.R_alloc | apply Kd.R_drewN | apply Kd.R_drew)); exact HO217.out⟩, ⟨by (with_reducible repeat (first | refine blk_drewN ?_ _ | refine blk_drew ?_ | refine blk_alloc ?_ _)); exact BK212.out⟩, ⟨by repeat (first | (with_reducible first | exact HB.out | apply below_alloc | apply pw_below_drewN | apply below_drew1 | refine below_set ?_ GE212.out) | exact HB.out)⟩⟩
           case round =>
            clear H'
            try clear c1
            try clear p2
            try clear q2
            try clear hx2
            try clear qi2
            try clear c3
            try clear c5
            try clear c6
            try clear c6b0
            try clear p6
            try clear c9
            try clear c10
            try clear c13
            try clear c13b0
            try clear c13b1
            try clear c14
            try clear c15
            try clear c15b0
            try clear c16
            try clear c16b0
            try clear p21
            try clear q21
            try clear hx21
            try clear qi21
            try clear hcz19_0
            try clear hcz19_1
            try clear hcz19_2
            try clear hfz19_0
            try clear hfz19_1
            try clear hfz19_2
            try clear hx213_0
            try clear hx213_1
            try clear hx213_2
            try clear hx213_3
            try clear hx213_4
            try clear hx213_5
            try clear hx213_6
            try clear hx214_0
            try clear hx214_1
            try clear hx214_2
            try clear hx214_3
            try clear hx214_4
            try clear hx214_5
            try clear hx214_6
            try clear p2
            try clear p213
            try clear p214
            try clear q213
            try clear q214
            obtain ⟨x8_2, x9_2, rfl, HA, HK2, HO_8, BK212, HB⟩ := hrel
            cases gk with
            | zero => exact absurd HA.out (by simp [masterdiscref10_Entries.l0])
            | succ k2 =>
             have H := HA.out
             clear HA
             simp only [masterdiscref10_Entries.l0] at H
             by_cases c24 : x9_2 < (l0.length : Int)
             · rw [if_pos c24] at H
               have c24b0 : decide (x9_2 < (l0.length : Int)) = true := decide_eq_true c24
               clear c24
               by_cases c25 : 0 ≤ x9_2
               · rw [if_pos c25] at H
                 have c25b0 : decide (0 ≤ x9_2) = true := decide_eq_true c25
                 clear c25
                 replace H := Option.bind_eq_some_iff.mp H
                 obtain ⟨⟨t219, t220, t221, t222⟩, A260, H⟩ := H
                 replace H : (if x8_2.length < 1954687338268 then (masterdiscref10_Entries.l0 k2 l0 a1 (x8_2 ++ [(⟨a1, 0, (rd_T53 l0 x9_2).f0, (⟨0, 0, 0⟩ : S25), (⟨t219, t220, t221⟩ : S25)⟩ : S27)]) (wrap64 (x9_2 + 1))) else (none)) = some (r1, r2) := H
                 have A26 := Aside0.mk A260
                 clear A260
                 by_cases c27 : x8_2.length < 1954687338268
                 · rw [if_pos c27] at H
                   have LMc27 := Aside0.mk c27
                   clear c27
                   obtain ⟨y225, hy225⟩ : ∃ y_ : List (S27), y_ = (x8_2 ++ [(⟨a1, 0, (rd_T53 l0 x9_2).f0, (⟨0, 0, 0⟩ : S25), (⟨t219, t220, t221⟩ : S25)⟩ : S27)]) := ⟨_, rfl⟩
                   replace H : (masterdiscref10_Entries.l0 k2 l0 a1 y225 (wrap64 (x9_2 + 1))) = some (r1, r2) := by first | (rw [hy225]; with_reducible exact H) | (have H2_ := (Option.bind_some _ _).symm.trans H; rw [hy225]; with_reducible exact H2_) | (have H2_ := (Option.bind_some _ _).symm.trans H; with_reducible exact H2_) | with_reducible exact H | (rw [hy225]; exact H) | exact H
                   have Ny225 := Aside0.mk hy225
                   clear hy225
                   have H' := Aside0.mk H
                   clear H
                   have p218 : 0 ≤ (x9_2 : Int) := of_decide_eq_true (by first | (with_reducible assumption) | assumption)
                   have q218 : x9_2 < (l0.length : Int) := of_decide_eq_true (by first | (with_reducible assumption) | assumption)
                   obtain ⟨ad218, e218, hx218_0, hx218_1, hx218_2, hx218_3, hx218_4, hx218_5, hx218_6⟩ := at_T53 HR0.out x9_2 p218 q218
                   obtain rfl : ad213 = ad218 := (by injection e218)
                   replace hx218_0 := upc HB.out hx218_0
                   replace hx218_1 := upc HB.out hx218_1
                   replace hx218_2 := upc HB.out hx218_2
                   replace hx218_3 := upc HB.out hx218_3
                   replace hx218_4 := upc HB.out hx218_4
                   replace hx218_5 := upc HB.out hx218_5
                   replace hx218_6 := upc HB.out hx218_6
                   replace p218 := eq_true p218
                   replace q218 := eq_true q218
                   try go_wp2_with (first | ((with_reducible refine gate_callee (f := 33) rfl ?_); refine goesL_ (some 62) rfl rfl Try.func33 (by kernel_rfl) rfl #[.int .i64 ((rd_T53 l0 x9_2).f2)] rfl (by (try simp only [List.map_toArray, List.map_cons, List.map_nil]); first | done | rfl | (simp only [List.length_drop, List.length_take]; rfl)) ?_; (with_reducible refine (masterdiscref06_ToMSF.calls ((rd_T53 l0 x9_2).f2) t219 t220 t221 t222 _ A26.out).mono ?_); rintro e w28 ⟨rfl, hb⟩; refine ⟨_, rfl, ?_⟩; have n0_ := Aside0.mk (Kd.R_below (by (with_reducible repeat (first | apply Kd.R_alloc | apply Kd.R_drewN | apply Kd.R_drew)); exact HO_8.out) hb); have n1_ := Aside0.mk (blk_below (g := gb212) (o := .cells #[.int .i64 t208, .int .i64 t209, .int .i64 t210] 25 (0, 0)) (by (with_reducible repeat (first | refine blk_drewN ?_ _ | refine blk_drew ?_ | refine blk_alloc ?_ _)); exact BK212.out) hb); have n2_ := Aside0.mk (below_step (by repeat (first | (with_reducible first | exact HB.out | apply below_alloc | apply pw_below_drewN | apply below_drew1 | refine below_set ?_ GE212.out) | exact HB.out)) hb); clear HO_8; clear BK212; clear HB; have HO_8 := n0_; have BK212 := n1_; have HB := n2_; clear n0_ n1_ n2_; (try clear hb); (try clear hb2); (try clear hk); (try clear hi)) | ((with_reducible refine gate_dst (N := 10) rfl ?_); refine box_event ?hg (N := 10) ?hd (cs := #[.int .i64 0, .int .i64 0, .int .i64 0]) (t := 25) ?hr ?_; (case hd => rfl); (case hg => rfl); (case hr => first | (go_simp; done) | (go_simp; rfl)); intro gb223 hg w29 hbox hb; have n0_ := Aside0.mk (Kd.R_below (by (with_reducible repeat (first | apply Kd.R_alloc | apply Kd.R_drewN | apply Kd.R_drew)); exact HO_8.out) hb); have n1_ := Aside0.mk (blk_below (g := gb212) (o := .cells #[.int .i64 t208, .int .i64 t209, .int .i64 t210] 25 (0, 0)) (by (with_reducible repeat (first | refine blk_drewN ?_ _ | refine blk_drew ?_ | refine blk_alloc ?_ _)); exact BK212.out) hb); have n2_ := Aside0.mk (below_step (by repeat (first | (with_reducible first | exact HB.out | apply below_alloc | apply pw_below_drewN | apply below_drew1 | refine below_set ?_ GE212.out) | exact HB.out)) hb); have n3_ := Aside0.mk (hbox); have n4_ := Aside0.mk ((by rw [hg]; exact (below_size (by repeat (first | (with_reducible first | exact HB.out | apply below_alloc | apply pw_below_drewN | apply below_drew1 | refine below_set ?_ GE212.out) | exact HB.out))) : w.heap.size ≤ gb223)); have n5_ := Aside0.mk ((by rw [hg]; exact (below_size (by repeat (first | (with_reducible first | exact HB.out | apply below_alloc | apply pw_below_drewN | apply below_drew1 | refine below_set ?_ GE212.out) | exact HB.out))) : w.heap.size ≤ gb223)); have n6_ := Aside0.mk ((by rw [hg]; exact Nat.ne_of_lt (blk_lt (g := gb212) (o := .cells #[.int .i64 t208, .int .i64 t209, .int .i64 t210] 25 (0, 0)) (by (with_reducible repeat (first | refine blk_drewN ?_ _ | refine blk_drew ?_ | refine blk_alloc ?_ _)); exact BK212.out)) : gb212 ≠ gb223)); have n7_ := Aside0.mk ((by rw [hg]; exact Nat.ne_of_gt (blk_lt (g := gb212) (o := .cells #[.int .i64 t208, .int .i64 t209, .int .i64 t210] 25 (0, 0)) (by (with_reducible repeat (first | refine blk_drewN ?_ _ | refine blk_drew ?_ | refine blk_alloc ?_ _)); exact BK212.out)) : gb223 ≠ gb212)); clear HO_8; clear BK212; clear HB; have HO_8 := n0_; have BK212 := n1_; have HB := n2_; have BK223 := n3_; have GW223 := n4_; have GE223 := n5_; have NB212_223 := n6_; have NB223_212 := n7_; clear n0_ n1_ n2_ n3_ n4_ n5_ n6_ n7_; clear hb hbox hg; have hnb30 := NB223_212.out; have hnc30 := NB212_223.out; obtain ⟨hcz31_0, hcz31_1, hcz31_2⟩ := cel3 BK223.out; obtain ⟨hfz31_0, hfz31_1, hfz31_2⟩ := frz3 BK223.out))
                   have n0_ : Aside0 (Kd.R k27 27 (((w29.setCell ⟨gb223, 0, none⟩ (.int .i64 t219)).setCell ⟨gb223, 1, none⟩ (.int .i64 t220)).setCell ⟨gb223, 2, none⟩ (.int .i64 t221)) w.heap.size (fun _ => True) u8 x8_2) := ⟨by (with_reducible repeat (first | apply Kd.R_alloc | apply Kd.R_drewN | apply Kd.R_drew)); exact Kd.R_mono (Kd.R_far (p := ⟨gb223, 2, none⟩) (Kd.R_far (p := ⟨gb223, 1, none⟩) (Kd.R_far (p := ⟨gb223, 0, none⟩) (Kd.R_types HO_8.out BK223.out (by decide)) (fun _ hk => hk.2) (.int .i64 t219)) (fun _ hk => hk.2) (.int .i64 t220)) (fun _ hk => hk.2) (.int .i64 t221)) (fun _ hk => trivial)⟩
                   have n1_ : Aside0 ((((w29.setCell ⟨gb223, 0, none⟩ (.int .i64 t219)).setCell ⟨gb223, 1, none⟩ (.int .i64 t220)).setCell ⟨gb223, 2, none⟩ (.int .i64 t221)).heap[gb212]? = some (.cells #[.int .i64 t208, .int .i64 t209, .int .i64 t210] 25 (0, 0))) := ⟨by (with_reducible repeat (first | refine blk_drewN ?_ _ | refine blk_drew ?_ | refine blk_alloc ?_ _)); refine blk_far ?_ NB212_223.out _; (with_reducible repeat (first | refine blk_drewN ?_ _ | refine blk_drew ?_ | refine blk_alloc ?_ _)); refine blk_far ?_ NB212_223.out _; (with_reducible repeat (first | refine blk_drewN ?_ _ | refine blk_drew ?_ | refine blk_alloc ?_ _)); refine blk_far ?_ NB212_223.out _; (with_reducible repeat (first | refine blk_drewN ?_ _ | refine blk_drew ?_ | refine blk_alloc ?_ _)); exact BK212.out⟩
                   have n2_ : Aside0 ((((w29.setCell ⟨gb223, 0, none⟩ (.int .i64 t219)).setCell ⟨gb223, 1, none⟩ (.int .i64 t220)).setCell ⟨gb223, 2, none⟩ (.int .i64 t221)).heap[gb223]? = some (.cells #[.int .i64 t219, .int .i64 t220, .int .i64 t221] 25 (0, 0))) := ⟨by (with_reducible repeat (first | refine blk_drewN ?_ _ | refine blk_drew ?_ | refine blk_alloc ?_ _)); refine blk_put (cs := #[.int .i64 t219, .int .i64 t220, .int .i64 0]) ?_ 2 _ rfl; (with_reducible repeat (first | refine blk_drewN ?_ _ | refine blk_drew ?_ | refine blk_alloc ?_ _)); refine blk_put (cs := #[.int .i64 t219, .int .i64 0, .int .i64 0]) ?_ 1 _ rfl; (with_reducible repeat (first | refine blk_drewN ?_ _ | refine blk_drew ?_ | refine blk_alloc ?_ _)); refine blk_put (cs := #[.int .i64 0, .int .i64 0, .int .i64 0]) ?_ 0 _ rfl; (with_reducible repeat (first | refine blk_drewN ?_ _ | refine blk_drew ?_ | refine blk_alloc ?_ _)); exact BK223.out⟩
                   have n3_ : Aside0 (Below w.heap.size w (((w29.setCell ⟨gb223, 0, none⟩ (.int .i64 t219)).setCell ⟨gb223, 1, none⟩ (.int .i64 t220)).setCell ⟨gb223, 2, none⟩ (.int .i64 t221))) := ⟨by repeat (first | (with_reducible first | exact HB.out | apply below_alloc | apply pw_below_drewN | apply below_drew1 | refine below_set ?_ GE212.out | refine below_set ?_ GE223.out) | exact HB.out)⟩
                   (try clear HO_8)
                   (try clear BK212)
                   (try clear BK223)
                   (try clear HB)
                   generalize (((w29.setCell ⟨gb223, 0, none⟩ (.int .i64 t219)).setCell ⟨gb223, 1, none⟩ (.int .i64 t220)).setCell ⟨gb223, 2, none⟩ (.int .i64 t221)) = w32 at n0_ n1_ n2_ n3_ ⊢
                   have HO_8 := n0_
                   have BK212 := n1_
                   have BK223 := n2_
                   have HB := n3_
                   clear n0_ n1_ n2_ n3_
                   have n0_ := Aside0.mk (Kd.R_drew HO_8.out)
                   have n1_ := Aside0.mk (blk_drew BK212.out)
                   have n2_ := Aside0.mk (blk_drew BK223.out)
                   have n3_ := Aside0.mk (below_drew1 HB.out)
                   clear HO_8
                   clear BK212
                   clear BK223
                   clear HB
                   have HO_8 := n0_
                   have BK212 := n1_
                   have BK223 := n2_
                   have HB := n3_
                   clear n0_ n1_ n2_ n3_
                   have p224 : 0 ≤ (x9_2 : Int) := of_decide_eq_true (by first | (with_reducible assumption) | assumption)
                   have q224 : x9_2 < (l0.length : Int) := of_decide_eq_true (by first | (with_reducible assumption) | assumption)
                   obtain ⟨ad224, e224, hx224_0, hx224_1, hx224_2, hx224_3, hx224_4, hx224_5, hx224_6⟩ := at_T53 HR0.out x9_2 p224 q224
                   have hw224_6 := hx224_6
                   have hw224_5 := hx224_5
                   have hw224_4 := hx224_4
                   have hw224_3 := hx224_3
                   have hw224_2 := hx224_2
                   have hw224_1 := hx224_1
                   have hw224_0 := hx224_0
                   obtain rfl : ad213 = ad224 := (by injection e224)
                   replace hx224_0 := upc HB.out hx224_0
                   replace hx224_1 := upc HB.out hx224_1
                   replace hx224_2 := upc HB.out hx224_2
                   replace hx224_3 := upc HB.out hx224_3
                   replace hx224_4 := upc HB.out hx224_4
                   replace hx224_5 := upc HB.out hx224_5
                   replace hx224_6 := upc HB.out hx224_6
                   replace p224 := eq_true p224
                   replace q224 := eq_true q224
                   refine start_ (n := 12) (S := fun w' => w'.cell? ⟨gb223, 0, none⟩ = some (.int .i64 t219) ∧ w'.cell? ⟨gb223, 1, none⟩ = some (.int .i64 t220) ∧ w'.cell? ⟨gb223, 2, none⟩ = some (.int .i64 t221) ∧ w'.cell? (ad213.add ((x9_2).toNat * 7)) = some (.int .i64 ((rd_T53 l0 x9_2).f0)) ∧ w'.cell? ⟨(ad213.add ((x9_2).toNat * 7)).block, (ad213.add ((x9_2).toNat * 7)).off + 1, none⟩ = some (.int .i64 ((rd_T53 l0 x9_2).f1)) ∧ w'.cell? ⟨(ad213.add ((x9_2).toNat * 7)).block, (ad213.add ((x9_2).toNat * 7)).off + 2, none⟩ = some (.int .i64 ((rd_T53 l0 x9_2).f2)) ∧ w'.cell? ⟨(ad213.add ((x9_2).toNat * 7)).block, (ad213.add ((x9_2).toNat * 7)).off + 3, none⟩ = some (.int .i64 ((rd_T53 l0 x9_2).f3)) ∧ w'.cell? ⟨(ad213.add ((x9_2).toNat * 7)).block, (ad213.add ((x9_2).toNat * 7)).off + 4, none⟩ = some (.int .i64 ((rd_T53 l0 x9_2).f4)) ∧ w'.cell? ⟨(ad213.add ((x9_2).toNat * 7)).block, (ad213.add ((x9_2).toNat * 7)).off + 5, none⟩ = some (.int .i64 ((rd_T53 l0 x9_2).f5)) ∧ w'.cell? ⟨(ad213.add ((x9_2).toNat * 7)).block, (ad213.add ((x9_2).toNat * 7)).off + 6, none⟩ = some (.int .i64 ((rd_T53 l0 x9_2).f6))) (ds := []) #[false, false, false, false, false, false, false, false, false, false, false, false] (by kernel_rfl) rfl rfl ⟨(blk_cell BK223.out 0).trans rfl, (blk_cell BK223.out 1).trans rfl, (blk_cell BK223.out 2).trans rfl, ((HB.out.cell (World.block_lt_of_cell? w _ hw224_0)).trans hw224_0), ((HB.out.cell (World.block_lt_of_cell? w _ hw224_1)).trans hw224_1), ((HB.out.cell (World.block_lt_of_cell? w _ hw224_2)).trans hw224_2), ((HB.out.cell (World.block_lt_of_cell? w _ hw224_3)).trans hw224_3), ((HB.out.cell (World.block_lt_of_cell? w _ hw224_4)).trans hw224_4), ((HB.out.cell (World.block_lt_of_cell? w _ hw224_5)).trans hw224_5), ((HB.out.cell (World.block_lt_of_cell? w _ hw224_6)).trans hw224_6)⟩ (fun hHeld => ?_); refine with_tabW masterdiscref10_Entries.tab9 masterdiscref10_Entries.bits9 (fun HT_ HW_ => ?_)
                   generalize w32.drew = w33 at HO_8 BK212 BK223 HB hx224_0 hx224_1 hx224_2 hx224_3 hx224_4 hx224_5 hx224_6 hHeld ⊢
                   refine pure_ (i := 0) (N := some 65) (v := ?_) (a' := ?_) (mS 12 1) rfl rfl (any_of HT_.out (by kernel_rfl)) (fun _ _ _ h => h) (Or.inl ⟨by rfl, ?_⟩) ?_ ?_
                   rotate_left
                   · intro w'
                     go_simp
                     with_reducible rfl
                   rotate_left
                   · simp only [Act.put, List.setIfInBounds_toArray, List.set_cons_zero, List.set_cons_succ, i64_w, i32_w]
                     rfl
                   refine pure_ (i := 1) (N := some 66) (v := ?_) (a' := ?_) (mS 12 3) rfl rfl (any_of HT_.out (by kernel_rfl)) (fun _ _ _ h => h) (Or.inl ⟨by rfl, ?_⟩) ?_ ?_
                   rotate_left
                   · intro w'
                     go_simp
                     with_reducible rfl
                   rotate_left
                   · simp only [Act.put, List.setIfInBounds_toArray, List.set_cons_zero, List.set_cons_succ, i64_w, i32_w]
                     rfl
                   refine pure_ (i := 2) (N := some 67) (v := ?_) (a' := ?_) (mS 12 7) rfl rfl (any_of HT_.out (by kernel_rfl)) (fun _ _ _ h => h) (Or.inl ⟨by rfl, ?_⟩) ?_ ?_
                   rotate_left
                   · intro w'
                     go_simp
                     with_reducible rfl
                   rotate_left
                   · simp only [Act.put, List.setIfInBounds_toArray, List.set_cons_zero, List.set_cons_succ, i64_w, i32_w]
                     rfl
                   refine pure_ (i := 3) (N := some 68) (v := ?_) (a' := ?_) (mS 12 15) rfl rfl (any_of HT_.out (by kernel_rfl)) (fun _ _ _ h => h) (Or.inl ⟨by rfl, ?_⟩) ?_ ?_
                   rotate_left
                   · intro w'
                     go_simp
                     with_reducible rfl
                   rotate_left
                   · simp only [Act.put, List.setIfInBounds_toArray, List.set_cons_zero, List.set_cons_succ, i64_w, i32_w]
                     rfl
                   refine pure_ (i := 4) (N := some 69) (v := ?_) (a' := ?_) (mS 12 31) rfl rfl (any_of HT_.out (by kernel_rfl)) (fun _ _ _ h => h) (Or.inl ⟨by rfl, ?_⟩) ?_ ?_
                   rotate_left
                   · intro w'
                     go_simp
                     with_reducible rfl
                   rotate_left
                   · simp only [Act.put, List.setIfInBounds_toArray, List.set_cons_zero, List.set_cons_succ, i64_w, i32_w]
                     rfl
                   refine pure_ (i := 5) (N := some 70) (v := ?_) (a' := ?_) (mS 12 63) rfl rfl (any_of HT_.out (by kernel_rfl)) (fun _ _ _ h => h) (Or.inl ⟨by rfl, ?_⟩) ?_ ?_
                   rotate_left
                   · intro w'
                     go_simp
                     with_reducible rfl
                   rotate_left
                   · simp only [Act.put, List.setIfInBounds_toArray, List.set_cons_zero, List.set_cons_succ, i64_w, i32_w]
                     rfl
                   refine take_ (i := 6) (N := some 71) (v := ?_) (a' := ?_) (mS 12 127) rfl rfl (take_ofW HT_.out HW_.out (by kernel_rfl)) (fun _ _ _ h => h) (Or.inl ⟨by rfl, ?_⟩) hHeld ?_ ?_
                   rotate_left
                   · rintro w' ⟨s0, s1, s2, s3, s4, s5, s6, s7, s8, s9⟩
                     go_simp
                     with_reducible rfl
                   rotate_left
                   · simp only [Act.put, List.setIfInBounds_toArray, List.set_cons_zero, List.set_cons_succ, i64_w, i32_w]
                     rfl
                   refine take_ (i := 7) (N := some 72) (v := ?_) (a' := ?_) (mS 12 255) rfl rfl (take_ofW HT_.out HW_.out (by kernel_rfl)) (fun _ _ _ h => h) (Or.inl ⟨by rfl, ?_⟩) hHeld ?_ ?_
                   rotate_left
                   · rintro w' ⟨s0, s1, s2, s3, s4, s5, s6, s7, s8, s9⟩
                     go_simp
                     with_reducible rfl
                   rotate_left
                   · simp only [Act.put, List.setIfInBounds_toArray, List.set_cons_zero, List.set_cons_succ, i64_w, i32_w]
                     rfl
                   refine pure_ (i := 8) (N := some 73) (v := ?_) (a' := ?_) (mS 12 511) rfl rfl (any_of HT_.out (by kernel_rfl)) (fun _ _ _ h => h) (Or.inl ⟨by rfl, ?_⟩) ?_ ?_
                   rotate_left
                   · intro w'
                     go_simp
                     with_reducible rfl
                   rotate_left
                   · simp only [Act.put, List.setIfInBounds_toArray, List.set_cons_zero, List.set_cons_succ, i64_w, i32_w]
                     rfl
                   refine one_ (i := 9) (N := some 74) (mS 12 1023) rfl rfl (one_of HT_.out (by kernel_rfl)) (by decide) (fun K hK => ?_)
                   refine value_ (w1 := ?_) (v := ?_) (by rfl) rfl ?_ ?_
                   rotate_left 2
                   · go_simp
                     constructor
                     · rfl
                     · rfl
                   refine hK.out _ _ ⟨(blk_cell (blk_alloc BK223.out _) 0).trans rfl, (blk_cell (blk_alloc BK223.out _) 1).trans rfl, (blk_cell (blk_alloc BK223.out _) 2).trans rfl, (World.cell?_alloc_lt _ _ _ (World.block_lt_of_cell? _ _ (((HB.out.cell (World.block_lt_of_cell? w _ hw224_0)).trans hw224_0)))).trans (((HB.out.cell (World.block_lt_of_cell? w _ hw224_0)).trans hw224_0)), (World.cell?_alloc_lt _ _ _ (World.block_lt_of_cell? _ _ (((HB.out.cell (World.block_lt_of_cell? w _ hw224_1)).trans hw224_1)))).trans (((HB.out.cell (World.block_lt_of_cell? w _ hw224_1)).trans hw224_1)), (World.cell?_alloc_lt _ _ _ (World.block_lt_of_cell? _ _ (((HB.out.cell (World.block_lt_of_cell? w _ hw224_2)).trans hw224_2)))).trans (((HB.out.cell (World.block_lt_of_cell? w _ hw224_2)).trans hw224_2)), (World.cell?_alloc_lt _ _ _ (World.block_lt_of_cell? _ _ (((HB.out.cell (World.block_lt_of_cell? w _ hw224_3)).trans hw224_3)))).trans (((HB.out.cell (World.block_lt_of_cell? w _ hw224_3)).trans hw224_3)), (World.cell?_alloc_lt _ _ _ (World.block_lt_of_cell? _ _ (((HB.out.cell (World.block_lt_of_cell? w _ hw224_4)).trans hw224_4)))).trans (((HB.out.cell (World.block_lt_of_cell? w _ hw224_4)).trans hw224_4)), (World.cell?_alloc_lt _ _ _ (World.block_lt_of_cell? _ _ (((HB.out.cell (World.block_lt_of_cell? w _ hw224_5)).trans hw224_5)))).trans (((HB.out.cell (World.block_lt_of_cell? w _ hw224_5)).trans hw224_5)), (World.cell?_alloc_lt _ _ _ (World.block_lt_of_cell? _ _ (((HB.out.cell (World.block_lt_of_cell? w _ hw224_6)).trans hw224_6)))).trans (((HB.out.cell (World.block_lt_of_cell? w _ hw224_6)).trans hw224_6))⟩ (fun hHeld => ?_)
                   clear hK K
                   refine norm_ (a' := ?_) ?_ ?_
                   rotate_left
                   · show Act.put _ (some 74) _ = _
                     simp only [Act.put, List.setIfInBounds_toArray, List.set_cons_zero, List.set_cons_succ, i64_w, i32_w]
                     rfl
                   refine one_ (i := 10) (N := some 75) (mS 12 2047) rfl rfl (one_of HT_.out (by kernel_rfl)) (by decide) (fun K hK => ?_)
                   refine Kd.R_append_step k27 (w0 := w) w.heap.size (by rfl) (.tmp 65) (.tmp 74) 31 27 (.agg #[(.int .i64 0), (.int .i64 0), (.int .i64 0), (.int .i64 0), (.int .i64 0), (.int .i64 0), (.int .i64 0), (.int .i64 0), (.int .i64 0)]) 72 rfl Try.underlying31 info27 rfl (by decide) (by omega) u8 x8_2 (⟨a1, 0, (rd_T53 l0 x9_2).f0, (⟨0, 0, 0⟩ : S25), (⟨t219, t220, t221⟩ : S25)⟩ : S27) [.int .i64 a1, .int .i64 0, .int .i64 ((rd_T53 l0 x9_2).f0), .int .i64 0, .int .i64 0, .int .i64 0, .int .i64 t219, .int .i64 t220, .int .i64 t221] (fun _ => True) (fun _ => False) rfl rfl ?aP (fun _ hk => hk.elim) ?aF ?aO ?aB ?aS ?aL ?_
                   (case aP => exact k27_mkM _ _ _ (⟨a1, 0, (rd_T53 l0 x9_2).f0, (⟨0, 0, 0⟩ : S25), (⟨t219, t220, t221⟩ : S25)⟩ : S27))
                   (case aB => exact (by repeat (first | (with_reducible first | exact HB.out | apply below_alloc | apply pw_below_drewN | apply below_drew1 | refine below_set ?_ GE212.out | refine below_set ?_ GE223.out) | exact HB.out)))
                   (case aF => exact (fun _ _ => trivial))
                   (case aO => exact (by (with_reducible repeat (first | apply Kd.R_alloc | apply Kd.R_drewN | apply Kd.R_drew)); exact HO_8.out))
                   (case aS => exact (below_size (by repeat (first | (with_reducible first | exact HB.out | apply below_alloc | apply pw_below_drewN | apply below_drew1 | refine below_set ?_ GE212.out | refine below_set ?_ GE223.out) | exact HB.out))))
                   (case aL => have := LMc27.out; omega)
                   intro v226 w34 ho hb hg hat
                   rw [← Ny225.out] at ho
                   have n0_ := Aside0.mk (blk_grown (g := gb212) (o := .cells #[.int .i64 t208, .int .i64 t209, .int .i64 t210] 25 (0, 0)) (by (with_reducible repeat (first | refine blk_drewN ?_ _ | refine blk_drew ?_ | refine blk_alloc ?_ _)); exact BK212.out) hg (Kd.R_ne HO_8.out BK212.out (by decide)))
                   have n1_ := Aside0.mk (blk_grown (g := gb223) (o := .cells #[.int .i64 t219, .int .i64 t220, .int .i64 t221] 25 (0, 0)) (by (with_reducible repeat (first | refine blk_drewN ?_ _ | refine blk_drew ?_ | refine blk_alloc ?_ _)); exact BK223.out) hg (Kd.R_ne HO_8.out BK223.out (by decide)))
                   have n2_ := Aside0.mk (hb)
                   have n3_ := Aside0.mk (ho)
                   clear BK212
                   clear BK223
                   clear HB
                   clear HO_8
                   have BK212 := n0_
                   have BK223 := n1_
                   have HB := n2_
                   have HO227 := n3_
                   clear n0_ n1_ n2_ n3_
                   clear ho hb hg hat
                   refine hK.out _ _ ⟨(blk_cell BK223.out 0).trans rfl, (blk_cell BK223.out 1).trans rfl, (blk_cell BK223.out 2).trans rfl, ((HB.out.cell (World.block_lt_of_cell? w _ hw224_0)).trans hw224_0), ((HB.out.cell (World.block_lt_of_cell? w _ hw224_1)).trans hw224_1), ((HB.out.cell (World.block_lt_of_cell? w _ hw224_2)).trans hw224_2), ((HB.out.cell (World.block_lt_of_cell? w _ hw224_3)).trans hw224_3), ((HB.out.cell (World.block_lt_of_cell? w _ hw224_4)).trans hw224_4), ((HB.out.cell (World.block_lt_of_cell? w _ hw224_5)).trans hw224_5), ((HB.out.cell (World.block_lt_of_cell? w _ hw224_6)).trans hw224_6)⟩ (fun hHeld => ?_)
                   clear hK K
                   refine norm_ (a' := ?_) ?_ ?_
                   rotate_left
                   · show Act.put _ (some 75) _ = _
                     simp only [Act.put, List.setIfInBounds_toArray, List.set_cons_zero, List.set_cons_succ, i64_w, i32_w]
                     rfl
                   refine pure_ (i := 11) (N := some 8) (v := ?_) (a' := ?_) (mS 12 4095) rfl rfl (any_of HT_.out (by kernel_rfl)) (fun _ _ _ h => h) (Or.inl ⟨by rfl, ?_⟩) ?_ ?_
                   rotate_left
                   · intro w'
                     go_simp
                     with_reducible rfl
                   rotate_left
                   · simp only [Act.put, List.setIfInBounds_toArray, List.set_cons_zero, List.set_cons_succ, i64_w, i32_w]
                     rfl
                   refine done_ (done_of HT_.out (by kernel_rfl)) ?_
                   try go_wp2
                   go_roundg k2
                   case measure => have := HJ2.out; have := HK2.out; omega
                   case rel => exact ⟨(y225), (wrap64 (x9_2 + 1)), (by first | rfl | (simp; done) | (simp [*]; done)), H', ⟨by have := HJ2.out; have := HK2.out; omega⟩, ⟨by (with_reducible repeat (first | apply Kd.R_alloc | apply Kd.R_drewN | apply Kd.R_drew)); exact HO227.out⟩, ⟨by (with_reducible repeat (first | refine blk_drewN ?_ _ | refine blk_drew ?_ | refine blk_alloc ?_ _)); exact BK212.out⟩, ⟨by repeat (first | (with_reducible first | exact HB.out | apply below_alloc | apply pw_below_drewN | apply below_drew1 | refine below_set ?_ GE212.out | refine below_set ?_ GE223.out) | exact HB.out)⟩⟩
                 · rw [if_neg c27] at H
                   exact absurd H (by simp)
               · rw [if_neg c25] at H
                 exact absurd H (by simp)
             · rw [if_neg c24] at H
               have c24b0 : decide (x9_2 < (l0.length : Int)) = false := decide_eq_false c24
               clear c24
               simp only [Option.some.injEq, Prod.mk.injEq] at H
               obtain ⟨rfl, rfl⟩ := H
               go_wp2
               go_ret2
               exact ⟨_, by first | rfl | (simp [errW_none, errW_some] <;> rfl) | (simp only [← hji14]; first | rfl | (simp [errW_none, errW_some] <;> rfl)) | (simp [*, errW_none, errW_some] <;> rfl), by (with_reducible repeat (first | apply Kd.R_alloc | apply Kd.R_drewN | apply Kd.R_drew)); exact HO_8.out, by repeat (first | (with_reducible first | exact HB.out | apply below_alloc | apply pw_below_drewN | apply below_drew1 | refine below_set ?_ GE212.out) | exact HB.out)⟩
         · rw [if_neg c16] at H
           exact absurd H (by simp)
       · rw [if_neg c15] at H
         exact absurd H (by simp)
     · rw [if_neg c13] at H
       exact absurd H (by simp)
end Go.Proofs.Ytpmkibggmkibeaa.G
namespace Go.Proofs.Ytpmkibggmkibeaa.G
open Go.RowKit Go.Proofs.YtpmkibggmkibeaaW.PrintWords Go.Proofs.YtpmkibggmkibeaaW.PrintLast Go.Proofs.YtpmkibggmkibeaaW.PrintMore
attribute [local go_sem] max2_int min2_int max_two min_two max_three min_three max_four min_four   -- for this text's walks alone
set_option linter.unusedVariables false
set_option linter.unusedSimpArgs false
theorem eqA25 (d : Nat) (w : World) (x0 y0 : Int) (x1 y1 : Int) (x2 y2 : Int) :
 (Op.equalIn (d + 2) 25 (.agg #[.int .i64 x0, .int .i64 x1, .int .i64 x2]) (.agg #[.int .i64 y0, .int .i64 y1, .int .i64 y2])).run Try.prog w = .ok (x0 == y0 && (x1 == y1 && (x2 == y2))) w := by
 refine eqA_of Try.underlying25 (by kernel_rfl) ?_
 refine eqf_cons (by rfl) (by go_simp; rfl) (by go_simp; rfl) (by go_simp) ?_
 refine eqf_cons (by rfl) (by go_simp; rfl) (by go_simp; rfl) (by go_simp) ?_
 exact eqf_last (by rfl) (by go_simp; rfl) (by go_simp; rfl) (by go_simp)
end Go.Proofs.Ytpmkibggmkibeaa.G
namespace Go.Proofs.Ytpmkibggmkibeaa.G
open Go.RowKit Go.Proofs.YtpmkibggmkibeaaW.PrintWords Go.Proofs.YtpmkibggmkibeaaW.PrintLast Go.Proofs.YtpmkibggmkibeaaW.PrintMore
attribute [local go_sem] max2_int min2_int max_two min_two max_three min_three max_four min_four   -- for this text's walks alone
set_option linter.unusedVariables false
set_option linter.unusedSimpArgs false
theorem eqA27 (d : Nat) (w : World) (x0 y0 : Int) (x1 y1 : Int) (x2 y2 : Int) (x3 y3 : Int) (x4 y4 : Int) (x5 y5 : Int) (x6 y6 : Int) (x7 y7 : Int) (x8 y8 : Int) :
 (Op.equalIn (d + 3) 27 (.agg #[.int .i64 x0, .int .i64 x1, .int .i64 x2, .int .i64 x3, .int .i64 x4, .int .i64 x5, .int .i64 x6, .int .i64 x7, .int .i64 x8]) (.agg #[.int .i64 y0, .int .i64 y1, .int .i64 y2, .int .i64 y3, .int .i64 y4, .int .i64 y5, .int .i64 y6, .int .i64 y7, .int .i64 y8])).run Try.prog w = .ok (x0 == y0 && (x1 == y1 && (x2 == y2 && ((x3 == y3 && (x4 == y4 && (x5 == y5))) && ((x6 == y6 && (x7 == y7 && (x8 == y8)))))))) w := by
 refine eqA_of Try.underlying27 (by kernel_rfl) ?_
 refine eqf_cons (by rfl) (by go_simp; rfl) (by go_simp; rfl) (by go_simp) ?_
 refine eqf_cons (by rfl) (by go_simp; rfl) (by go_simp; rfl) (by go_simp) ?_
 refine eqf_cons (by rfl) (by go_simp; rfl) (by go_simp; rfl) (by go_simp) ?_
 refine eqf_cons (by rfl) (by go_simp) (by go_simp) (eqA25 (d + 0) w _ _ _ _ _ _) ?_
 exact eqf_last (by rfl) (by go_simp) (by go_simp) (eqA25 (d + 0) w _ _ _ _ _ _)
end Go.Proofs.Ytpmkibggmkibeaa.G
namespace Go.Proofs.Ytpmkibggmkibeaa.G
open Go.RowKit Go.Proofs.YtpmkibggmkibeaaW.PrintWords Go.Proofs.YtpmkibggmkibeaaW.PrintLast Go.Proofs.YtpmkibggmkibeaaW.PrintMore
attribute [local go_sem] max2_int min2_int max_two min_two max_three min_three max_four min_four   -- for this text's walks alone
set_option linter.unusedVariables false
set_option linter.unusedSimpArgs false
attribute [local go_sem high] eqA27
def masterdiscref10_Same.l0 : Nat → List (S27) → List (S27) → Int → Option (Bool)
 | 0, _, _, _ => none
 | k + 1, x0, x1, x5 => if x5 < (x0.length : Int) then (if 0 ≤ x5 then (if x5 < (x1.length : Int) then (if (!(((rd_T27 x0 x5).f0) == ((rd_T27 x1 x5).f0)) || (!(((rd_T27 x0 x5).f1) == ((rd_T27 x1 x5).f1)) || (!(((rd_T27 x0 x5).f2) == ((rd_T27 x1 x5).f2)) || ((!(((rd_T27 x0 x5).f3.f0) == ((rd_T27 x1 x5).f3.f0)) || (!(((rd_T27 x0 x5).f3.f1) == ((rd_T27 x1 x5).f3.f1)) || (!(((rd_T27 x0 x5).f3.f2) == ((rd_T27 x1 x5).f3.f2))))) || ((!(((rd_T27 x0 x5).f4.f0) == ((rd_T27 x1 x5).f4.f0)) || (!(((rd_T27 x0 x5).f4.f1) == ((rd_T27 x1 x5).f4.f1)) || (!(((rd_T27 x0 x5).f4.f2) == ((rd_T27 x1 x5).f4.f2)))))))))) = true then (some false) else (masterdiscref10_Same.l0 k x0 x1 (wrap64 (x5 + 1)))) else (none)) else (none)) else (some true)
def masterdiscref10_Same.f (k : Nat) (l0 : List (S27)) (l1 : List (S27)) : Option (Bool) := if (l0.length : Int) = (l1.length : Int) then (masterdiscref10_Same.l0 k l0 l1 0) else (some false)
theorem masterdiscref10_Same.mono_l : ∀ k, (∀ y0 y1 y2, LeO (masterdiscref10_Same.l0 k y0 y1 y2) (masterdiscref10_Same.l0 (k + 1) y0 y1 y2))
 | 0 => fun _ _ _ r h => by simp [masterdiscref10_Same.l0] at h
 | k + 1 => by
  have ih0 := masterdiscref10_Same.mono_l k
  · intro y0 y1 y2
    unfold masterdiscref10_Same.l0
    repeat' first
    | (with_reducible exact ih0 _ _ _)
    | (with_reducible exact LeO.refl _)
    | (with_reducible exact LeO.none _)
    | (with_reducible refine LeO.ite ?_ ?_)
    | (with_reducible refine LeO.bind ?_ (fun _ => ?_))
    | exact ih0 _ _ _
    | exact LeO.none _
    | refine LeO.ite ?_ ?_
    | refine LeO.bind ?_ (fun _ => ?_)
theorem masterdiscref10_Same.mono : ∀ a0 a1 k, LeO (masterdiscref10_Same.f k a0 a1) (masterdiscref10_Same.f (k + 1) a0 a1) := by
 intro a0 a1 k
 have ih0 := masterdiscref10_Same.mono_l k
 unfold masterdiscref10_Same.f
 repeat' first
  | (with_reducible exact ih0 _ _ _)
  | (with_reducible exact LeO.refl _)
  | (with_reducible exact LeO.none _)
  | (with_reducible refine LeO.ite ?_ ?_)
  | (with_reducible refine LeO.bind ?_ (fun _ => ?_))
  | exact ih0 _ _ _
  | exact LeO.none _
  | refine LeO.ite ?_ ?_
  | refine LeO.bind ?_ (fun _ => ?_)
set_option maxHeartbeats 8000000 in
set_option maxRecDepth 100000 in
theorem masterdiscref10_Same.calls (k : Nat) (A0 : Option Addr) (c0 : Nat) (l0 : List (S27)) (A1 : Option Addr) (c1 : Nat) (l1 : List (S27)) (r : Bool) (w : World) (hr0 : Kd.C k27 w A0 l0.length l0) (hc0 : l0.length ≤ c0) (hr1 : Kd.C k27 w A1 l1.length l1) (hc1 : l1.length ≤ c1) (h : masterdiscref10_Same.f k l0 l1 = some r) :
 Calls Try.prog 15 #[.slice A0 l0.length c0, .slice A1 l1.length c1] w fun e w' => e = .returned (.bool r) ∧ Drawn0 w w' := by
 have hu27 := Try.underlying27
 have HR0 := Aside0.mk hr0
 have HC0 := Aside0.mk hc0
 clear hr0 hc0
 have HR1 := Aside0.mk hr1
 have HC1 := Aside0.mk hc1
 clear hr1 hc1
 have H : (if (l0.length : Int) = (l1.length : Int) then (masterdiscref10_Same.l0 k l0 l1 0) else (some false)) = some r := h
 clear h
 by_cases c3 : (l0.length : Int) = (l1.length : Int)
 · rw [if_pos c3] at H
   have c3b0 : ((l0.length : Int) == (l1.length : Int)) = true := beq_iff_eq.mpr c3
   have c3b1 : ((l0.length : Int) != (l1.length : Int)) = false := bne_eq_false_iff_eq.mpr c3
   have c3b2 : (l0.length == l1.length) = true := by first | simpa using c3 | (simp at c3 ⊢; omega)
   clear c3
   have H' := Aside0.mk H
   clear H
   go_enter Try.func15, Try.ntmps15
   go_wp2
   repeat (go_quiet (fail); try go_wp2)
   go_loopg [5] k (fun kq v5 w' => ∃ (x5_1 : Int), v5 = .int .i64 x5_1 ∧ Aside0 (masterdiscref10_Same.l0 kq l0 l1 x5_1 = some r) ∧ Aside0 (kq ≤ k) ∧ Drawn0 w w')
   case atStart => exact ⟨(0), (by first | rfl | (simp; done) | (simp [*]; done)), H', ⟨Nat.le_refl _⟩, by repeat (first | exact Drawn0.refl _ | apply Drawn0.step)⟩
   case round =>
    clear H'
    try clear c1
    try clear p2
    try clear c3
    try clear c3b0
    try clear c3b1
    try clear c3b2
    obtain ⟨x5_1, rfl, HA, HK1, ⟨m1, rfl⟩⟩ := hrel
    cases gk with
    | zero => exact absurd HA.out (by simp [masterdiscref10_Same.l0])
    | succ k1 =>
     have H := HA.out
     clear HA
     simp only [masterdiscref10_Same.l0] at H
     by_cases c4 : x5_1 < (l0.length : Int)
     · rw [if_pos c4] at H
       have c4b0 : decide (x5_1 < (l0.length : Int)) = true := decide_eq_true c4
       clear c4
       by_cases c5 : 0 ≤ x5_1
       · rw [if_pos c5] at H
         have c5b0 : decide (0 ≤ x5_1) = true := decide_eq_true c5
         clear c5
         by_cases c6 : x5_1 < (l1.length : Int)
         · rw [if_pos c6] at H
           have c6b0 : decide (x5_1 < (l1.length : Int)) = true := decide_eq_true c6
           clear c6
           by_cases c7 : (!(((rd_T27 l0 x5_1).f0) == ((rd_T27 l1 x5_1).f0)) || (!(((rd_T27 l0 x5_1).f1) == ((rd_T27 l1 x5_1).f1)) || (!(((rd_T27 l0 x5_1).f2) == ((rd_T27 l1 x5_1).f2)) || ((!(((rd_T27 l0 x5_1).f3.f0) == ((rd_T27 l1 x5_1).f3.f0)) || (!(((rd_T27 l0 x5_1).f3.f1) == ((rd_T27 l1 x5_1).f3.f1)) || (!(((rd_T27 l0 x5_1).f3.f2) == ((rd_T27 l1 x5_1).f3.f2))))) || ((!(((rd_T27 l0 x5_1).f4.f0) == ((rd_T27 l1 x5_1).f4.f0)) || (!(((rd_T27 l0 x5_1).f4.f1) == ((rd_T27 l1 x5_1).f4.f1)) || (!(((rd_T27 l0 x5_1).f4.f2) == ((rd_T27 l1 x5_1).f4.f2)))))))))) = true
           · rw [if_pos c7] at H
             have c7b0 : (!(((rd_T27 l0 x5_1).f0) == ((rd_T27 l1 x5_1).f0)) || (!(((rd_T27 l0 x5_1).f1) == ((rd_T27 l1 x5_1).f1)) || (!(((rd_T27 l0 x5_1).f2) == ((rd_T27 l1 x5_1).f2)) || ((!(((rd_T27 l0 x5_1).f3.f0) == ((rd_T27 l1 x5_1).f3.f0)) || (!(((rd_T27 l0 x5_1).f3.f1) == ((rd_T27 l1 x5_1).f3.f1)) || (!(((rd_T27 l0 x5_1).f3.f2) == ((rd_T27 l1 x5_1).f3.f2))))) || ((!(((rd_T27 l0 x5_1).f4.f0) == ((rd_T27 l1 x5_1).f4.f0)) || (!(((rd_T27 l0 x5_1).f4.f1) == ((rd_T27 l1 x5_1).f4.f1)) || (!(((rd_T27 l0 x5_1).f4.f2) == ((rd_T27 l1 x5_1).f4.f2)))))))))) = true := c7
             clear c7
             obtain rfl := Option.some.inj H
             have p228 : 0 ≤ (x5_1 : Int) := of_decide_eq_true (by first | (with_reducible assumption) | assumption)
             have q228 : x5_1 < (l0.length : Int) := of_decide_eq_true (by first | (with_reducible assumption) | assumption)
             obtain ⟨ad228, e228, hx228_0, hx228_1, hx228_2, hx228_3, hx228_4, hx228_5, hx228_6, hx228_7, hx228_8⟩ := at_T27 HR0.out x5_1 p228 q228
             cases e228
             replace p228 := eq_true p228
             replace q228 := eq_true q228
             have p229 : 0 ≤ (x5_1 : Int) := of_decide_eq_true (by first | (with_reducible assumption) | assumption)
             have q229 : x5_1 < (l1.length : Int) := of_decide_eq_true (by first | (with_reducible assumption) | assumption)
             obtain ⟨ad229, e229, hx229_0, hx229_1, hx229_2, hx229_3, hx229_4, hx229_5, hx229_6, hx229_7, hx229_8⟩ := at_T27 HR1.out x5_1 p229 q229
             cases e229
             replace p229 := eq_true p229
             replace q229 := eq_true q229
             go_wp2
             repeat (go_quiet (fail); try go_wp2)
             go_ret
             exact ⟨by first | rfl | (simp; done) | (simp [*]; done), by repeat (first | exact Drawn0.refl _ | apply Drawn0.step)⟩
           · rw [if_neg c7] at H
             have c7b0 : (!(((rd_T27 l0 x5_1).f0) == ((rd_T27 l1 x5_1).f0)) || (!(((rd_T27 l0 x5_1).f1) == ((rd_T27 l1 x5_1).f1)) || (!(((rd_T27 l0 x5_1).f2) == ((rd_T27 l1 x5_1).f2)) || ((!(((rd_T27 l0 x5_1).f3.f0) == ((rd_T27 l1 x5_1).f3.f0)) || (!(((rd_T27 l0 x5_1).f3.f1) == ((rd_T27 l1 x5_1).f3.f1)) || (!(((rd_T27 l0 x5_1).f3.f2) == ((rd_T27 l1 x5_1).f3.f2))))) || ((!(((rd_T27 l0 x5_1).f4.f0) == ((rd_T27 l1 x5_1).f4.f0)) || (!(((rd_T27 l0 x5_1).f4.f1) == ((rd_T27 l1 x5_1).f4.f1)) || (!(((rd_T27 l0 x5_1).f4.f2) == ((rd_T27 l1 x5_1).f4.f2)))))))))) = false := by simpa using c7
             clear c7
             have H' := Aside0.mk H
             clear H
             have p228 : 0 ≤ (x5_1 : Int) := of_decide_eq_true (by first | (with_reducible assumption) | assumption)
             have q228 : x5_1 < (l0.length : Int) := of_decide_eq_true (by first | (with_reducible assumption) | assumption)
             obtain ⟨ad228, e228, hx228_0, hx228_1, hx228_2, hx228_3, hx228_4, hx228_5, hx228_6, hx228_7, hx228_8⟩ := at_T27 HR0.out x5_1 p228 q228
             cases e228
             replace p228 := eq_true p228
             replace q228 := eq_true q228
             have p229 : 0 ≤ (x5_1 : Int) := of_decide_eq_true (by first | (with_reducible assumption) | assumption)
             have q229 : x5_1 < (l1.length : Int) := of_decide_eq_true (by first | (with_reducible assumption) | assumption)
             obtain ⟨ad229, e229, hx229_0, hx229_1, hx229_2, hx229_3, hx229_4, hx229_5, hx229_6, hx229_7, hx229_8⟩ := at_T27 HR1.out x5_1 p229 q229
             cases e229
             replace p229 := eq_true p229
             replace q229 := eq_true q229
             go_wp2
             repeat (go_quiet (fail); try go_wp2)
             go_roundg k1
             case measure => have := HK1.out; omega
             case rel => exact ⟨(wrap64 (x5_1 + 1)), (by first | rfl | (simp; done) | (simp [*]; done)), H', ⟨by have := HK1.out; omega⟩, by repeat (first | exact Drawn0.refl _ | apply Drawn0.step)⟩
         · rw [if_neg c6] at H
           exact absurd H (by simp)
       · rw [if_neg c5] at H
         exact absurd H (by simp)
     · rw [if_neg c4] at H
       have c4b0 : decide (x5_1 < (l0.length : Int)) = false := decide_eq_false c4
       clear c4
       obtain rfl := Option.some.inj H
       go_wp2
       repeat (go_quiet (fail); try go_wp2)
       go_ret
       exact ⟨by first | rfl | (simp; done) | (simp [*]; done), by repeat (first | exact Drawn0.refl _ | apply Drawn0.step)⟩
 · rw [if_neg c3] at H
   have c3b0 : ((l0.length : Int) == (l1.length : Int)) = false := beq_eq_false_iff_ne.mpr c3
   have c3b1 : ((l0.length : Int) != (l1.length : Int)) = true := bne_iff_ne.mpr c3
   have c3b2 : (l0.length == l1.length) = false := by first | simpa using c3 | (simp at c3 ⊢; omega)
   obtain rfl := Option.some.inj H
   go_enter Try.func15, Try.ntmps15
   go_wp2
   repeat (go_quiet (fail); try go_wp2)
   go_ret
   exact ⟨by first | rfl | (simp; done) | (simp [*]; done), by repeat (first | exact Drawn0.refl _ | apply Drawn0.step)⟩
end Go.Proofs.Ytpmkibggmkibeaa.G
namespace Go.Proofs.Ytpmkibggmkibeaa.G
open Go.RowKit Go.Proofs.YtpmkibggmkibeaaW.PrintWords Go.Proofs.YtpmkibggmkibeaaW.PrintLast Go.Proofs.YtpmkibggmkibeaaW.PrintMore
set_option linter.unusedVariables false
theorem refToMSF_plain {n : Int} (h0 : -150 ≤ n) (h1 : n ≤ 449849) : masterdiscref06_ToMSF.f n = some (msfM n, msfS n, msfF n, 0) := by
 unfold masterdiscref06_ToMSF.f msfM msfS msfF
 rw [if_neg (by omega), if_neg (by omega)]
 have e0 : wrap64 (n + 150) = n + 150 := by unfold wrap64; omega
 rw [e0]
 have e1 : Int.tdiv (n + 150) 4500 = (n + 150) / 4500 := Int.tdiv_eq_ediv_of_nonneg (by omega)
 have e3 : Int.tdiv (n + 150) 75 = (n + 150) / 75 := Int.tdiv_eq_ediv_of_nonneg (by omega)
 rw [e1, e3]
 have e2 : wrap64 ((n + 150) / 4500) = (n + 150) / 4500 := by unfold wrap64; omega
 have e4 : wrap64 ((n + 150) / 75) = (n + 150) / 75 := by unfold wrap64; omega
 rw [e2, e4]
 have e5 : Int.tmod ((n + 150) / 75) 60 = (n + 150) / 75 % 60 := Int.tmod_eq_emod_of_nonneg (by omega)
 have e6 : Int.tmod (n + 150) 75 = (n + 150) % 75 := Int.tmod_eq_emod_of_nonneg (by omega)
 rw [e5, e6, show (n + 150) / 4500 = (n + 150) / 75 / 60 by omega]
theorem refToMSF_out {n : Int} (h : ¬ (-150 ≤ n ∧ n ≤ 449849)) : masterdiscref06_ToMSF.f n = some (0, 0, 0, 2) := by
 unfold masterdiscref06_ToMSF.f
 by_cases h1 : n < -150
 · rw [if_pos h1]
 · rw [if_neg h1, if_pos (by omega)]
theorem refAddress_plain {n : Int} (h0 : 0 ≤ n) (h1 : n ≤ 449999) : masterdiscref10_address.f n = some (msfM (n - 150), msfS (n - 150), msfF (n - 150)) := by
 unfold masterdiscref10_address.f msfM msfS msfF
 have e1 : Int.tdiv n 4500 = n / 4500 := Int.tdiv_eq_ediv_of_nonneg h0
 have e3 : Int.tdiv n 75 = n / 75 := Int.tdiv_eq_ediv_of_nonneg h0
 rw [e1, e3]
 have e2 : wrap64 (n / 4500) = n / 4500 := by unfold wrap64; omega
 have e4 : wrap64 (n / 75) = n / 75 := by unfold wrap64; omega
 rw [e2, e4]
 have e5 : Int.tmod (n / 75) 60 = n / 75 % 60 := Int.tmod_eq_emod_of_nonneg (by omega)
 have e6 : Int.tmod n 75 = n % 75 := Int.tmod_eq_emod_of_nonneg h0
 rw [e5, e6, show n - 150 + 150 = n by omega, show n / 4500 = n / 75 / 60 by omega]
theorem refEnd_plain {l : List (S53)} (hs : Ses l) : masterdiscref10_end.f l = some (lastE l) := by
 have h1 := hs.one
 have h9 := hs.most
 have hst := hs.start (l.length - 1) (by omega)
 have hle := hs.len (l.length - 1) (by omega)
 rw [show ((l.length - 1 : Nat) : Int) = (l.length : Int) - 1 by omega] at hst hle
 unfold masterdiscref10_end.f lastE
 have e0 : wrap64 ((l.length : Int) - 1) = (l.length : Int) - 1 := by unfold wrap64; omega
 rw [e0, if_pos (by omega), if_pos (by omega)]
 generalize rd_T53 l ((l.length : Int) - 1) = x at *
 rw [show wrap64 (x.f2 + x.f3) = x.f2 + x.f3 by unfold wrap64; omega]
theorem lastE_range {l : List (S53)} (hs : Ses l) : 1 ≤ lastE l ∧ lastE l ≤ 449849 := by
 have h1 := hs.one
 have hst := hs.start (l.length - 1) (by omega)
 have hle := hs.len (l.length - 1) (by omega)
 rw [show ((l.length - 1 : Nat) : Int) = (l.length : Int) - 1 by omega] at hst hle
 unfold lastE
 omega
theorem refprog_pass {l : List (S53)} (hs : Ses l) (K : Nat) (a1 a2 m s f : Int) (i : Nat) (hi : i < l.length) (h : (rd_T53 l (i : Int)).f2 + (rd_T53 l (i : Int)).f3 ≤ a2) :
 masterdiscref10_Program.l0 (K + 1) l a1 a2 (i : Int) m s f = masterdiscref10_Program.l0 K l a1 a2 ((i + 1 : Nat) : Int) m s f := by
 have h9 := hs.most
 have hst := hs.start i hi
 have hle := hs.len i hi
 rw [masterdiscref10_Program.l0.eq_def]
 dsimp only
 generalize rd_T53 l (i : Int) = x at *
 rw [if_pos (by omega), if_pos (by omega), if_neg (by omega), show wrap64 (x.f2 + x.f3) = x.f2 + x.f3 by unfold wrap64; omega, if_neg (by omega), show wrap64 ((i : Int) + 1) = ((i + 1 : Nat) : Int) by unfold wrap64; omega]
theorem refprog_pass_all {l : List (S53)} (hs : Ses l) (a1 a2 m s f : Int) (j : Nat) (hj : j ≤ l.length) (h : ∀ k : Nat, k < j → (rd_T53 l (k : Int)).f2 + (rd_T53 l (k : Int)).f3 ≤ a2) : ∀ K,
 masterdiscref10_Program.l0 (K + j) l a1 a2 0 m s f = masterdiscref10_Program.l0 K l a1 a2 (j : Int) m s f := by
 induction j with
 | zero => intro K; rfl
 | succ j ih =>
  intro K
  have := ih (by omega) (fun k hk => h k (by omega)) (K + 1)
  rw [show K + (j + 1) = K + 1 + j by omega, this]
  exact refprog_pass hs K a1 a2 m s f j (by omega) (h j (by omega))
theorem progI_none {l : List (S53)} (hs : Ses l) {lba : Int} (h : progI l lba = -1) (k : Nat) (hk : k < l.length) : (rd_T53 l (k : Int)).f2 + (rd_T53 l (k : Int)).f3 ≤ lba := by
 have := idxP_none (headB lba) l l.length 0 (by omega) h k (by omega) hk
 rw [headB_plain hs lba k hk] at this
 have := of_decide_eq_false this
 omega
theorem refprog_plain (l : List (S53)) (a1 a2 : Int) : ∃ k, masterdiscref10_Program.f k l a1 a2 = subchannel_Program.f l a1 a2 := by
 have j0t : ∀ k, masterdiscref10_Program.j0 (k + 1) l a1 a2 true = some (0, 0, 0, 0, 0, 0, 0, 0, 0, 1) := fun k => by simp only [masterdiscref10_Program.j0]; rw [if_pos trivial]
 have j1t : ∀ k m s f, masterdiscref10_Program.j1 (k + 1) l a1 a2 true m s f = some (0, 0, 0, 0, 0, 0, 0, 0, 0, 2) := fun k m s f => by simp only [masterdiscref10_Program.j1]; rw [if_pos trivial]
 refine ⟨l.length + 1 + 1 + 1, ?_⟩
 unfold masterdiscref10_Program.f subchannel_Program.f masterdiscref10_Session.f
 simp only [Option.bind_some]
 cases hb : sesB l with
 | false => rw [if_neg (by decide), if_neg (by simp), j0t]
 | true =>
  rw [if_pos rfl]
  by_cases h1 : a1 < 0
  · rw [if_pos h1, j0t, if_neg (by omega)]
  · rw [if_neg h1]
    by_cases h2 : a1 > 15
    · rw [decide_eq_true h2, j0t, if_neg (by omega)]
    · rw [decide_eq_false h2, if_pos ⟨rfl, by omega, by omega⟩]
      have hs := ses_of hb
      have h9 := hs.most
      have hL := lastE_range hs
      simp only [masterdiscref10_Program.j0]
      rw [if_neg (by decide)]
      by_cases h3 : -150 ≤ a2 ∧ a2 ≤ 449849
      case neg =>
       rw [refToMSF_out h3]
       simp only [Option.bind_some]
       rw [if_neg (by decide), j1t, if_neg (by omega)]
      rw [refToMSF_plain h3.1 h3.2]
      simp only [Option.bind_some]
      rw [if_pos trivial]
      by_cases h4 : a2 < 0
      · rw [decide_eq_true h4, j1t, if_neg (by omega)]
      rw [decide_eq_false h4, if_pos (by omega)]
      simp only [masterdiscref10_Program.j1]
      rw [if_neg (by decide)]
      rcases progI_cases hs a2 with ⟨hi, hge⟩ | ⟨j, hi, hj, hlt, hbe⟩
      · have := refprog_pass_all hs a1 a2 (msfM a2) (msfS a2) (msfF a2) l.length (Nat.le_refl _) (fun k hk => progI_none hs hi k hk) 1
        rw [show l.length + 1 = 1 + l.length by omega, this, hi, if_pos (by decide)]
        rw [masterdiscref10_Program.l0.eq_def]
        dsimp only
        rw [if_neg (by omega), refEnd_plain hs]
        simp only [Option.bind_some]
        rw [show wrap64 (a2 - lastE l) = a2 - lastE l by unfold wrap64; omega, refAddress_plain (by omega) (by omega)]
        rfl
      · have := refprog_pass_all hs a1 a2 (msfM a2) (msfS a2) (msfF a2) j (by omega) hbe (l.length + 1 - j)
        rw [show l.length + 1 - j + j = l.length + 1 by omega] at this
        rw [this, hi, if_neg (by omega)]
        obtain ⟨q, hq⟩ : ∃ q, l.length + 1 - j = q + 1 := ⟨l.length - j, by omega⟩
        rw [hq, masterdiscref10_Program.l0.eq_def]
        dsimp only
        have hst := hs.start j hj
        have hle := hs.len j hj
        generalize rd_T53 l (j : Int) = x at *
        rw [if_pos (by omega), if_pos (by omega)]
        by_cases h5 : a2 < x.f2
        · rw [if_pos h5, if_pos h5, show wrap64 (x.f2 - a2) = x.f2 - a2 by unfold wrap64; omega, refAddress_plain (by omega) (by omega)]
          rfl
        · rw [if_neg h5, if_neg h5, show wrap64 (x.f2 + x.f3) = x.f2 + x.f3 by unfold wrap64; omega, if_pos hlt, show wrap64 (a2 - x.f2) = a2 - x.f2 by unfold wrap64; omega, refAddress_plain (by omega) (by omega)]
          rfl
theorem refent_rounds {l : List (S53)} (hs : Ses l) (a1 : Int) (d : Nat) : ∀ (i K : Nat), l.length - i = d → i ≤ l.length → d < K →
 masterdiscref10_Entries.l0 K l a1 (entL l a1 i) (i : Int) = some (entL l a1 l.length, 0) := by
 induction d with
 | zero =>
  intro i K hd hi hK
  obtain ⟨K, rfl⟩ : ∃ m, K = m + 1 := ⟨K - 1, by omega⟩
  rw [masterdiscref10_Entries.l0.eq_def]
  dsimp only
  rw [if_neg (by omega), show i = l.length by omega]
 | succ d ih =>
  intro i K hd hi hK
  obtain ⟨K, rfl⟩ : ∃ m, K = m + 1 := ⟨K - 1, by omega⟩
  have h9 := hs.most
  have hst := hs.start i (by omega)
  rw [masterdiscref10_Entries.l0.eq_def]
  dsimp only
  rw [if_pos (by omega), if_pos (by omega), refToMSF_plain (by omega) hst.2]
  simp only [Option.bind_some]
  rw [if_pos (by rw [entL_length]; omega), show wrap64 ((i : Int) + 1) = ((i + 1 : Nat) : Int) by unfold wrap64; omega]
  have := ih (i + 1) K (by omega) (by omega) (by omega)
  rw [entL_succ] at this
  exact this
theorem refent_plain (l : List (S53)) (a1 : Int) : ∃ k, masterdiscref10_Entries.f k l a1 = subchannel_Entries.f l a1 := by
 have j0t : ∀ k, masterdiscref10_Entries.j0 (k + 1) l a1 true = some ([], 1) := fun k => by simp only [masterdiscref10_Entries.j0]; rw [if_pos trivial]
 refine ⟨l.length + 1 + 1, ?_⟩
 unfold masterdiscref10_Entries.f subchannel_Entries.f masterdiscref10_Session.f
 simp only [Option.bind_some]
 cases hb : sesB l with
 | false => rw [if_neg (by decide), if_neg (by simp), j0t]
 | true =>
  rw [if_pos rfl]
  by_cases h1 : a1 < 0
  · rw [if_pos h1, j0t, if_neg (by omega)]
  · rw [if_neg h1]
    by_cases h2 : a1 > 15
    · rw [decide_eq_true h2, j0t, if_neg (by omega)]
    · rw [decide_eq_false h2, if_pos ⟨rfl, by omega, by omega⟩]
      have hs := ses_of hb
      have h9 := hs.most
      have h0 := hs.one
      have hL := lastE_range hs
      simp only [masterdiscref10_Entries.j0]
      rw [if_neg (by decide), refEnd_plain hs]
      simp only [Option.bind_some]
      rw [refToMSF_plain (by omega) (by omega)]
      simp only [Option.bind_some]
      have e0 : wrap64 ((l.length : Int) - 1) = (l.length : Int) - 1 := by unfold wrap64; omega
      rw [e0, if_pos (by omega), if_pos (by omega), if_pos (by omega)]
      exact refent_rounds hs a1 l.length 0 (l.length + 1) (by omega) (by omega) (by omega)
theorem same_rounds (l : List (S27)) (hl : l.length ≤ 1000) (d : Nat) : ∀ (i K : Nat), l.length - i = d → i ≤ l.length → d < K → masterdiscref10_Same.l0 K l l (i : Int) = some true := by
 induction d with
 | zero =>
  intro i K hd hi hK
  obtain ⟨K, rfl⟩ : ∃ m, K = m + 1 := ⟨K - 1, by omega⟩
  rw [masterdiscref10_Same.l0.eq_def]
  dsimp only
  rw [if_neg (by omega)]
 | succ d ih =>
  intro i K hd hi hK
  obtain ⟨K, rfl⟩ : ∃ m, K = m + 1 := ⟨K - 1, by omega⟩
  rw [masterdiscref10_Same.l0.eq_def]
  dsimp only
  rw [if_pos (by omega), if_pos (by omega), if_pos (by omega), if_neg (by simp), show wrap64 ((i : Int) + 1) = ((i + 1 : Nat) : Int) by unfold wrap64; omega]
  exact ih (i + 1) K (by omega) (by omega) (by omega)
theorem same_self (l : List (S27)) (hl : l.length ≤ 1000) (K : Nat) (hK : l.length < K) : masterdiscref10_Same.f K l l = some true := by
 unfold masterdiscref10_Same.f
 rw [if_pos rfl]
 exact same_rounds l hl l.length 0 K (by omega) (by omega) hK
end Go.Proofs.Ytpmkibggmkibeaa.G
namespace Go.Proofs.Ytpmkibggmkibeaa.G
open Go.RowKit Go.Proofs.YtpmkibggmkibeaaW.PrintWords Go.Proofs.YtpmkibggmkibeaaW.PrintLast Go.Proofs.YtpmkibggmkibeaaW.PrintMore
theorem goesV_ {P : Program} {ops : Array Oper} {Q : Exit → Act → World → Prop} {oi : Oper} {N : Option Tmp} {a : Act} {w : World} {K : Act → World → Prop} {f : FuncId} {fn : Func} {c : Operand} {xs : Array Operand} {ts : Array TypeId} (hf : P.funcs[f]? = some fn) (hname : (fn.name == "runtime.NumGoroutine") = false) (hb : fn.body.isSome = true) (args : Array Value)
 (hw : Region.wanted oi (yielded ops a.tmps) = true) (hN : oi.dst = N) (hop : oi.op = .call { callee := .value c, args := xs, argTypes := ts }) (hc : a.eval c = .func (.func f) #[] #[]) (hargs : xs.map a.eval = args)
 (h : Calls P f args w fun e w' => ∃ v, e = .returned v ∧ K (a.put N v) w') : if Region.wanted oi (yielded ops a.tmps) = true then Oper.wp P oi a w K Q else K (a.put N undef) w := by
 refine call_ f args hw hN ?_ h
 have he := enters_ hf hname hb args w
 unfold execOp
 simp [hop, resolve, Deferred.ofValue, invoke, hc, hargs, he]
end Go.Proofs.Ytpmkibggmkibeaa.G
namespace Go.Proofs.Ytpmkibggmkibeaa.G
open Go.RowKit Go.Proofs.YtpmkibggmkibeaaW.PrintWords Go.Proofs.YtpmkibggmkibeaaW.PrintLast Go.Proofs.YtpmkibggmkibeaaW.PrintMore
attribute [local go_sem] max2_int min2_int max_two min_two max_three min_three max_four min_four   -- for this text's walks alone
set_option linter.unusedVariables false
set_option linter.unusedSimpArgs false
def endian_BCD.f (a0 : Int) : Option (Int × Int) := if a0 < 0 then (some (0, 2)) else (if a0 > 99 then (some (0, 2)) else (some ((Go.bits .or .i64 (wrap64 ((wrap64 (Int.tdiv a0 10)) * 16)) (Int.tmod a0 10)) % 256, 0)))
set_option maxHeartbeats 8000000 in
set_option maxRecDepth 100000 in
theorem endian_BCD.calls (a0 : Int) (r1 : Int) (r2 : Int) (w : World) (h : endian_BCD.f a0 = some (r1, r2)) :
 Calls Try.prog 59 #[.int .i64 a0] w fun e w' => e = .returned (.tuple #[.int .u8 r1, .int .i64 r2]) ∧ Drawn0 w w' := by
 have H : (if a0 < 0 then (some (0, 2)) else (if a0 > 99 then (some (0, 2)) else (some ((Go.bits .or .i64 (wrap64 ((wrap64 (Int.tdiv a0 10)) * 16)) (Int.tmod a0 10)) % 256, 0)))) = some (r1, r2) := h
 clear h
 by_cases c2 : a0 < 0
 · rw [if_pos c2] at H
   have c2b0 : decide (a0 < 0) = true := decide_eq_true c2
   clear c2
   simp only [Option.some.injEq, Prod.mk.injEq] at H
   obtain ⟨rfl, rfl⟩ := H
   go_enter Try.func59, Try.ntmps59
   go_wp2
   go_ret2
   exact ⟨by first | rfl | (simp; done) | (simp [*]; done), by repeat (first | exact Drawn0.refl _ | apply Drawn0.step)⟩
 · rw [if_neg c2] at H
   have c2b0 : decide (a0 < 0) = false := decide_eq_false c2
   clear c2
   by_cases c3 : a0 > 99
   · rw [if_pos c3] at H
     have c3b0 : decide (99 < a0) = true := decide_eq_true c3
     clear c3
     simp only [Option.some.injEq, Prod.mk.injEq] at H
     obtain ⟨rfl, rfl⟩ := H
     go_enter Try.func59, Try.ntmps59
     go_wp2
     go_ret2
     exact ⟨by first | rfl | (simp; done) | (simp [*]; done), by repeat (first | exact Drawn0.refl _ | apply Drawn0.step)⟩
   · rw [if_neg c3] at H
     have c3b0 : decide (99 < a0) = false := decide_eq_false c3
     clear c3
     simp only [Option.some.injEq, Prod.mk.injEq] at H
     obtain ⟨rfl, rfl⟩ := H
     go_enter Try.func59, Try.ntmps59
     go_wp2
     go_ret2
     exact ⟨by first | rfl | (simp; done) | (simp [*]; done), by repeat (first | exact Drawn0.refl _ | apply Drawn0.step)⟩
def endian_FromBCD.f (a0 : Int) : Option (Int × Int) := if (wrap32 (a0 / 16)) > 9 then (some (0, 2)) else (if (wrap32 (Go.bits .and .u8 a0 15)) > 9 then (some (0, 2)) else (some (wrap64 (wrap32 ((wrap32 (10 * (wrap32 (a0 / 16)))) + (wrap32 (Go.bits .and .u8 a0 15)))), 0)))
set_option maxHeartbeats 8000000 in
set_option maxRecDepth 100000 in
theorem endian_FromBCD.calls (a0 : Int) (r1 : Int) (r2 : Int) (w : World) (h : endian_FromBCD.f a0 = some (r1, r2)) :
 Calls Try.prog 68 #[.int .u8 a0] w fun e w' => e = .returned (.tuple #[.int .i64 r1, .int .i64 r2]) ∧ Drawn0 w w' := by
 have H : (if (wrap32 (a0 / 16)) > 9 then (some (0, 2)) else (if (wrap32 (Go.bits .and .u8 a0 15)) > 9 then (some (0, 2)) else (some (wrap64 (wrap32 ((wrap32 (10 * (wrap32 (a0 / 16)))) + (wrap32 (Go.bits .and .u8 a0 15)))), 0)))) = some (r1, r2) := h
 clear h
 by_cases c2 : (wrap32 (a0 / 16)) > 9
 · rw [if_pos c2] at H
   have c2b0 : decide (9 < (wrap32 (a0 / 16))) = true := decide_eq_true c2
   clear c2
   simp only [Option.some.injEq, Prod.mk.injEq] at H
   obtain ⟨rfl, rfl⟩ := H
   go_enter Try.func68, Try.ntmps68
   go_wp2
   go_ret2
   exact ⟨by first | rfl | (simp; done) | (simp [*]; done), by repeat (first | exact Drawn0.refl _ | apply Drawn0.step)⟩
 · rw [if_neg c2] at H
   have c2b0 : decide (9 < (wrap32 (a0 / 16))) = false := decide_eq_false c2
   clear c2
   by_cases c3 : (wrap32 (Go.bits .and .u8 a0 15)) > 9
   · rw [if_pos c3] at H
     have c3b0 : decide (9 < (wrap32 (Go.bits .and .u8 a0 15))) = true := decide_eq_true c3
     clear c3
     simp only [Option.some.injEq, Prod.mk.injEq] at H
     obtain ⟨rfl, rfl⟩ := H
     go_enter Try.func68, Try.ntmps68
     go_wp2
     go_ret2
     exact ⟨by first | rfl | (simp; done) | (simp [*]; done), by repeat (first | exact Drawn0.refl _ | apply Drawn0.step)⟩
   · rw [if_neg c3] at H
     have c3b0 : decide (9 < (wrap32 (Go.bits .and .u8 a0 15))) = false := decide_eq_false c3
     clear c3
     simp only [Option.some.injEq, Prod.mk.injEq] at H
     obtain ⟨rfl, rfl⟩ := H
     go_enter Try.func68, Try.ntmps68
     go_wp2
     go_ret2
     exact ⟨by first | rfl | (simp; done) | (simp [*]; done), by repeat (first | exact Drawn0.refl _ | apply Drawn0.step)⟩
end Go.Proofs.Ytpmkibggmkibeaa.G
namespace Go.Proofs.Ytpmkibggmkibeaa.G
open Go.RowKit Go.Maps Go.Proofs.YtpmkibggmkibeaaW.PrintWords Go.Proofs.YtpmkibggmkibeaaW.PrintLast Go.Proofs.YtpmkibggmkibeaaW.PrintMore
set_option linter.unusedVariables false
def key64 (n : Int) : Lit := .int .i64 n
def spD : DataW Unit := ((((DataW.map []).put (key64 160) (.lit (.int .u8 160))).put (key64 161) (.lit (.int .u8 161))).put (key64 162) (.lit (.int .u8 162))).put (key64 170) (.lit (.int .u8 170))
set_option maxHeartbeats 400000 in
set_option maxRecDepth 100000 in
theorem subchannel_special.calls (w : World) :
 Calls Try.prog 60 #[] w fun e w' => e = .returned (.map (some w.heap.size)) ∧ w'.ownsMap Try.prog 3 (plainElem Try.prog 5) w.heap.size 4 spD ∧ Below w.heap.size w w' := by
 have hmm := @run_makeMap Try.prog
 have law := int_keyed Try.underlying3
 have o0 := World.ownsMap_made w Try.prog 3 (plainElem (H := Unit) Try.prog 5)
 have b0 : Below w.heap.size w (w.alloc (.map #[] 0)) := (Below.refl _ _).alloc (Nat.le_refl _) _
 obtain ⟨w1, r1, o1, g1⟩ := o0.update law Try.underlying83 (by decide) (keyOf_int_mk Try.underlying3 (by decide : (Lit.int .i64 160).wf = true)) (plainElem_int Try.underlying5 (by decide : (Lit.int .u8 160).wf = true))
 obtain ⟨w2, r2, o2, g2⟩ := o1.update law Try.underlying83 (by decide) (keyOf_int_mk Try.underlying3 (by decide : (Lit.int .i64 161).wf = true)) (plainElem_int Try.underlying5 (by decide : (Lit.int .u8 161).wf = true))
 obtain ⟨w3, r3, o3, g3⟩ := o2.update law Try.underlying83 (by decide) (keyOf_int_mk Try.underlying3 (by decide : (Lit.int .i64 162).wf = true)) (plainElem_int Try.underlying5 (by decide : (Lit.int .u8 162).wf = true))
 obtain ⟨w4, r4, o4, g4⟩ := o3.update law Try.underlying83 (by decide) (keyOf_int_mk Try.underlying3 (by decide : (Lit.int .i64 170).wf = true)) (plainElem_int Try.underlying5 (by decide : (Lit.int .u8 170).wf = true))
 have b4 : Below w.heap.size w w4 := by
  have hk : ∀ k, some w.heap.size = some k → w.heap.size ≤ k := fun k h => by cases h; exact Nat.le_refl _
  have c1 := b0.grown g1 b0.size hk
  have c2 := c1.grown g2 c1.size hk
  have c3 := c2.grown g3 c2.size hk
  exact c3.grown g4 c3.size hk
 have HO := Aside0.mk o4
 have HB := Aside0.mk b4
 clear o0 o1 o2 o3 o4 b0 b4 g1 g2 g3 g4 law
 go_enter Try.func60, Try.ntmps60
 go_wp2_with (fail)
 go_ret
 exact ⟨rfl, HO.out, HB.out⟩
def isSp (n : Int) : Bool := n == 160 || n == 161 || n == 162 || n == 170
theorem sp_has : ∀ k : Fin 200, Maps.has spD (key64 (k.val : Int)) = isSp (k.val : Int) := by decide +kernel
theorem sp_at : ∀ k : Fin 200, isSp (k.val : Int) = true → spD.atKey (key64 (k.val : Int)) (.lit (.int .u8 0)) = .lit (.int .u8 (k.val : Int)) := by
 intro k
 rcases (by omega : k.val = 160 ∨ k.val = 161 ∨ k.val = 162 ∨ k.val = 170 ∨ (k.val ≠ 160 ∧ k.val ≠ 161 ∧ k.val ≠ 162 ∧ k.val ≠ 170)) with h | h | h | h | h
 all_goals first | (rw [h]; intro _; rfl) | (intro hs; simp [isSp] at hs; omega)
def subchannel_number.f (a0 : Int) : Option Int := if 0 ≤ a0 ∧ a0 < 200 then (if isSp a0 = true then some a0 else (endian_BCD.f a0).map (·.1)) else none
theorem zero_u8 (w : World) : (zeroValue 5).run Try.prog w = .ok (.int .u8 0) w := by kernel_rfl
theorem sp_wf : ∀ k : Fin 200, (Lit.int .i64 (k.val : Int)).wf = true := by decide +kernel
set_option maxRecDepth 100000 in
theorem sp_look (k : Fin 200) {w : World} {b : Nat} (h : w.ownsMap Try.prog 3 (plainElem (H := Unit) Try.prog 5) b 4 spD) :
 ∃ c : Int, (Instr.lookup 83 (.map (some b)) (.int .i64 (k.val : Int)) true).run Try.prog w = .ok (.tuple #[.int .u8 c, .bool (isSp (k.val : Int))]) w ∧ (isSp (k.val : Int) = true → c = (k.val : Int)) := by
 obtain ⟨v, ps, hrun, hv⟩ := h.look_ok (int_keyed Try.underlying3) Try.underlying83 (zero_u8 w) (plainElem_int Try.underlying5 (by decide : (Lit.int .u8 0).wf = true)) (keyOf_int_mk Try.underlying3 (sp_wf k))
 obtain ⟨c, rfl, hc, hwc⟩ := plainElem_int_inv Try.underlying5 hv
 refine ⟨c, ?_, fun hs => ?_⟩
 · rw [← sp_has k]; exact hrun
 · have e0 := congrArg Prod.fst hc
   have e1 : spD.atKey (key64 (k.val : Int)) (.lit (.int .u8 0)) = .lit (.int .u8 c) := e0
   rw [sp_at k hs] at e1
   injection e1 with e2
   injection e2 with e3 e4
   exact e4.symm
set_option maxHeartbeats 400000 in
set_option maxRecDepth 100000 in
theorem subchannel_number.calls (a0 r : Int) (w : World) (h : subchannel_number.f a0 = some r) :
 Calls Try.prog 42 #[.int .i64 a0] w fun e w' => e = .returned (.int .u8 r) ∧ Below w.heap.size w w' := by
 unfold subchannel_number.f at h
 split at h
 case isFalse => cases h
 rename_i hr
 obtain ⟨k, hk⟩ : ∃ k : Fin 200, (k.val : Int) = a0 := ⟨⟨a0.toNat, by omega⟩, by simp; omega⟩
 have HL := fun W (h : World.ownsMap W Try.prog 3 (plainElem (H := Unit) Try.prog 5) w.heap.size 4 spD) => Aside0.mk (sp_look k h)
 rw [hk] at HL
 clear hk k hr
 cases hs : isSp a0 with
 | true =>
  rw [hs] at h HL
  rw [if_pos rfl] at h
  cases h
  clear hs
  go_enter Try.func42, Try.ntmps42
  go_wp2_with (fail)
  refine (subchannel_special.calls w).mono ?_
  rintro e w1 ⟨rfl, ho, hb⟩
  obtain ⟨c, hrun, hc⟩ := (HL w1 ho).out
  have hc := hc trivial
  subst hc
  have HB := Aside0.mk hb
  clear ho hb HL
  go_wp2_with (fail)
  go_ret
  exact ⟨rfl, HB.out⟩
 | false =>
  rw [hs] at h HL
  rw [if_neg (by decide)] at h
  obtain ⟨q, hq, rfl⟩ := Option.map_eq_some_iff.mp h
  have HC := fun W => Aside0.mk (endian_BCD.calls a0 q.1 q.2 W hq)
  clear hs h hq
  go_enter Try.func42, Try.ntmps42
  go_wp2_with (fail)
  refine (subchannel_special.calls w).mono ?_
  rintro e w1 ⟨rfl, ho, hb⟩
  obtain ⟨c, hrun, -⟩ := (HL w1 ho).out
  have HB := Aside0.mk hb
  clear ho hb HL
  go_wp2_with (fail)
  refine (HC w1).out.mono ?_
  rintro e w2 ⟨rfl, hd⟩
  have HB2 := Aside0.mk (below_step HB.out hd.below)
  clear hd
  go_wp2_with (fail)
  go_ret
  exact ⟨rfl, HB2.out⟩
set_option maxRecDepth 100000 in
theorem sp_key {x c : Int} (h : ∀ zd, spD.atKey (key64 x) zd = .lit (.int .u8 c)) : isSp x = true ∧ c = x := by
 by_cases hs : isSp x = true
 · refine ⟨hs, ?_⟩
   have hx : x = 160 ∨ x = 161 ∨ x = 162 ∨ x = 170 := by simpa [isSp, or_assoc] using hs
   have hk : ∃ k : Fin 200, (k.val : Int) = x := ⟨⟨x.toNat, by omega⟩, by simp; omega⟩
   obtain ⟨k, rfl⟩ := hk
   have := sp_at k hs
   rw [h] at this
   injection this with e2
   injection e2 with e3 e4
 · exfalso
   have hx : ¬ x = 160 ∧ ¬ x = 161 ∧ ¬ x = 162 ∧ ¬ x = 170 := by simpa [isSp, and_assoc] using hs
   have ne : ∀ y : Int, ¬ x = y → key64 x ≠ key64 y := fun y hy e => hy (by injection e)
   have h1 := h (.lit (.int .u8 (c + 1)))
   unfold spD at h1
   rw [atKey_put_other (ne _ hx.2.2.2), atKey_put_other (ne _ hx.2.2.1), atKey_put_other (ne _ hx.2.1), atKey_put_other (ne _ hx.1)] at h1
   injection h1 with e2
   injection e2 with e3 e4
   omega
end Go.Proofs.Ytpmkibggmkibeaa.G
namespace Go.Proofs.Ytpmkibggmkibeaa.G
open Go.RowKit Go.Proofs.YtpmkibggmkibeaaW.PrintWords Go.Proofs.YtpmkibggmkibeaaW.PrintLast Go.Proofs.YtpmkibggmkibeaaW.PrintMore
attribute [local go_sem] max2_int min2_int max_two min_two max_three min_three max_four min_four   -- for this text's walks alone
set_option linter.unusedVariables false
set_option linter.unusedSimpArgs false
def address_limit.f (a0 : Int) : Option (Int) := (some (([100, 60, 75] : List Int) : List Int)).bind fun y106 => (if 0 ≤ a0 then (if a0 < (y106.length : Int) then (some (rd y106 a0)) else (none)) else (none))
set_option maxHeartbeats 8000000 in
set_option maxRecDepth 100000 in
theorem address_limit.calls (a0 : Int) (r : Int) (w : World) (h : address_limit.f a0 = some r) :
 Calls Try.prog 56 #[.int .i64 a0] w fun e w' => e = .returned (.int .i64 r) ∧ Below w.heap.size w w' := by
 have HB := Aside0.mk (Below.refl w.heap.size w)
 have H : ((some (([100, 60, 75] : List Int) : List Int)).bind fun y106 => (if 0 ≤ a0 then (if a0 < (y106.length : Int) then (some (rd y106 a0)) else (none)) else (none))) = some r := h
 clear h
 obtain ⟨y106, hy106⟩ : ∃ y_ : List Int, y_ = (([100, 60, 75] : List Int)) := ⟨_, rfl⟩
 replace H : (if 0 ≤ a0 then (if a0 < (y106.length : Int) then (some (rd y106 a0)) else (none)) else (none)) = some r := by first | (rw [hy106]; with_reducible exact H) | (have H2_ := (Option.bind_some _ _).symm.trans H; rw [hy106]; with_reducible exact H2_) | (have H2_ := (Option.bind_some _ _).symm.trans H; with_reducible exact H2_) | with_reducible exact H | (rw [hy106]; exact H) | exact H
 have Ny106 := Aside0.mk hy106
 clear hy106
 by_cases c2 : 0 ≤ a0
 · rw [if_pos c2] at H
   have c2b0 : decide (0 ≤ a0) = true := decide_eq_true c2
   clear c2
   by_cases c3 : a0 < (y106.length : Int)
   · rw [if_pos c3] at H
     have c3b0 : decide (a0 < (y106.length : Int)) = true := decide_eq_true c3
     clear c3
     obtain rfl := Option.some.inj H
     go_enter Try.func56, Try.ntmps56
     go_wp2_with (first | ((with_reducible refine gate_dst (N := 3) rfl ?_); refine Kd.R_lit (Kd.int .i64) _ 3 ?hg (N := 3) ?hd (xs := ([100, 60, 75] : List Int)) (inner := [.int .i64 100, .int .i64 60, .int .i64 75]) (ok := fun _ => True) (okp := fun _ => True) ?hr ?hp (fun _ hk => hk) trivial (Below.refl _ _) (Nat.le_refl _) (by simp) ?_; (case hd => rfl); (case hg => rfl); (case hr => first | (go_simp; done) | (go_simp; rfl)); (case hp => exact (Reps.one (show Kd.M (Kd.int .i64) _ _ _ 100 [.int .i64 100] from rfl) (Reps.one (show Kd.M (Kd.int .i64) _ _ _ 60 [.int .i64 60] from rfl) (Reps.one (show Kd.M (Kd.int .i64) _ _ _ 75 [.int .i64 75] from rfl) (Reps.none _ _))))); intro v107 w4 ho5 hb hg_ hnew_; clear hg_ hnew_; (first | rw [← Ny106.out] at ho5 | (simp only [Int.reduceToNat] at ho5; rw [← Ny106.out] at ho5)); have n0_ := Aside0.mk (Kd.R_lower ho5 (below_size (by repeat (first | (with_reducible first | exact HB.out | apply below_alloc | apply pw_below_drewN | apply below_drew1) | exact HB.out)))); have n1_ := Aside0.mk (below_step (by repeat (first | (with_reducible first | exact HB.out | apply below_alloc | apply pw_below_drewN | apply below_drew1) | exact HB.out)) hb); clear HB; have HO108 := n0_; have HB := n1_; clear n0_ n1_; clear hb ho5; obtain ⟨Ao6, co6, eo6⟩ := Kd.R_slice HO108.out; subst eo6; have p109 : 0 ≤ (a0 : Int) := of_decide_eq_true (by first | (with_reducible assumption) | assumption); have q109 : a0 < (y106.length : Int) := of_decide_eq_true (by first | (with_reducible assumption) | assumption); obtain ⟨ad109, e109, hx109_0⟩ := Kd.at_int (Kd.R_reads' HO108.out).2.2 a0 p109 q109; cases e109; replace p109 := eq_true p109; replace q109 := eq_true q109))
     go_ret
     exact ⟨by first | rfl | (simp [errW_none, errW_some] <;> rfl) | (simp [*, errW_none, errW_some] <;> rfl), by repeat (first | (with_reducible first | exact HB.out | apply below_alloc | apply pw_below_drewN | apply below_drew1) | exact HB.out)⟩
   · rw [if_neg c3] at H
     exact absurd H (by simp)
 · rw [if_neg c2] at H
   exact absurd H (by simp)
end Go.Proofs.Ytpmkibggmkibeaa.G
namespace Go.Proofs.Ytpmkibggmkibeaa.G
open Go.RowKit Go.Proofs.YtpmkibggmkibeaaW.PrintWords Go.Proofs.YtpmkibggmkibeaaW.PrintLast Go.Proofs.YtpmkibggmkibeaaW.PrintMore
set_option linter.unusedVariables false
set_option maxHeartbeats 400000 in
set_option maxRecDepth 100000 in
theorem address_split.calls (m s f : Int) (w : World) :
 Calls Try.prog 55 #[.agg #[.int .i64 m, .int .i64 s, .int .i64 f]] w fun e w' => e = .returned (.agg #[.int .i64 m, .int .i64 s, .int .i64 f]) ∧ Below w.heap.size w w' := by
 have hu := Try.underlying25
 have hu3 := Try.underlying75
 go_enter Try.func55, Try.ntmps55
 go_wp2_with (fail)
 refine bodyPost_ret (results_cell_row rfl _ _ (w.heap.size + 1) 75 #[.int .i64 m, .int .i64 s, .int .i64 f] (0, 0) _ rfl (two_new rfl).2.1 hu3 rfl (by kernel_rfl)) rfl ?_
 exact ⟨rfl, (two_new rfl).2.2⟩
def msfB (m s f : Int) : Bool := decide (0 ≤ m ∧ m < 100 ∧ 0 ≤ s ∧ s < 60 ∧ 0 ≤ f ∧ f < 75)
def partB (m s f : Int) (k : Nat) : Bool := match k with
 | 0 => msfB m s f
 | 1 => decide (0 ≤ s ∧ s < 60 ∧ 0 ≤ f ∧ f < 75)
 | 2 => decide (0 ≤ f ∧ f < 75)
 | _ => true
def address_Valid.f (a0_0 a0_1 a0_2 : Int) : Option Bool := some (msfB a0_0 a0_1 a0_2)
set_option maxHeartbeats 400000 in
set_option maxRecDepth 100000 in
theorem address_Valid.calls (a0_0 a0_1 a0_2 : Int) (r : Bool) (w : World) (h : address_Valid.f a0_0 a0_1 a0_2 = some r) :
 Calls Try.prog 37 #[.agg #[.int .i64 a0_0, .int .i64 a0_1, .int .i64 a0_2]] w fun e w' => e = .returned (.bool r) ∧ Below w.heap.size w w' := by
 have hu := Try.underlying25
 have hix0 : ∀ w, (Instr.index 75 (.agg #[.int .i64 a0_0, .int .i64 a0_1, .int .i64 a0_2]) (.int .i64 0)).run Try.prog w = .ok (.int .i64 a0_0) w := fun _ => rfl
 have hix1 : ∀ w, (Instr.index 75 (.agg #[.int .i64 a0_0, .int .i64 a0_1, .int .i64 a0_2]) (.int .i64 1)).run Try.prog w = .ok (.int .i64 a0_1) w := fun _ => rfl
 have hix2 : ∀ w, (Instr.index 75 (.agg #[.int .i64 a0_0, .int .i64 a0_1, .int .i64 a0_2]) (.int .i64 2)).run Try.prog w = .ok (.int .i64 a0_2) w := fun _ => rfl
 have hr : partB a0_0 a0_1 a0_2 0 = r := by cases h; rfl
 have HRR := Aside0.mk hr
 clear h hr
 go_enter Try.func37, Try.ntmps37
 go_wp2_with (fail)
 refine (address_split.calls a0_0 a0_1 a0_2 _).mono ?_
 rintro e w1 ⟨rfl, hb1⟩
 have HB1 := Aside0.mk (below_step (Below.alloc (Below.refl w.heap.size w) (Nat.le_refl _) _) hb1)
 clear hb1
 go_wp2_with (fail)
 go_loopg [7] 3 (fun gk v7 wr => ∃ k : Nat, k ≤ 3 ∧ 3 - k ≤ gk ∧ v7 = .int .i64 k ∧ Aside0 (partB a0_0 a0_1 a0_2 k = r) ∧ Aside0 (Below w.heap.size w wr))
 case atStart => exact ⟨0, by omega, by omega, rfl, HRR, HB1⟩
 case round =>
  obtain ⟨k, hk, hg, rfl, HV, HB⟩ := hrel
  obtain ⟨wo, rfl⟩ : ∃ wo, wo = wr := ⟨_, rfl⟩
  rcases (by omega : k = 0 ∨ k = 1 ∨ k = 2 ∨ k = 3) with rfl | rfl | rfl | rfl
  · have HLIM := Aside0.mk (address_limit.calls 0 100 wo rfl)
    by_cases h0 : a0_0 < 0
    · have hv : r = false := by rw [← HV.out]; exact decide_eq_false (by omega)
      subst hv
      clear hk
      go_wp2_with (fail)
      go_ret
      exact ⟨rfl, HB.out⟩
    · by_cases h1 : 100 ≤ a0_0
      · have hv : r = false := by rw [← HV.out]; exact decide_eq_false (by omega)
        subst hv
        clear hk
        go_wp2_with (fail)
        refine HLIM.out.mono ?_
        rintro e w2 ⟨rfl, hb2⟩
        go_wp2_with (fail)
        go_ret
        exact ⟨rfl, below_step HB.out hb2⟩
      · have HN := Aside0.mk (show partB a0_0 a0_1 a0_2 1 = r by rw [← HV.out]; exact decide_eq_decide.mpr (by omega))
        clear hk
        go_wp2_with (fail)
        refine HLIM.out.mono ?_
        rintro e w2 ⟨rfl, hb2⟩
        go_wp2_with (fail)
        go_roundg 2
        case measure => omega
        case rel => exact ⟨1, by omega, by omega, by go_num, HN, ⟨below_step HB.out hb2⟩⟩
  · have HLIM := Aside0.mk (address_limit.calls 1 60 wo rfl)
    by_cases h0 : a0_1 < 0
    · have hv : r = false := by rw [← HV.out]; exact decide_eq_false (by omega)
      subst hv
      clear hk
      go_wp2_with (fail)
      go_ret
      exact ⟨rfl, HB.out⟩
    · by_cases h1 : 60 ≤ a0_1
      · have hv : r = false := by rw [← HV.out]; exact decide_eq_false (by omega)
        subst hv
        clear hk
        go_wp2_with (fail)
        refine HLIM.out.mono ?_
        rintro e w2 ⟨rfl, hb2⟩
        go_wp2_with (fail)
        go_ret
        exact ⟨rfl, below_step HB.out hb2⟩
      · have HN := Aside0.mk (show partB a0_0 a0_1 a0_2 2 = r by rw [← HV.out]; exact decide_eq_decide.mpr (by omega))
        clear hk
        go_wp2_with (fail)
        refine HLIM.out.mono ?_
        rintro e w2 ⟨rfl, hb2⟩
        go_wp2_with (fail)
        go_roundg 1
        case measure => omega
        case rel => exact ⟨2, by omega, by omega, by go_num, HN, ⟨below_step HB.out hb2⟩⟩
  · have HLIM := Aside0.mk (address_limit.calls 2 75 wo rfl)
    by_cases h0 : a0_2 < 0
    · have hv : r = false := by rw [← HV.out]; exact decide_eq_false (by omega)
      subst hv
      clear hk
      go_wp2_with (fail)
      go_ret
      exact ⟨rfl, HB.out⟩
    · by_cases h1 : 75 ≤ a0_2
      · have hv : r = false := by rw [← HV.out]; exact decide_eq_false (by omega)
        subst hv
        clear hk
        go_wp2_with (fail)
        refine HLIM.out.mono ?_
        rintro e w2 ⟨rfl, hb2⟩
        go_wp2_with (fail)
        go_ret
        exact ⟨rfl, below_step HB.out hb2⟩
      · have HN := Aside0.mk (show partB a0_0 a0_1 a0_2 3 = r by rw [← HV.out]; exact (decide_eq_true (by omega)).symm)
        clear hk
        go_wp2_with (fail)
        refine HLIM.out.mono ?_
        rintro e w2 ⟨rfl, hb2⟩
        go_wp2_with (fail)
        go_roundg 0
        case measure => omega
        case rel => exact ⟨3, by omega, by omega, by go_num, HN, ⟨below_step HB.out hb2⟩⟩
  · have hv : r = true := HV.out.symm
    subst hv
    clear hk
    go_wp2_with (fail)
    go_ret
    exact ⟨rfl, HB.out⟩
end Go.Proofs.Ytpmkibggmkibeaa.G
namespace Go.Proofs.Ytpmkibggmkibeaa.G
open Go.RowKit Go.Proofs.YtpmkibggmkibeaaW.PrintWords Go.Proofs.YtpmkibggmkibeaaW.PrintLast Go.Proofs.YtpmkibggmkibeaaW.PrintMore
open Go.Shelf
def shelfRen : Ren where
 f := fun n => if n = 166 then 71 else if n = 240 then 75 else if n = 276 then 77 else if n = 169 then 72 else n
 t := fun n => if n = 37 then 49 else if n = 70 then 90 else if n = 72 then 92 else if n = 75 then 94 else if n = 80 then 97 else if n = 164 then 102 else if n = 127 then 99 else n
 g := fun n => n
theorem shelf_n166 : Lays.n166 Try.prog shelfRen where
 mixed := by kernel_rfl
 f166 := by kernel_rfl
 f240 := by kernel_rfl
 f276 := by kernel_rfl
 t0 := Try.underlying0
 a0 := Try.isAgg0
 z0 := Try.sizeOf0
 v0 := Try.zeroValue0
 t3 := Try.underlying3
 a3 := Try.isAgg3
 z3 := Try.sizeOf3
 v3 := Try.zeroValue3
 t4 := Try.underlying4
 a4 := Try.isAgg4
 z4 := Try.sizeOf4
 v4 := Try.zeroValue4
 t9 := Try.underlying9
 a9 := Try.isAgg9
 z9 := Try.sizeOf9
 v9 := Try.zeroValue9
 t20 := Try.underlying20
 a20 := Try.isAgg20
 z20 := Try.sizeOf20
 v20 := Try.zeroValue20
 t37 := Try.underlying49
 a37 := Try.isAgg49
 z37 := Try.sizeOf49
 v37 := Try.zeroValue49
 t70 := Try.underlying90
 a70 := Try.isAgg90
 z70 := Try.sizeOf90
 v70 := Try.zeroValue90
 t72 := Try.underlying92
 a72 := Try.isAgg92
 z72 := Try.sizeOf92
 v72 := Try.zeroValue92
 t75 := Try.underlying94
 a75 := Try.isAgg94
 z75 := Try.sizeOf94
 v75 := Try.zeroValue94
 t164 := Try.underlying102
 a164 := Try.isAgg102
 z164 := Try.sizeOf102
 v164 := Try.zeroValue102
theorem shelf_n169 : Lays.n169 Try.prog shelfRen where
 mixed := by kernel_rfl
 f169 := by kernel_rfl
 t0 := Try.underlying0
 a0 := Try.isAgg0
 z0 := Try.sizeOf0
 v0 := Try.zeroValue0
 t3 := Try.underlying3
 a3 := Try.isAgg3
 z3 := Try.sizeOf3
 v3 := Try.zeroValue3
 t9 := Try.underlying9
 a9 := Try.isAgg9
 z9 := Try.sizeOf9
 v9 := Try.zeroValue9
 t37 := Try.underlying49
 a37 := Try.isAgg49
 z37 := Try.sizeOf49
 v37 := Try.zeroValue49
 t70 := Try.underlying90
 a70 := Try.isAgg90
 z70 := Try.sizeOf90
 v70 := Try.zeroValue90
 t72 := Try.underlying92
 a72 := Try.isAgg92
 z72 := Try.sizeOf92
 v72 := Try.zeroValue92
 t127 := Try.underlying99
 a127 := Try.isAgg99
 z127 := Try.sizeOf99
 v127 := Try.zeroValue99
theorem shelf_builder : Builder.Extra Try.prog shelfRen where
 sizeBuilder := by kernel_rfl
 liesBuilder := by kernel_rfl
 t5 := Try.underlying5
 a5 := Try.isAgg5
 z5 := Try.sizeOf5
 v5 := Try.zeroValue5
 infoByte := by kernel_rfl
 cellsByte := by kernel_rfl
 sizeByte := by kernel_rfl
 neB5 := by decide
theorem builder_write (B b : Nat) (bs : List Value) (s : ByteArray) (w : World) (h : Lib.IsBuilderF 92 5 B b bs w) (hlen : bs.length + s.size ≤ 140737488355328) (hBw : B ≤ w.heap.size) :
 Calls Try.prog 71 #[.pointer (some ⟨b, 0, none⟩), .string s] w fun e w' => e = .returned (.tuple #[.int .i64 s.size, .nilIface]) ∧ Lib.BuilderAtF 92 5 B b (.pointer (some ⟨b, 0, none⟩)) (bs ++ Lib.strCells s) w' ∧ Below B w w' ∧ Lib.OthersKept 5 (some b) w w' :=
 Any.Builder_WriteString_k shelf_n166 shelf_builder B b bs s w h hlen hBw
theorem builder_string (B b : Nat) (l : List UInt8) (w : World) (h : Lib.IsBuilderF 92 5 B b (Lib.byteCells l) w) (hBw : B ≤ w.heap.size) :
 Calls Try.prog 72 #[.pointer (some ⟨b, 0, none⟩)] w fun e w' => e = .returned (.string ⟨l.toArray⟩) ∧ Lib.IsBuilderF 92 5 B b (Lib.byteCells l) w' ∧ Below B w w' ∧ Lib.OthersKept 5 (some b) w w' :=
 Any.Builder_String_any_k shelf_n169 shelf_builder B b l w h hBw
end Go.Proofs.Ytpmkibggmkibeaa.G
namespace Go.Proofs.Ytpmkibggmkibeaa.G
open Go.RowKit Go.Proofs.YtpmkibggmkibeaaW.PrintWords Go.Proofs.YtpmkibggmkibeaaW.PrintLast Go.Proofs.YtpmkibggmkibeaaW.PrintMore
attribute [local go_sem] max2_int min2_int max_two min_two max_three min_three max_four min_four   -- for this text's walks alone
set_option linter.unusedVariables false
set_option linter.unusedSimpArgs false
def address_Encode_1.f (a0 : Int) : Option (ByteArray) := (endian_BCD.f a0).bind fun bt101 => (some (strOfNums (([bt101.1] : List Int))))
set_option maxHeartbeats 8000000 in
set_option maxRecDepth 100000 in
theorem address_Encode_1.calls (a0 : Int) (r : ByteArray) (w : World) (h : address_Encode_1.f a0 = some r) :
 Calls Try.prog 58 #[.int .i64 a0] w fun e w' => e = .returned (.string r) ∧ Below w.heap.size w w' := by
 have HB := Aside0.mk (Below.refl w.heap.size w)
 have H : ((endian_BCD.f a0).bind fun bt101 => (some (strOfNums (([bt101.1] : List Int))))) = some r := h
 clear h
 replace H := Option.bind_eq_some_iff.mp H
 obtain ⟨⟨t101, t102⟩, A20, H⟩ := H
 replace H : (some (strOfNums (([t101] : List Int)))) = some r := H
 have A2 := Aside0.mk A20
 clear A20
 obtain ⟨y103, hy103⟩ : ∃ y_ : List Int, y_ = (([t101] : List Int)) := ⟨_, rfl⟩
 replace H : (some (strOfNums y103)) = some r := by first | (rw [hy103]; with_reducible exact H) | (have H2_ := (Option.bind_some _ _).symm.trans H; rw [hy103]; with_reducible exact H2_) | (have H2_ := (Option.bind_some _ _).symm.trans H; with_reducible exact H2_) | with_reducible exact H | (rw [hy103]; exact H) | exact H
 have Ny103 := Aside0.mk hy103
 clear hy103
 obtain rfl := Option.some.inj H
 go_enter Try.func58, Try.ntmps58
 go_wp2_with (first | ((with_reducible refine gate_callee (f := 59) rfl ?_); refine goesL_ (some 7) rfl rfl Try.func59 (by kernel_rfl) rfl #[.int .i64 a0] rfl (by (try simp only [List.map_toArray, List.map_cons, List.map_nil]); first | done | rfl | (simp only [List.length_drop, List.length_take]; rfl)) ?_; (with_reducible refine (endian_BCD.calls a0 t101 t102 _ A2.out).mono ?_); rintro e w' ⟨rfl, ⟨nd, rfl⟩⟩; refine ⟨_, rfl, ?_⟩) | ((with_reducible refine gate_dst (N := 11) rfl ?_); refine Kd.R_lit (Kd.int .u8) _ 5 ?hg (N := 11) ?hd (xs := ([t101] : List Int)) (inner := [.int .u8 t101]) (ok := fun _ => True) (okp := fun _ => True) ?hr ?hp (fun _ hk => hk) trivial (Below.refl _ _) (Nat.le_refl _) (by simp) ?_; (case hd => rfl); (case hg => rfl); (case hr => first | (go_simp; done) | (go_simp; rfl)); (case hp => exact (Reps.one (show Kd.M (Kd.int .u8) _ _ _ t101 [.int .u8 t101] from rfl) (Reps.none _ _))); intro v104 w3 ho4 hb hg_ hnew_; clear hg_ hnew_; (first | rw [← Ny103.out] at ho4 | (simp only [Int.reduceToNat] at ho4; rw [← Ny103.out] at ho4)); have n0_ := Aside0.mk (Kd.R_lower ho4 (below_size (by repeat (first | (with_reducible first | exact HB.out | apply below_alloc | apply pw_below_drewN | apply below_drew1) | exact HB.out)))); have n1_ := Aside0.mk (below_step (by repeat (first | (with_reducible first | exact HB.out | apply below_alloc | apply pw_below_drewN | apply below_drew1) | exact HB.out)) hb); clear HB; have HO105 := n0_; have HB := n1_; clear n0_ n1_; clear hb ho4; have hcv5 := own_string (P := Try.prog) Try.underlying49 Try.underlying5 Try.underlying9 (Kd.own_of_R HO105.out)))
 go_ret
 exact ⟨by first | rfl | (simp [errW_none, errW_some] <;> rfl) | (simp [*, errW_none, errW_some] <;> rfl), by repeat (first | (with_reducible first | exact HB.out | apply below_alloc | apply pw_below_drewN | apply below_drew1) | exact HB.out)⟩
end Go.Proofs.Ytpmkibggmkibeaa.G
