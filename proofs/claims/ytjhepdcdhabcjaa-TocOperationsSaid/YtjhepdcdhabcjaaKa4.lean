/- Texts of one claim, merged by a program of this session; what is proved stands in the last of them. -/
import Derived.Test.YtjhepdcdhabcjaaKa1
import Derived.Test.YtjhepdcdhabcjaaKa3
namespace Go.Proofs.Ytjhepdcdhabcjaa.G
open Go.RowKit Go.Proofs.YtjhepdcdhabcjaaW.PrintWords Go.Proofs.YtjhepdcdhabcjaaW.PrintLast Go.Proofs.YtjhepdcdhabcjaaW.PrintMore
attribute [local go_sem] max2_int min2_int max_two min_two max_three min_three max_four min_four   -- for this text's walks alone
set_option linter.unusedVariables false
set_option linter.unusedSimpArgs false
mutual
def masterdiscref14_Reserve.j0 : Nat → Int → Int → Int → Bool → Int → Bool → List (S40) → Option (Int × Bool × (List (S40)) × Int)
 | 0, _, _, _, _, _, _, _ => none
 | k + 1, x0, x2, x3, x23, x210000, x210001, x210002 => if x23 = true then (some (0, false, ([] : List (S40)), 1)) else (if (x210002.length : Int) = 99 then (masterdiscref14_Reserve.j1 k x0 x2 x3 true x210000 x210001 x210002) else (masterdiscref14_Reserve.j1 k x0 x2 x3 (x210000 == 16) x210000 x210001 x210002))
def masterdiscref14_Reserve.j1 : Nat → Int → Int → Int → Bool → Int → Bool → List (S40) → Option (Int × Bool × (List (S40)) × Int)
 | 0, _, _, _, _, _, _, _ => none
 | k + 1, x0, x2, x3, x45, x210000, x210001, x210002 => if x45 = true then (some (0, false, ([] : List (S40)), 7)) else (if (x210002.length : Int) > 0 then (if 0 ≤ (wrap64 ((x210002.length : Int) - 1)) then (if (wrap64 ((x210002.length : Int) - 1)) < (x210002.length : Int) then (if ((rd_T40 x210002 (wrap64 ((x210002.length : Int) - 1))).f1) ≤ x210000 then (masterdiscref14_Reserve.j2 k x0 x2 x3 (wrap64 ((wrap64 (((rd_T40 x210002 (wrap64 ((x210002.length : Int) - 1))).f2) + ((rd_T40 x210002 (wrap64 ((x210002.length : Int) - 1))).f3))) + 16)) x210000 x210001 x210002) else (masterdiscref14_Reserve.j2 k x0 x2 x3 (wrap64 (((rd_T40 x210002 (wrap64 ((x210002.length : Int) - 1))).f2) + ((rd_T40 x210002 (wrap64 ((x210002.length : Int) - 1))).f3))) x210000 x210001 x210002)) else (none)) else (none)) else (masterdiscref14_Reserve.j2 k x0 x2 x3 0 x210000 x210001 x210002))
def masterdiscref14_Reserve.j2 : Nat → Int → Int → Int → Int → Int → Bool → List (S40) → Option (Int × Bool × (List (S40)) × Int)
 | 0, _, _, _, _, _, _, _ => none
 | k + 1, x0, x2, x3, x10, x210000, x210001, x210002 => if x2 > (wrap64 (x0 - x10)) then (some (0, false, ([] : List (S40)), 12)) else ((some (([] : List (S40)) : List (S40))).bind fun y216 => (if y216.length + x210002.length < 2513169434916 then ((some (y216 ++ x210002 : List (S40))).bind fun y219 => ((some (([(⟨wrap64 ((x210002.length : Int) + 1), wrap64 (x210000 + 1), x10, x2, x10, 0, x3⟩ : S40)] : List (S40)) : List (S40))).bind fun y222 => (if y219.length + y222.length < 2513169434916 then (some (x210000, x210001, (y219 ++ y222), 0)) else (none)))) else (none)))
end
def masterdiscref14_Reserve.f (k : Nat) (a0 : Int) (a1_0 : Int) (a1_1 : Bool) (l1_2 : List (S40)) (a2 : Int) (a3 : Int) : Option (Int × Bool × (List (S40)) × Int) := (masterdiscref14_Valid.f a0 a1_0 a1_1 l1_2).bind fun t211 => (if t211 = true then (if a1_1 = true then (some (0, false, ([] : List (S40)), 15)) else (if a2 < 1 then (masterdiscref14_Reserve.j0 k a0 a2 a3 true a1_0 a1_1 l1_2) else (if a3 < 0 then (masterdiscref14_Reserve.j0 k a0 a2 a3 true a1_0 a1_1 l1_2) else (if a3 > 1024 then (masterdiscref14_Reserve.j0 k a0 a2 a3 true a1_0 a1_1 l1_2) else (if a3 > 0 then (if a3 = 0 then (none) else (masterdiscref14_Reserve.j0 k a0 a2 a3 ((Int.tmod a2 a3) != 0) a1_0 a1_1 l1_2)) else (masterdiscref14_Reserve.j0 k a0 a2 a3 false a1_0 a1_1 l1_2)))))) else (some (0, false, ([] : List (S40)), 1)))
theorem masterdiscref14_Reserve.mono_l : ∀ k, (∀ y0 y1 y2 y3 y4 y5 y6, LeO (masterdiscref14_Reserve.j0 k y0 y1 y2 y3 y4 y5 y6) (masterdiscref14_Reserve.j0 (k + 1) y0 y1 y2 y3 y4 y5 y6)) ∧ (∀ y0 y1 y2 y3 y4 y5 y6, LeO (masterdiscref14_Reserve.j1 k y0 y1 y2 y3 y4 y5 y6) (masterdiscref14_Reserve.j1 (k + 1) y0 y1 y2 y3 y4 y5 y6)) ∧ (∀ y0 y1 y2 y3 y4 y5 y6, LeO (masterdiscref14_Reserve.j2 k y0 y1 y2 y3 y4 y5 y6) (masterdiscref14_Reserve.j2 (k + 1) y0 y1 y2 y3 y4 y5 y6))
 | 0 => ⟨fun _ _ _ _ _ _ _ r h => by simp [masterdiscref14_Reserve.j0] at h, fun _ _ _ _ _ _ _ r h => by simp [masterdiscref14_Reserve.j1] at h, fun _ _ _ _ _ _ _ r h => by simp [masterdiscref14_Reserve.j2] at h⟩
 | k + 1 => by
  obtain ⟨ih0, ih1, ih2⟩ := masterdiscref14_Reserve.mono_l k
  refine ⟨?_, ?_, ?_⟩
  · intro y0 y1 y2 y3 y4 y5 y6
    unfold masterdiscref14_Reserve.j0
    repeat' first
    | (with_reducible exact ih0 _ _ _ _ _ _ _)
    | (with_reducible exact ih1 _ _ _ _ _ _ _)
    | (with_reducible exact ih2 _ _ _ _ _ _ _)
    | (with_reducible exact LeO.refl _)
    | (with_reducible exact LeO.none _)
    | (with_reducible refine LeO.ite ?_ ?_)
    | (with_reducible refine LeO.bind ?_ (fun _ => ?_))
    | exact ih0 _ _ _ _ _ _ _
    | exact ih1 _ _ _ _ _ _ _
    | exact ih2 _ _ _ _ _ _ _
    | exact LeO.none _
    | refine LeO.ite ?_ ?_
    | refine LeO.bind ?_ (fun _ => ?_)
  · intro y0 y1 y2 y3 y4 y5 y6
    unfold masterdiscref14_Reserve.j1
    repeat' first
    | (with_reducible exact ih0 _ _ _ _ _ _ _)
    | (with_reducible exact ih1 _ _ _ _ _ _ _)
    | (with_reducible exact ih2 _ _ _ _ _ _ _)
    | (with_reducible exact LeO.refl _)
    | (with_reducible exact LeO.none _)
    | (with_reducible refine LeO.ite ?_ ?_)
    | (with_reducible refine LeO.bind ?_ (fun _ => ?_))
    | exact ih0 _ _ _ _ _ _ _
    | exact ih1 _ _ _ _ _ _ _
    | exact ih2 _ _ _ _ _ _ _
    | exact LeO.none _
    | refine LeO.ite ?_ ?_
    | refine LeO.bind ?_ (fun _ => ?_)
  · intro y0 y1 y2 y3 y4 y5 y6
    unfold masterdiscref14_Reserve.j2
    repeat' first
    | (with_reducible exact ih0 _ _ _ _ _ _ _)
    | (with_reducible exact ih1 _ _ _ _ _ _ _)
    | (with_reducible exact ih2 _ _ _ _ _ _ _)
    | (with_reducible exact LeO.refl _)
    | (with_reducible exact LeO.none _)
    | (with_reducible refine LeO.ite ?_ ?_)
    | (with_reducible refine LeO.bind ?_ (fun _ => ?_))
    | exact ih0 _ _ _ _ _ _ _
    | exact ih1 _ _ _ _ _ _ _
    | exact ih2 _ _ _ _ _ _ _
    | exact LeO.none _
    | refine LeO.ite ?_ ?_
    | refine LeO.bind ?_ (fun _ => ?_)
theorem masterdiscref14_Reserve.mono : ∀ a0 a1 a2 a3 a4 a5 k, LeO (masterdiscref14_Reserve.f k a0 a1 a2 a3 a4 a5) (masterdiscref14_Reserve.f (k + 1) a0 a1 a2 a3 a4 a5) := by
 intro a0 a1 a2 a3 a4 a5 k
 obtain ⟨ih0, ih1, ih2⟩ := masterdiscref14_Reserve.mono_l k
 unfold masterdiscref14_Reserve.f
 repeat' first
  | (with_reducible exact ih0 _ _ _ _ _ _ _)
  | (with_reducible exact ih1 _ _ _ _ _ _ _)
  | (with_reducible exact ih2 _ _ _ _ _ _ _)
  | (with_reducible exact LeO.refl _)
  | (with_reducible exact LeO.none _)
  | (with_reducible refine LeO.ite ?_ ?_)
  | (with_reducible refine LeO.bind ?_ (fun _ => ?_))
  | exact ih0 _ _ _ _ _ _ _
  | exact ih1 _ _ _ _ _ _ _
  | exact ih2 _ _ _ _ _ _ _
  | exact LeO.none _
  | refine LeO.ite ?_ ?_
  | refine LeO.bind ?_ (fun _ => ?_)
def masterdiscref14_Reserve.T12 : Bool × List (List Nat × List Nat) := (true, [([], []), ([0], [0]), ([], []), ([2], [2]), ([1, 3], [1, 3]), ([4], [4]), ([5], [5]), ([], []), ([7], [7]), ([], []), ([9], [9]), ([8, 10], [8, 10]), ([11], [11]), ([12], [12]), ([6, 13], [6, 13]), ([14, 0, 1, 2, 3, 4, 5, 6, 7, 8, 9, 10, 11, 12, 13, 14], [14])])
def masterdiscref14_Reserve.B12 : List Nat := [0, 1, 0, 4, 15, 31, 63, 0, 128, 0, 512, 1920, 3968, 8064, 16383, 32767]
theorem masterdiscref14_Reserve.tab12 : rtab .any (opsOf Try.f20 12) = masterdiscref14_Reserve.T12 := by kernel_rfl
theorem masterdiscref14_Reserve.bits12 : waitsOk masterdiscref14_Reserve.T12.2 masterdiscref14_Reserve.B12 = true := by kernel_rfl
def masterdiscref14_Reserve.T13 : Bool × List (List Nat × List Nat) := (true, [([], []), ([0], [0]), ([], []), ([2], [2]), ([1, 3], [1, 3]), ([4], [4]), ([5], [5]), ([], []), ([7], [7]), ([6, 8], [6, 8])])
def masterdiscref14_Reserve.B13 : List Nat := [0, 1, 0, 4, 15, 31, 63, 0, 128, 511]
theorem masterdiscref14_Reserve.tab13 : rtab .any (opsOf Try.f20 13) = masterdiscref14_Reserve.T13 := by kernel_rfl
theorem masterdiscref14_Reserve.bits13 : waitsOk masterdiscref14_Reserve.T13.2 masterdiscref14_Reserve.B13 = true := by kernel_rfl
def masterdiscref14_Reserve.T18 : Bool × List (List Nat × List Nat) := (true, [([], []), ([], []), ([1], [1]), ([0, 2], [0, 2]), ([], []), ([4], [4]), ([3, 5, 3], [3, 5]), ([0, 1, 2, 3, 4, 5, 6], []), ([7, 6, 6, 0, 1, 2, 3, 4, 5, 6], [6, 7])])
def masterdiscref14_Reserve.B18 : List Nat := [0, 0, 2, 7, 0, 16, 63, 127, 255]
theorem masterdiscref14_Reserve.tab18 : rtab .any (opsOf Try.f20 18) = masterdiscref14_Reserve.T18 := by kernel_rfl
theorem masterdiscref14_Reserve.bits18 : waitsOk masterdiscref14_Reserve.T18.2 masterdiscref14_Reserve.B18 = true := by kernel_rfl
set_option maxHeartbeats 8000000 in
set_option maxRecDepth 100000 in
theorem masterdiscref14_Reserve.calls (k : Nat) (a0 : Int) (a1_0 : Int) (a1_1 : Bool) (A1_2 : Option Addr) (c1_2 : Nat) (l1_2 : List (S40)) (a2 : Int) (a3 : Int) (r1 : Int) (r2 : Bool) (r3 : List (S40)) (r4 : Int) (w : World) (hr1_2 : Kd.C k40 w A1_2 l1_2.length l1_2) (hc1_2 : l1_2.length ≤ c1_2) (h : masterdiscref14_Reserve.f k a0 a1_0 a1_1 l1_2 a2 a3 = some (r1, r2, r3, r4)) :
 Calls Try.prog 20 #[.int .i64 a0, .agg #[.int .i64 a1_0, .bool a1_1, .slice A1_2 l1_2.length c1_2], .int .i64 a2, .int .i64 a3] w fun e w' => ∃ v2_ : Value, e = .returned (.tuple #[.agg #[.int .i64 r1, .bool r2, v2_], .int .i64 r4]) ∧ Kd.R k40 40 w' w.heap.size (fun _ => True) v2_ r3 ∧ Below w.heap.size w w' := by
 have hu24 := Try.underlying24
 have hu40 := Try.underlying40
 have HR1_2 := Aside0.mk hr1_2
 have HC1_2 := Aside0.mk hc1_2
 clear hr1_2 hc1_2
 have HB := Aside0.mk (Below.refl w.heap.size w)
 have H : ((masterdiscref14_Valid.f a0 a1_0 a1_1 l1_2).bind fun t211 => (if t211 = true then (if a1_1 = true then (some (0, false, ([] : List (S40)), 15)) else (if a2 < 1 then (masterdiscref14_Reserve.j0 k a0 a2 a3 true a1_0 a1_1 l1_2) else (if a3 < 0 then (masterdiscref14_Reserve.j0 k a0 a2 a3 true a1_0 a1_1 l1_2) else (if a3 > 1024 then (masterdiscref14_Reserve.j0 k a0 a2 a3 true a1_0 a1_1 l1_2) else (if a3 > 0 then (if a3 = 0 then (none) else (masterdiscref14_Reserve.j0 k a0 a2 a3 ((Int.tmod a2 a3) != 0) a1_0 a1_1 l1_2)) else (masterdiscref14_Reserve.j0 k a0 a2 a3 false a1_0 a1_1 l1_2)))))) else (some (0, false, ([] : List (S40)), 1)))) = some (r1, r2, r3, r4) := h
 clear h
 replace H := Option.bind_eq_some_iff.mp H
 obtain ⟨t211, A50, H⟩ := H
 replace H : (if t211 = true then (if a1_1 = true then (some (0, false, ([] : List (S40)), 15)) else (if a2 < 1 then (masterdiscref14_Reserve.j0 k a0 a2 a3 true a1_0 a1_1 l1_2) else (if a3 < 0 then (masterdiscref14_Reserve.j0 k a0 a2 a3 true a1_0 a1_1 l1_2) else (if a3 > 1024 then (masterdiscref14_Reserve.j0 k a0 a2 a3 true a1_0 a1_1 l1_2) else (if a3 > 0 then (if a3 = 0 then (none) else (masterdiscref14_Reserve.j0 k a0 a2 a3 ((Int.tmod a2 a3) != 0) a1_0 a1_1 l1_2)) else (masterdiscref14_Reserve.j0 k a0 a2 a3 false a1_0 a1_1 l1_2)))))) else (some (0, false, ([] : List (S40)), 1))) = some (r1, r2, r3, r4) := H
 have A5 := Aside0.mk A50
 clear A50
 by_cases c6 : t211 = true
 · subst c6
   have H1 : (if a1_1 = true then (some (0, false, ([] : List (S40)), 15)) else (if a2 < 1 then (masterdiscref14_Reserve.j0 k a0 a2 a3 true a1_0 a1_1 l1_2) else (if a3 < 0 then (masterdiscref14_Reserve.j0 k a0 a2 a3 true a1_0 a1_1 l1_2) else (if a3 > 1024 then (masterdiscref14_Reserve.j0 k a0 a2 a3 true a1_0 a1_1 l1_2) else (if a3 > 0 then (if a3 = 0 then (none) else (masterdiscref14_Reserve.j0 k a0 a2 a3 ((Int.tmod a2 a3) != 0) a1_0 a1_1 l1_2)) else (masterdiscref14_Reserve.j0 k a0 a2 a3 false a1_0 a1_1 l1_2)))))) = some (r1, r2, r3, r4) := by rw [if_pos rfl] at H; exact H
   clear H
   have H := H1
   clear H1
   by_cases c7 : a1_1 = true
   · subst c7
     have H1 : (some (0, false, ([] : List (S40)), 15)) = some (r1, r2, r3, r4) := by rw [if_pos rfl] at H; exact H
     clear H
     have H := H1
     clear H1
     simp only [Option.some.injEq, Prod.mk.injEq] at H
     obtain ⟨rfl, rfl, rfl, rfl⟩ := H
     go_enter Try.func20, Try.ntmps20
     go_wp2_with (first | ((with_reducible refine gate_dst (N := 5) rfl ?_); refine box_event ?hg (N := 5) ?hd (cs := #[.int .i64 a1_0, .bool true, .slice A1_2 l1_2.length c1_2]) (t := 24) ?hr ?_; (case hd => rfl); (case hg => rfl); (case hr => first | (go_simp; done) | (go_simp; rfl)); intro gb209 hg w8 hbox hb; have n0_ := Aside0.mk (below_step (by repeat (first | (with_reducible first | exact HB.out | apply below_alloc | apply pw_below_drewN | apply below_drew1) | exact HB.out)) hb); have n1_ := Aside0.mk (hbox); have n2_ := Aside0.mk ((by rw [hg]; exact (below_size (by repeat (first | (with_reducible first | exact HB.out | apply below_alloc | apply pw_below_drewN | apply below_drew1) | exact HB.out))) : w.heap.size ≤ gb209)); have n3_ := Aside0.mk ((by rw [hg]; exact (below_size (by repeat (first | (with_reducible first | exact HB.out | apply below_alloc | apply pw_below_drewN | apply below_drew1) | exact HB.out))) : w.heap.size ≤ gb209)); clear HB; have HB := n0_; have BK209 := n1_; have GW209 := n2_; have GE209 := n3_; clear n0_ n1_ n2_ n3_; clear hb hbox hg) | ((with_reducible refine gate_dst (N := 8) rfl ?_); refine box_event ?hg (N := 8) ?hd (cs := #[.int .i64 0, .bool false, .slice none 0 0]) (t := 24) ?hr ?_; (case hd => rfl); (case hg => rfl); (case hr => first | (go_simp; done) | (go_simp; rfl)); intro gb210 hg w9 hbox hb; have n0_ := Aside0.mk (blk_below (g := gb209) (o := .cells #[.int .i64 a1_0, .bool true, .slice A1_2 l1_2.length c1_2] 24 (0, 0)) (by (with_reducible repeat (first | refine blk_drewN ?_ _ | refine blk_drew ?_ | refine blk_alloc ?_ _)); exact BK209.out) hb); have n1_ := Aside0.mk (below_step (by repeat (first | (with_reducible first | exact HB.out | apply below_alloc | apply pw_below_drewN | apply below_drew1 | refine below_set ?_ GE209.out) | exact HB.out)) hb); have n2_ := Aside0.mk (hbox); have n3_ := Aside0.mk ((by rw [hg]; exact (below_size (by repeat (first | (with_reducible first | exact HB.out | apply below_alloc | apply pw_below_drewN | apply below_drew1 | refine below_set ?_ GE209.out) | exact HB.out))) : w.heap.size ≤ gb210)); have n4_ := Aside0.mk ((by rw [hg]; exact (below_size (by repeat (first | (with_reducible first | exact HB.out | apply below_alloc | apply pw_below_drewN | apply below_drew1 | refine below_set ?_ GE209.out) | exact HB.out))) : w.heap.size ≤ gb210)); have n5_ := Aside0.mk ((by rw [hg]; exact Nat.ne_of_lt (blk_lt (g := gb209) (o := .cells #[.int .i64 a1_0, .bool true, .slice A1_2 l1_2.length c1_2] 24 (0, 0)) (by (with_reducible repeat (first | refine blk_drewN ?_ _ | refine blk_drew ?_ | refine blk_alloc ?_ _)); exact BK209.out)) : gb209 ≠ gb210)); have n6_ := Aside0.mk ((by rw [hg]; exact Nat.ne_of_gt (blk_lt (g := gb209) (o := .cells #[.int .i64 a1_0, .bool true, .slice A1_2 l1_2.length c1_2] 24 (0, 0)) (by (with_reducible repeat (first | refine blk_drewN ?_ _ | refine blk_drew ?_ | refine blk_alloc ?_ _)); exact BK209.out)) : gb210 ≠ gb209)); clear BK209; clear HB; have BK209 := n0_; have HB := n1_; have BK210 := n2_; have GW210 := n3_; have GE210 := n4_; have NB209_210 := n5_; have NB210_209 := n6_; clear n0_ n1_ n2_ n3_ n4_ n5_ n6_; clear hb hbox hg; have hnb10 := NB209_210.out; have hnc10 := NB210_209.out; obtain ⟨hcz11_0, hcz11_1, hcz11_2⟩ := cel3 BK209.out; obtain ⟨hfz11_0, hfz11_1, hfz11_2⟩ := frz3 BK209.out) | ((with_reducible refine gate_callee (f := 11) rfl ?_); refine goesL_ (some 16) rfl rfl Try.func11 (by kernel_rfl) rfl #[.int .i64 a0, .agg #[.int .i64 a1_0, .bool true, .slice A1_2 l1_2.length c1_2]] rfl (by (try simp only [List.map_toArray, List.map_cons, List.map_nil]); first | done | rfl | (simp only [List.length_drop, List.length_take]; rfl)) ?_; (with_reducible refine (masterdiscref14_Valid.calls a0 a1_0 true _ _ l1_2 true _ ?side1 ?side2 A5.out).mono ?_); (case side1 => repeat (first | exact (Kd.C_below HR1_2.out HB.out) | (with_reducible refine Kd.C_alloc ?_ _) | (with_reducible refine Kd.C_drewN ?_ _) | (with_reducible refine Kd.C_drew ?_))); (case side2 => exact HC1_2.out); rintro e w12 ⟨rfl, hb⟩; refine ⟨_, rfl, ?_⟩; have n0_ := Aside0.mk (blk_below (g := gb209) (o := .cells #[.int .i64 a1_0, .bool true, .slice A1_2 l1_2.length c1_2] 24 (0, 0)) (by (with_reducible repeat (first | refine blk_drewN ?_ _ | refine blk_drew ?_ | refine blk_alloc ?_ _)); exact BK209.out) hb); have n1_ := Aside0.mk (blk_below (g := gb210) (o := .cells #[.int .i64 0, .bool false, .slice none 0 0] 24 (0, 0)) (by (with_reducible repeat (first | refine blk_drewN ?_ _ | refine blk_drew ?_ | refine blk_alloc ?_ _)); exact BK210.out) hb); have n2_ := Aside0.mk (below_step (by repeat (first | (with_reducible first | exact HB.out | apply below_alloc | apply pw_below_drewN | apply below_drew1 | refine below_set ?_ GE209.out | refine below_set ?_ GE210.out) | exact HB.out)) hb); clear BK209; clear BK210; clear HB; have BK209 := n0_; have BK210 := n1_; have HB := n2_; clear n0_ n1_ n2_; (try clear hb); (try clear hb2); (try clear hk); (try clear hi); obtain ⟨hcz13_0, hcz13_1, hcz13_2⟩ := cel3 BK209.out; obtain ⟨hfz13_0, hfz13_1, hfz13_2⟩ := frz3 BK209.out; obtain ⟨hcz14_0, hcz14_1, hcz14_2⟩ := cel3 BK210.out; obtain ⟨hfz14_0, hfz14_1, hfz14_2⟩ := frz3 BK210.out))
     refine bodyPost_ret (results_ct rfl _ _ gb210 24 #[.int .i64 0, .bool false, .slice none 0 0] (0, 0) _ rfl (by (with_reducible repeat (first | refine blk_drewN ?_ _ | refine blk_drew ?_ | refine blk_alloc ?_ _)); refine blk_put (cs := #[.int .i64 0, .bool false, .slice none 0 0]) ?_ 2 _ rfl; (with_reducible repeat (first | refine blk_drewN ?_ _ | refine blk_drew ?_ | refine blk_alloc ?_ _)); refine blk_put (cs := #[.int .i64 0, .bool false, .slice none 0 0]) ?_ 1 _ rfl; (with_reducible repeat (first | refine blk_drewN ?_ _ | refine blk_drew ?_ | refine blk_alloc ?_ _)); refine blk_put (cs := #[.int .i64 0, .bool false, .slice none 0 0]) ?_ 0 _ rfl; (with_reducible repeat (first | refine blk_drewN ?_ _ | refine blk_drew ?_ | refine blk_alloc ?_ _)); exact BK210.out) Try.underlying24 rfl (by kernel_rfl)) rfl ?_
     exact ⟨_, by first | rfl | (simp [errW_none, errW_some] <;> rfl) | (simp [*, errW_none, errW_some] <;> rfl), by first | exact Kd.R_nil _ _ _ _ _ | exact Kd.N_nil _ _ _ _ _ | exact Kd.V_nil _ _ _ _ _ | exact Kd.Q_nil _ _ _ _ _ | exact Kd.S_nil _ _ _ _ _, by repeat (first | (with_reducible first | exact HB.out | apply below_alloc | apply pw_below_drewN | apply below_drew1 | refine below_set ?_ GE209.out | refine below_set ?_ GE210.out) | exact HB.out)⟩
   · replace c7 := Bool.eq_false_iff.mpr c7
     subst c7
     have H1 : (if a2 < 1 then (masterdiscref14_Reserve.j0 k a0 a2 a3 true a1_0 false l1_2) else (if a3 < 0 then (masterdiscref14_Reserve.j0 k a0 a2 a3 true a1_0 false l1_2) else (if a3 > 1024 then (masterdiscref14_Reserve.j0 k a0 a2 a3 true a1_0 false l1_2) else (if a3 > 0 then (if a3 = 0 then (none) else (masterdiscref14_Reserve.j0 k a0 a2 a3 ((Int.tmod a2 a3) != 0) a1_0 false l1_2)) else (masterdiscref14_Reserve.j0 k a0 a2 a3 false a1_0 false l1_2))))) = some (r1, r2, r3, r4) := by rw [if_neg (show ¬ (false = true) by decide)] at H; exact H
     clear H
     have H := H1
     clear H1
     have HC15 := Aside0.mk H
     clear H
     go_enter Try.func20, Try.ntmps20
     go_upto_region 5 with (first | ((with_reducible refine gate_dst (N := 5) rfl ?_); refine box_event ?hg (N := 5) ?hd (cs := #[.int .i64 a1_0, .bool false, .slice A1_2 l1_2.length c1_2]) (t := 24) ?hr ?_; (case hd => rfl); (case hg => rfl); (case hr => first | (go_simp; done) | (go_simp; rfl)); intro gb209 hg w16 hbox hb; have n0_ := Aside0.mk (below_step (by repeat (first | (with_reducible first | exact HB.out | apply below_alloc | apply pw_below_drewN | apply below_drew1) | exact HB.out)) hb); have n1_ := Aside0.mk (hbox); have n2_ := Aside0.mk ((by rw [hg]; exact (below_size (by repeat (first | (with_reducible first | exact HB.out | apply below_alloc | apply pw_below_drewN | apply below_drew1) | exact HB.out))) : w.heap.size ≤ gb209)); have n3_ := Aside0.mk ((by rw [hg]; exact (below_size (by repeat (first | (with_reducible first | exact HB.out | apply below_alloc | apply pw_below_drewN | apply below_drew1) | exact HB.out))) : w.heap.size ≤ gb209)); clear HB; have HB := n0_; have BK209 := n1_; have GW209 := n2_; have GE209 := n3_; clear n0_ n1_ n2_ n3_; clear hb hbox hg) | ((with_reducible refine gate_dst (N := 8) rfl ?_); refine box_event ?hg (N := 8) ?hd (cs := #[.int .i64 0, .bool false, .slice none 0 0]) (t := 24) ?hr ?_; (case hd => rfl); (case hg => rfl); (case hr => first | (go_simp; done) | (go_simp; rfl)); intro gb210 hg w17 hbox hb; have n0_ := Aside0.mk (blk_below (g := gb209) (o := .cells #[.int .i64 a1_0, .bool false, .slice A1_2 l1_2.length c1_2] 24 (0, 0)) (by (with_reducible repeat (first | refine blk_drewN ?_ _ | refine blk_drew ?_ | refine blk_alloc ?_ _)); exact BK209.out) hb); have n1_ := Aside0.mk (below_step (by repeat (first | (with_reducible first | exact HB.out | apply below_alloc | apply pw_below_drewN | apply below_drew1 | refine below_set ?_ GE209.out) | exact HB.out)) hb); have n2_ := Aside0.mk (hbox); have n3_ := Aside0.mk ((by rw [hg]; exact (below_size (by repeat (first | (with_reducible first | exact HB.out | apply below_alloc | apply pw_below_drewN | apply below_drew1 | refine below_set ?_ GE209.out) | exact HB.out))) : w.heap.size ≤ gb210)); have n4_ := Aside0.mk ((by rw [hg]; exact (below_size (by repeat (first | (with_reducible first | exact HB.out | apply below_alloc | apply pw_below_drewN | apply below_drew1 | refine below_set ?_ GE209.out) | exact HB.out))) : w.heap.size ≤ gb210)); have n5_ := Aside0.mk ((by rw [hg]; exact Nat.ne_of_lt (blk_lt (g := gb209) (o := .cells #[.int .i64 a1_0, .bool false, .slice A1_2 l1_2.length c1_2] 24 (0, 0)) (by (with_reducible repeat (first | refine blk_drewN ?_ _ | refine blk_drew ?_ | refine blk_alloc ?_ _)); exact BK209.out)) : gb209 ≠ gb210)); have n6_ := Aside0.mk ((by rw [hg]; exact Nat.ne_of_gt (blk_lt (g := gb209) (o := .cells #[.int .i64 a1_0, .bool false, .slice A1_2 l1_2.length c1_2] 24 (0, 0)) (by (with_reducible repeat (first | refine blk_drewN ?_ _ | refine blk_drew ?_ | refine blk_alloc ?_ _)); exact BK209.out)) : gb210 ≠ gb209)); clear BK209; clear HB; have BK209 := n0_; have HB := n1_; have BK210 := n2_; have GW210 := n3_; have GE210 := n4_; have NB209_210 := n5_; have NB210_209 := n6_; clear n0_ n1_ n2_ n3_ n4_ n5_ n6_; clear hb hbox hg; have hnb18 := NB209_210.out; have hnc18 := NB210_209.out; obtain ⟨hcz19_0, hcz19_1, hcz19_2⟩ := cel3 BK209.out; obtain ⟨hfz19_0, hfz19_1, hfz19_2⟩ := frz3 BK209.out) | ((with_reducible refine gate_callee (f := 11) rfl ?_); refine goesL_ (some 16) rfl rfl Try.func11 (by kernel_rfl) rfl #[.int .i64 a0, .agg #[.int .i64 a1_0, .bool false, .slice A1_2 l1_2.length c1_2]] rfl (by (try simp only [List.map_toArray, List.map_cons, List.map_nil]); first | done | rfl | (simp only [List.length_drop, List.length_take]; rfl)) ?_; (with_reducible refine (masterdiscref14_Valid.calls a0 a1_0 false _ _ l1_2 true _ ?side1 ?side2 A5.out).mono ?_); (case side1 => repeat (first | exact (Kd.C_below HR1_2.out HB.out) | (with_reducible refine Kd.C_alloc ?_ _) | (with_reducible refine Kd.C_drewN ?_ _) | (with_reducible refine Kd.C_drew ?_))); (case side2 => exact HC1_2.out); rintro e w20 ⟨rfl, hb⟩; refine ⟨_, rfl, ?_⟩; have n0_ := Aside0.mk (blk_below (g := gb209) (o := .cells #[.int .i64 a1_0, .bool false, .slice A1_2 l1_2.length c1_2] 24 (0, 0)) (by (with_reducible repeat (first | refine blk_drewN ?_ _ | refine blk_drew ?_ | refine blk_alloc ?_ _)); exact BK209.out) hb); have n1_ := Aside0.mk (blk_below (g := gb210) (o := .cells #[.int .i64 0, .bool false, .slice none 0 0] 24 (0, 0)) (by (with_reducible repeat (first | refine blk_drewN ?_ _ | refine blk_drew ?_ | refine blk_alloc ?_ _)); exact BK210.out) hb); have n2_ := Aside0.mk (below_step (by repeat (first | (with_reducible first | exact HB.out | apply below_alloc | apply pw_below_drewN | apply below_drew1 | refine below_set ?_ GE209.out | refine below_set ?_ GE210.out) | exact HB.out)) hb); clear BK209; clear BK210; clear HB; have BK209 := n0_; have BK210 := n1_; have HB := n2_; clear n0_ n1_ n2_; (try clear hb); (try clear hb2); (try clear hk); (try clear hi); obtain ⟨hcz21_0, hcz21_1, hcz21_2⟩ := cel3 BK209.out; obtain ⟨hfz21_0, hfz21_1, hfz21_2⟩ := frz3 BK209.out))
     (try simp only [Act.put, List.setIfInBounds_toArray, List.set_cons_zero, List.set_cons_succ])
     go_cut [23] (fun v23 wc => ∃ (kq : Nat) (x23_14 : Bool), v23 = .bool x23_14 ∧ Aside0 (masterdiscref14_Reserve.j0 kq a0 a2 a3 x23_14 a1_0 false l1_2 = some (r1, r2, r3, r4)) ∧ Aside0 (kq ≤ k) ∧ Aside0 (wc.heap[gb209]? = some (.cells #[.int .i64 a1_0, .bool false, (.slice A1_2 l1_2.length c1_2)] 24 (0, 0))) ∧ Aside0 (wc.heap[gb210]? = some (.cells #[.int .i64 0, .bool false, (.slice none 0 0)] 24 (0, 0))) ∧ Aside0 (Below w.heap.size w wc))
     case first =>
      have H := HC15.out
      clear HC15
      by_cases c22 : a2 < 1
      · rw [if_pos c22] at H
        have c22b0 : decide (a2 < 1) = true := decide_eq_true c22
        clear c22
        (first | rw [c22b0] | (simp only [i64_w, i32_w]; rw [c22b0]) | skip)
        have H' := Aside0.mk H
        clear H
        go_wp2
        go_meet
        case rel => exact ⟨_, (true), (by first | rfl | (simp; done) | (simp [*]; done)), H', ⟨by first | omega | exact Nat.le_refl _⟩, ⟨by (with_reducible repeat (first | refine blk_drewN ?_ _ | refine blk_drew ?_ | refine blk_alloc ?_ _)); exact BK209.out⟩, ⟨by (with_reducible repeat (first | refine blk_drewN ?_ _ | refine blk_drew ?_ | refine blk_alloc ?_ _)); exact BK210.out⟩, ⟨by repeat (first | (with_reducible first | exact HB.out | apply below_alloc | apply pw_below_drewN | apply below_drew1 | refine below_set ?_ GE209.out | refine below_set ?_ GE210.out) | exact HB.out)⟩⟩
      · rw [if_neg c22] at H
        have c22b0 : decide (a2 < 1) = false := decide_eq_false c22
        clear c22
        (first | rw [c22b0] | (simp only [i64_w, i32_w]; rw [c22b0]) | skip)
        by_cases c23 : a3 < 0
        · rw [if_pos c23] at H
          have c23b0 : decide (a3 < 0) = true := decide_eq_true c23
          clear c23
          have H' := Aside0.mk H
          clear H
          go_wp2
          go_meet
          case rel => exact ⟨_, (true), (by first | rfl | (simp; done) | (simp [*]; done)), H', ⟨by first | omega | exact Nat.le_refl _⟩, ⟨by (with_reducible repeat (first | refine blk_drewN ?_ _ | refine blk_drew ?_ | refine blk_alloc ?_ _)); exact BK209.out⟩, ⟨by (with_reducible repeat (first | refine blk_drewN ?_ _ | refine blk_drew ?_ | refine blk_alloc ?_ _)); exact BK210.out⟩, ⟨by repeat (first | (with_reducible first | exact HB.out | apply below_alloc | apply pw_below_drewN | apply below_drew1 | refine below_set ?_ GE209.out | refine below_set ?_ GE210.out) | exact HB.out)⟩⟩
        · rw [if_neg c23] at H
          have c23b0 : decide (a3 < 0) = false := decide_eq_false c23
          clear c23
          by_cases c24 : a3 > 1024
          · rw [if_pos c24] at H
            have c24b0 : decide (1024 < a3) = true := decide_eq_true c24
            clear c24
            have H' := Aside0.mk H
            clear H
            go_wp2
            go_meet
            case rel => exact ⟨_, (true), (by first | rfl | (simp; done) | (simp [*]; done)), H', ⟨by first | omega | exact Nat.le_refl _⟩, ⟨by (with_reducible repeat (first | refine blk_drewN ?_ _ | refine blk_drew ?_ | refine blk_alloc ?_ _)); exact BK209.out⟩, ⟨by (with_reducible repeat (first | refine blk_drewN ?_ _ | refine blk_drew ?_ | refine blk_alloc ?_ _)); exact BK210.out⟩, ⟨by repeat (first | (with_reducible first | exact HB.out | apply below_alloc | apply pw_below_drewN | apply below_drew1 | refine below_set ?_ GE209.out | refine below_set ?_ GE210.out) | exact HB.out)⟩⟩
          · rw [if_neg c24] at H
            have c24b0 : decide (1024 < a3) = false := decide_eq_false c24
            clear c24
            by_cases c25 : a3 > 0
            · rw [if_pos c25] at H
              have c25b0 : decide (0 < a3) = true := decide_eq_true c25
              clear c25
              by_cases c26 : a3 = 0
              · rw [if_pos c26] at H
                exact absurd H (by simp)
              · rw [if_neg c26] at H
                have c26b0 : (a3 == 0) = false := beq_eq_false_iff_ne.mpr c26
                have c26b1 : (a3 != 0) = true := bne_iff_ne.mpr c26
                have H' := Aside0.mk H
                clear H
                go_wp2
                go_meet
                case rel => exact ⟨_, (((Int.tmod a2 a3) != 0)), (by first | rfl | (simp; done) | (simp [*]; done)), H', ⟨by first | omega | exact Nat.le_refl _⟩, ⟨by (with_reducible repeat (first | refine blk_drewN ?_ _ | refine blk_drew ?_ | refine blk_alloc ?_ _)); exact BK209.out⟩, ⟨by (with_reducible repeat (first | refine blk_drewN ?_ _ | refine blk_drew ?_ | refine blk_alloc ?_ _)); exact BK210.out⟩, ⟨by repeat (first | (with_reducible first | exact HB.out | apply below_alloc | apply pw_below_drewN | apply below_drew1 | refine below_set ?_ GE209.out | refine below_set ?_ GE210.out) | exact HB.out)⟩⟩
            · rw [if_neg c25] at H
              have c25b0 : decide (0 < a3) = false := decide_eq_false c25
              clear c25
              have H' := Aside0.mk H
              clear H
              go_wp2
              go_meet
              case rel => exact ⟨_, (false), (by first | rfl | (simp; done) | (simp [*]; done)), H', ⟨by first | omega | exact Nat.le_refl _⟩, ⟨by (with_reducible repeat (first | refine blk_drewN ?_ _ | refine blk_drew ?_ | refine blk_alloc ?_ _)); exact BK209.out⟩, ⟨by (with_reducible repeat (first | refine blk_drewN ?_ _ | refine blk_drew ?_ | refine blk_alloc ?_ _)); exact BK210.out⟩, ⟨by repeat (first | (with_reducible first | exact HB.out | apply below_alloc | apply pw_below_drewN | apply below_drew1 | refine below_set ?_ GE209.out | refine below_set ?_ GE210.out) | exact HB.out)⟩⟩
     case rest =>
      clear HC15
      try clear c1
      try clear c2
      try clear p2
      try clear c6
      try clear c7
      try clear c10
      try clear c11
      try clear c18
      try clear c20
      try clear c22
      try clear c22b0
      try clear c23
      try clear c23b0
      try clear c24
      try clear c24b0
      try clear c25
      try clear c25b0
      try clear c26
      try clear c26b0
      try clear c26b1
      try clear hcz11_0
      try clear hcz11_1
      try clear hcz11_2
      try clear hcz13_0
      try clear hcz13_1
      try clear hcz13_2
      try clear hcz14_0
      try clear hcz14_1
      try clear hcz14_2
      try clear hcz19_0
      try clear hcz19_1
      try clear hcz19_2
      try clear hcz21_0
      try clear hcz21_1
      try clear hcz21_2
      try clear hfz11_0
      try clear hfz11_1
      try clear hfz11_2
      try clear hfz13_0
      try clear hfz13_1
      try clear hfz13_2
      try clear hfz14_0
      try clear hfz14_1
      try clear hfz14_2
      try clear hfz19_0
      try clear hfz19_1
      try clear hfz19_2
      try clear hfz21_0
      try clear hfz21_1
      try clear hfz21_2
      obtain ⟨kq, x23_14, rfl, HA, HJ14, BK209, BK210, HB⟩ := hcut
      cases kq with
      | zero => exact absurd HA.out (by simp [masterdiscref14_Reserve.j0])
      | succ kj14 =>
       have H := HA.out
       clear HA
       simp only [masterdiscref14_Reserve.j0] at H
       by_cases c27 : x23_14 = true
       · subst c27
         have H1 : (some (0, false, ([] : List (S40)), 1)) = some (r1, r2, r3, r4) := by rw [if_pos rfl] at H; exact H
         clear H
         have H := H1
         clear H1
         simp only [Option.some.injEq, Prod.mk.injEq] at H
         obtain ⟨rfl, rfl, rfl, rfl⟩ := H
         have hnb28 := NB210_209.out
         have hnc28 := NB209_210.out
         obtain ⟨hcz29_0, hcz29_1, hcz29_2⟩ := cel3 BK210.out
         obtain ⟨hfz29_0, hfz29_1, hfz29_2⟩ := frz3 BK210.out
         go_wp2
         refine bodyPost_ret (results_ct rfl _ _ gb210 24 #[.int .i64 0, .bool false, .slice none 0 0] (0, 0) _ rfl (by (with_reducible repeat (first | refine blk_drewN ?_ _ | refine blk_drew ?_ | refine blk_alloc ?_ _)); refine blk_put (cs := #[.int .i64 0, .bool false, .slice none 0 0]) ?_ 2 _ rfl; (with_reducible repeat (first | refine blk_drewN ?_ _ | refine blk_drew ?_ | refine blk_alloc ?_ _)); refine blk_put (cs := #[.int .i64 0, .bool false, .slice none 0 0]) ?_ 1 _ rfl; (with_reducible repeat (first | refine blk_drewN ?_ _ | refine blk_drew ?_ | refine blk_alloc ?_ _)); refine blk_put (cs := #[.int .i64 0, .bool false, .slice none 0 0]) ?_ 0 _ rfl; (with_reducible repeat (first | refine blk_drewN ?_ _ | refine blk_drew ?_ | refine blk_alloc ?_ _)); exact BK210.out) Try.underlying24 rfl (by kernel_rfl)) rfl ?_
         exact ⟨_, by first | rfl | (simp [errW_none, errW_some] <;> rfl) | (simp [*, errW_none, errW_some] <;> rfl), by first | exact Kd.R_nil _ _ _ _ _ | exact Kd.N_nil _ _ _ _ _ | exact Kd.V_nil _ _ _ _ _ | exact Kd.Q_nil _ _ _ _ _ | exact Kd.S_nil _ _ _ _ _, by repeat (first | (with_reducible first | exact HB.out | apply below_alloc | apply pw_below_drewN | apply below_drew1 | refine below_set ?_ GE209.out | refine below_set ?_ GE210.out) | exact HB.out)⟩
       · replace c27 := Bool.eq_false_iff.mpr c27
         subst c27
         have H1 : (if (l1_2.length : Int) = 99 then (masterdiscref14_Reserve.j1 kj14 a0 a2 a3 true a1_0 false l1_2) else (masterdiscref14_Reserve.j1 kj14 a0 a2 a3 (a1_0 == 16) a1_0 false l1_2)) = some (r1, r2, r3, r4) := by rw [if_neg (show ¬ (false = true) by decide)] at H; exact H
         clear H
         have H := H1
         clear H1
         have HC30 := Aside0.mk H
         clear H
         go_upto_region 7 with (fail)
         go_cut [45] (fun v45 wc => ∃ (kq : Nat) (x45_29 : Bool), v45 = .bool x45_29 ∧ Aside0 (masterdiscref14_Reserve.j1 kq a0 a2 a3 x45_29 a1_0 false l1_2 = some (r1, r2, r3, r4)) ∧ Aside0 (kq ≤ kj14) ∧ Aside0 (wc.heap[gb209]? = some (.cells #[.int .i64 a1_0, .bool false, (.slice A1_2 l1_2.length c1_2)] 24 (0, 0))) ∧ Aside0 (wc.heap[gb210]? = some (.cells #[.int .i64 0, .bool false, (.slice none 0 0)] 24 (0, 0))) ∧ Aside0 (Below w.heap.size w wc))
         case first =>
          have H := HC30.out
          clear HC30
          by_cases c31 : (l1_2.length : Int) = 99
          · rw [if_pos c31] at H
            have c31b0 : ((l1_2.length : Int) == 99) = true := beq_iff_eq.mpr c31
            have c31b1 : ((l1_2.length : Int) != 99) = false := bne_eq_false_iff_eq.mpr c31
            clear c31
            (first | rw [c31b0] | (simp only [i64_w, i32_w]; rw [c31b0]) | skip)
            have H' := Aside0.mk H
            clear H
            have hnb32 := NB209_210.out
            have hnc32 := NB210_209.out
            obtain ⟨hcz33_0, hcz33_1, hcz33_2⟩ := cel3 BK209.out
            obtain ⟨hfz33_0, hfz33_1, hfz33_2⟩ := frz3 BK209.out
            go_wp2
            go_meet
            case rel => exact ⟨_, (true), (by first | rfl | (simp; done) | (simp [*]; done)), H', ⟨by have := HJ14.out; first | omega | exact Nat.le_refl _⟩, ⟨by (with_reducible repeat (first | refine blk_drewN ?_ _ | refine blk_drew ?_ | refine blk_alloc ?_ _)); exact BK209.out⟩, ⟨by (with_reducible repeat (first | refine blk_drewN ?_ _ | refine blk_drew ?_ | refine blk_alloc ?_ _)); exact BK210.out⟩, ⟨by repeat (first | (with_reducible first | exact HB.out | apply below_alloc | apply pw_below_drewN | apply below_drew1 | refine below_set ?_ GE209.out | refine below_set ?_ GE210.out) | exact HB.out)⟩⟩
          · rw [if_neg c31] at H
            have c31b0 : ((l1_2.length : Int) == 99) = false := beq_eq_false_iff_ne.mpr c31
            have c31b1 : ((l1_2.length : Int) != 99) = true := bne_iff_ne.mpr c31
            (first | rw [c31b0] | (simp only [i64_w, i32_w]; rw [c31b0]) | skip)
            have H' := Aside0.mk H
            clear H
            have hnb34 := NB209_210.out
            have hnc34 := NB210_209.out
            obtain ⟨hcz35_0, hcz35_1, hcz35_2⟩ := cel3 BK209.out
            obtain ⟨hfz35_0, hfz35_1, hfz35_2⟩ := frz3 BK209.out
            go_wp2
            go_meet
            case rel => exact ⟨_, ((a1_0 == 16)), (by first | rfl | (simp; done) | (simp [*]; done)), H', ⟨by have := HJ14.out; first | omega | exact Nat.le_refl _⟩, ⟨by (with_reducible repeat (first | refine blk_drewN ?_ _ | refine blk_drew ?_ | refine blk_alloc ?_ _)); exact BK209.out⟩, ⟨by (with_reducible repeat (first | refine blk_drewN ?_ _ | refine blk_drew ?_ | refine blk_alloc ?_ _)); exact BK210.out⟩, ⟨by repeat (first | (with_reducible first | exact HB.out | apply below_alloc | apply pw_below_drewN | apply below_drew1 | refine below_set ?_ GE209.out | refine below_set ?_ GE210.out) | exact HB.out)⟩⟩
         case rest =>
          clear HC30
          try clear c1
          try clear c2
          try clear p2
          try clear c3
          try clear c6
          try clear c7
          try clear c10
          try clear c11
          try clear c18
          try clear c20
          try clear c22
          try clear c22b0
          try clear c23
          try clear c23b0
          try clear c24
          try clear c24b0
          try clear c25
          try clear c25b0
          try clear c26
          try clear c26b0
          try clear c26b1
          try clear c27
          try clear c28
          try clear c31
          try clear c31b0
          try clear c31b1
          try clear c32
          try clear c34
          try clear hcz11_0
          try clear hcz11_1
          try clear hcz11_2
          try clear hcz13_0
          try clear hcz13_1
          try clear hcz13_2
          try clear hcz14_0
          try clear hcz14_1
          try clear hcz14_2
          try clear hcz19_0
          try clear hcz19_1
          try clear hcz19_2
          try clear hcz21_0
          try clear hcz21_1
          try clear hcz21_2
          try clear hcz29_0
          try clear hcz29_1
          try clear hcz29_2
          try clear hcz33_0
          try clear hcz33_1
          try clear hcz33_2
          try clear hcz35_0
          try clear hcz35_1
          try clear hcz35_2
          try clear hfz11_0
          try clear hfz11_1
          try clear hfz11_2
          try clear hfz13_0
          try clear hfz13_1
          try clear hfz13_2
          try clear hfz14_0
          try clear hfz14_1
          try clear hfz14_2
          try clear hfz19_0
          try clear hfz19_1
          try clear hfz19_2
          try clear hfz21_0
          try clear hfz21_1
          try clear hfz21_2
          try clear hfz29_0
          try clear hfz29_1
          try clear hfz29_2
          try clear hfz33_0
          try clear hfz33_1
          try clear hfz33_2
          try clear hfz35_0
          try clear hfz35_1
          try clear hfz35_2
          try clear p2
          obtain ⟨kq, x45_29, rfl, HA, HJ29, BK209, BK210, HB⟩ := hcut
          cases kq with
          | zero => exact absurd HA.out (by simp [masterdiscref14_Reserve.j1])
          | succ kj29 =>
           have H := HA.out
           clear HA
           simp only [masterdiscref14_Reserve.j1] at H
           by_cases c36 : x45_29 = true
           · subst c36
             have H1 : (some (0, false, ([] : List (S40)), 7)) = some (r1, r2, r3, r4) := by rw [if_pos rfl] at H; exact H
             clear H
             have H := H1
             clear H1
             simp only [Option.some.injEq, Prod.mk.injEq] at H
             obtain ⟨rfl, rfl, rfl, rfl⟩ := H
             have hnb37 := NB210_209.out
             have hnc37 := NB209_210.out
             obtain ⟨hcz38_0, hcz38_1, hcz38_2⟩ := cel3 BK210.out
             obtain ⟨hfz38_0, hfz38_1, hfz38_2⟩ := frz3 BK210.out
             go_wp2
             refine bodyPost_ret (results_ct rfl _ _ gb210 24 #[.int .i64 0, .bool false, .slice none 0 0] (0, 0) _ rfl (by (with_reducible repeat (first | refine blk_drewN ?_ _ | refine blk_drew ?_ | refine blk_alloc ?_ _)); refine blk_put (cs := #[.int .i64 0, .bool false, .slice none 0 0]) ?_ 2 _ rfl; (with_reducible repeat (first | refine blk_drewN ?_ _ | refine blk_drew ?_ | refine blk_alloc ?_ _)); refine blk_put (cs := #[.int .i64 0, .bool false, .slice none 0 0]) ?_ 1 _ rfl; (with_reducible repeat (first | refine blk_drewN ?_ _ | refine blk_drew ?_ | refine blk_alloc ?_ _)); refine blk_put (cs := #[.int .i64 0, .bool false, .slice none 0 0]) ?_ 0 _ rfl; (with_reducible repeat (first | refine blk_drewN ?_ _ | refine blk_drew ?_ | refine blk_alloc ?_ _)); exact BK210.out) Try.underlying24 rfl (by kernel_rfl)) rfl ?_
             exact ⟨_, by first | rfl | (simp [errW_none, errW_some] <;> rfl) | (simp [*, errW_none, errW_some] <;> rfl), by first | exact Kd.R_nil _ _ _ _ _ | exact Kd.N_nil _ _ _ _ _ | exact Kd.V_nil _ _ _ _ _ | exact Kd.Q_nil _ _ _ _ _ | exact Kd.S_nil _ _ _ _ _, by repeat (first | (with_reducible first | exact HB.out | apply below_alloc | apply pw_below_drewN | apply below_drew1 | refine below_set ?_ GE209.out | refine below_set ?_ GE210.out) | exact HB.out)⟩
           · replace c36 := Bool.eq_false_iff.mpr c36
             subst c36
             have H1 : (if (l1_2.length : Int) > 0 then (if 0 ≤ (wrap64 ((l1_2.length : Int) - 1)) then (if (wrap64 ((l1_2.length : Int) - 1)) < (l1_2.length : Int) then (if ((rd_T40 l1_2 (wrap64 ((l1_2.length : Int) - 1))).f1) ≤ a1_0 then (masterdiscref14_Reserve.j2 kj29 a0 a2 a3 (wrap64 ((wrap64 (((rd_T40 l1_2 (wrap64 ((l1_2.length : Int) - 1))).f2) + ((rd_T40 l1_2 (wrap64 ((l1_2.length : Int) - 1))).f3))) + 16)) a1_0 false l1_2) else (masterdiscref14_Reserve.j2 kj29 a0 a2 a3 (wrap64 (((rd_T40 l1_2 (wrap64 ((l1_2.length : Int) - 1))).f2) + ((rd_T40 l1_2 (wrap64 ((l1_2.length : Int) - 1))).f3))) a1_0 false l1_2)) else (none)) else (none)) else (masterdiscref14_Reserve.j2 kj29 a0 a2 a3 0 a1_0 false l1_2)) = some (r1, r2, r3, r4) := by rw [if_neg (show ¬ (false = true) by decide)] at H; exact H
             clear H
             have H := H1
             clear H1
             have HC39 := Aside0.mk H
             clear H
             have hnb40 := NB209_210.out
             have hnc40 := NB210_209.out
             obtain ⟨hcz41_0, hcz41_1, hcz41_2⟩ := cel3 BK209.out
             obtain ⟨hfz41_0, hfz41_1, hfz41_2⟩ := frz3 BK209.out
             go_upto_if 60 with (fail)
             go_cut [10] (fun v10 wc => ∃ (kq : Nat) (x10_38 : Int), v10 = .int .i64 x10_38 ∧ Aside0 (masterdiscref14_Reserve.j2 kq a0 a2 a3 x10_38 a1_0 false l1_2 = some (r1, r2, r3, r4)) ∧ Aside0 (kq ≤ kj29) ∧ Aside0 (wc.heap[gb209]? = some (.cells #[.int .i64 a1_0, .bool false, (.slice A1_2 l1_2.length c1_2)] 24 (0, 0))) ∧ Aside0 (wc.heap[gb210]? = some (.cells #[.int .i64 0, .bool false, (.slice none 0 0)] 24 (0, 0))) ∧ Aside0 (Below w.heap.size w wc))
             case first =>
              have H := HC39.out
              clear HC39
              by_cases c42 : (l1_2.length : Int) > 0
              · rw [if_pos c42] at H
                have c42b0 : decide (0 < (l1_2.length : Int)) = true := decide_eq_true c42
                have c42b1 : decide (0 < l1_2.length) = true := decide_eq_true (by omega)
                clear c42
                (first | rw [c42b0] | (simp only [i64_w, i32_w]; rw [c42b0]) | skip)
                (try rw [c42b1])
                obtain ⟨ji43, hji43⟩ : ∃ j_ : Int, (wrap64 ((l1_2.length : Int) - 1)) = j_ := ⟨_, rfl⟩
                replace H : (if 0 ≤ (ji43) then (if (ji43) < (l1_2.length : Int) then (if ((rd_T40 l1_2 (ji43)).f1) ≤ a1_0 then (masterdiscref14_Reserve.j2 kj29 a0 a2 a3 (wrap64 ((wrap64 (((rd_T40 l1_2 (ji43)).f2) + ((rd_T40 l1_2 (ji43)).f3))) + 16)) a1_0 false l1_2) else (masterdiscref14_Reserve.j2 kj29 a0 a2 a3 (wrap64 (((rd_T40 l1_2 (ji43)).f2) + ((rd_T40 l1_2 (ji43)).f3))) a1_0 false l1_2)) else (none)) else (none)) = some (r1, r2, r3, r4) := by first | (rw [hji43] at H; exact H) | (simp only [hji43] at H ⊢; exact H)
                have hji43w : (IntKind.i64.wrap ((l1_2.length : Int) - 1)) = ji43 := (i64_w _).trans hji43
                by_cases c44 : 0 ≤ (ji43)
                · rw [if_pos c44] at H
                  have c44b0 : decide (0 ≤ (ji43)) = true := decide_eq_true c44
                  clear c44
                  by_cases c45 : (ji43) < (l1_2.length : Int)
                  · rw [if_pos c45] at H
                    have c45b0 : decide ((ji43) < (l1_2.length : Int)) = true := decide_eq_true c45
                    clear c45
                    by_cases c46 : ((rd_T40 l1_2 (ji43)).f1) ≤ a1_0
                    · rw [if_pos c46] at H
                      have c46b0 : decide (((rd_T40 l1_2 (ji43)).f1) ≤ a1_0) = true := decide_eq_true c46
                      clear c46
                      have H' := Aside0.mk H
                      clear H
                      try go_wp2
                      have n0_ := Aside0.mk (blk_drew BK209.out)
                      have n1_ := Aside0.mk (blk_drew BK210.out)
                      have n2_ := Aside0.mk (below_drew1 HB.out)
                      clear BK209
                      clear BK210
                      clear HB
                      have BK209 := n0_
                      have BK210 := n1_
                      have HB := n2_
                      clear n0_ n1_ n2_
                      have p212 : 0 ≤ ((ji43) : Int) := of_decide_eq_true (by first | (with_reducible assumption) | assumption)
                      have q212 : (ji43) < (l1_2.length : Int) := of_decide_eq_true (by first | (with_reducible assumption) | assumption)
                      obtain ⟨ad212, e212, hx212_0, hx212_1, hx212_2, hx212_3, hx212_4, hx212_5, hx212_6⟩ := at_T40 HR1_2.out (ji43) p212 q212
                      have hw212_6 := hx212_6
                      have hw212_5 := hx212_5
                      have hw212_4 := hx212_4
                      have hw212_3 := hx212_3
                      have hw212_2 := hx212_2
                      have hw212_1 := hx212_1
                      have hw212_0 := hx212_0
                      cases e212
                      replace hx212_0 := upc HB.out hx212_0
                      replace hx212_1 := upc HB.out hx212_1
                      replace hx212_2 := upc HB.out hx212_2
                      replace hx212_3 := upc HB.out hx212_3
                      replace hx212_4 := upc HB.out hx212_4
                      replace hx212_5 := upc HB.out hx212_5
                      replace hx212_6 := upc HB.out hx212_6
                      replace p212 := eq_true p212
                      replace q212 := eq_true q212
                      have p213 : 0 ≤ ((ji43) : Int) := of_decide_eq_true (by first | (with_reducible assumption) | assumption)
                      have q213 : (ji43) < (l1_2.length : Int) := of_decide_eq_true (by first | (with_reducible assumption) | assumption)
                      obtain ⟨ad213, e213, hx213_0, hx213_1, hx213_2, hx213_3, hx213_4, hx213_5, hx213_6⟩ := at_T40 HR1_2.out (ji43) p213 q213
                      have hw213_6 := hx213_6
                      have hw213_5 := hx213_5
                      have hw213_4 := hx213_4
                      have hw213_3 := hx213_3
                      have hw213_2 := hx213_2
                      have hw213_1 := hx213_1
                      have hw213_0 := hx213_0
                      obtain rfl : ad212 = ad213 := (by injection e213)
                      replace hx213_0 := upc HB.out hx213_0
                      replace hx213_1 := upc HB.out hx213_1
                      replace hx213_2 := upc HB.out hx213_2
                      replace hx213_3 := upc HB.out hx213_3
                      replace hx213_4 := upc HB.out hx213_4
                      replace hx213_5 := upc HB.out hx213_5
                      replace hx213_6 := upc HB.out hx213_6
                      replace p213 := eq_true p213
                      replace q213 := eq_true q213
                      refine start_ (n := 16) (S := fun w' => w'.cell? ⟨gb209, 0, none⟩ = some (.int .i64 a1_0) ∧ w'.cell? ⟨gb209, 1, none⟩ = some (.bool false) ∧ w'.cell? ⟨gb209, 2, none⟩ = some (.slice (some ad212) l1_2.length c1_2) ∧ w'.cell? (ad212.add (((ji43)).toNat * 7)) = some (.int .i64 ((rd_T40 l1_2 (ji43)).f0)) ∧ w'.cell? ⟨(ad212.add (((ji43)).toNat * 7)).block, (ad212.add (((ji43)).toNat * 7)).off + 1, none⟩ = some (.int .i64 ((rd_T40 l1_2 (ji43)).f1)) ∧ w'.cell? ⟨(ad212.add (((ji43)).toNat * 7)).block, (ad212.add (((ji43)).toNat * 7)).off + 2, none⟩ = some (.int .i64 ((rd_T40 l1_2 (ji43)).f2)) ∧ w'.cell? ⟨(ad212.add (((ji43)).toNat * 7)).block, (ad212.add (((ji43)).toNat * 7)).off + 3, none⟩ = some (.int .i64 ((rd_T40 l1_2 (ji43)).f3)) ∧ w'.cell? ⟨(ad212.add (((ji43)).toNat * 7)).block, (ad212.add (((ji43)).toNat * 7)).off + 4, none⟩ = some (.int .i64 ((rd_T40 l1_2 (ji43)).f4)) ∧ w'.cell? ⟨(ad212.add (((ji43)).toNat * 7)).block, (ad212.add (((ji43)).toNat * 7)).off + 5, none⟩ = some (.int .i64 ((rd_T40 l1_2 (ji43)).f5)) ∧ w'.cell? ⟨(ad212.add (((ji43)).toNat * 7)).block, (ad212.add (((ji43)).toNat * 7)).off + 6, none⟩ = some (.int .i64 ((rd_T40 l1_2 (ji43)).f6)) ∧ w'.cell? (ad212.add (((ji43)).toNat * 7)) = some (.int .i64 ((rd_T40 l1_2 (ji43)).f0)) ∧ w'.cell? ⟨(ad212.add (((ji43)).toNat * 7)).block, (ad212.add (((ji43)).toNat * 7)).off + 1, none⟩ = some (.int .i64 ((rd_T40 l1_2 (ji43)).f1)) ∧ w'.cell? ⟨(ad212.add (((ji43)).toNat * 7)).block, (ad212.add (((ji43)).toNat * 7)).off + 2, none⟩ = some (.int .i64 ((rd_T40 l1_2 (ji43)).f2)) ∧ w'.cell? ⟨(ad212.add (((ji43)).toNat * 7)).block, (ad212.add (((ji43)).toNat * 7)).off + 3, none⟩ = some (.int .i64 ((rd_T40 l1_2 (ji43)).f3)) ∧ w'.cell? ⟨(ad212.add (((ji43)).toNat * 7)).block, (ad212.add (((ji43)).toNat * 7)).off + 4, none⟩ = some (.int .i64 ((rd_T40 l1_2 (ji43)).f4)) ∧ w'.cell? ⟨(ad212.add (((ji43)).toNat * 7)).block, (ad212.add (((ji43)).toNat * 7)).off + 5, none⟩ = some (.int .i64 ((rd_T40 l1_2 (ji43)).f5)) ∧ w'.cell? ⟨(ad212.add (((ji43)).toNat * 7)).block, (ad212.add (((ji43)).toNat * 7)).off + 6, none⟩ = some (.int .i64 ((rd_T40 l1_2 (ji43)).f6))) (ds := []) #[false, false, false, false, false, false, false, false, false, false, false, false, false, false, false, false] (by kernel_rfl) rfl rfl ⟨(blk_cell BK209.out 0).trans rfl, (blk_cell BK209.out 1).trans rfl, (blk_cell BK209.out 2).trans rfl, ((HB.out.cell (World.block_lt_of_cell? w _ hw212_0)).trans hw212_0), ((HB.out.cell (World.block_lt_of_cell? w _ hw212_1)).trans hw212_1), ((HB.out.cell (World.block_lt_of_cell? w _ hw212_2)).trans hw212_2), ((HB.out.cell (World.block_lt_of_cell? w _ hw212_3)).trans hw212_3), ((HB.out.cell (World.block_lt_of_cell? w _ hw212_4)).trans hw212_4), ((HB.out.cell (World.block_lt_of_cell? w _ hw212_5)).trans hw212_5), ((HB.out.cell (World.block_lt_of_cell? w _ hw212_6)).trans hw212_6), ((HB.out.cell (World.block_lt_of_cell? w _ hw213_0)).trans hw213_0), ((HB.out.cell (World.block_lt_of_cell? w _ hw213_1)).trans hw213_1), ((HB.out.cell (World.block_lt_of_cell? w _ hw213_2)).trans hw213_2), ((HB.out.cell (World.block_lt_of_cell? w _ hw213_3)).trans hw213_3), ((HB.out.cell (World.block_lt_of_cell? w _ hw213_4)).trans hw213_4), ((HB.out.cell (World.block_lt_of_cell? w _ hw213_5)).trans hw213_5), ((HB.out.cell (World.block_lt_of_cell? w _ hw213_6)).trans hw213_6)⟩ (fun hHeld => ?_); refine with_tabW masterdiscref14_Reserve.tab12 masterdiscref14_Reserve.bits12 (fun HT_ HW_ => ?_)
                      generalize wc.drew = w47 at BK209 BK210 HB hx212_0 hx212_1 hx212_2 hx212_3 hx212_4 hx212_5 hx212_6 hx213_0 hx213_1 hx213_2 hx213_3 hx213_4 hx213_5 hx213_6 hHeld ⊢
                      refine pure_ (i := 0) (N := some 61) (v := ?_) (a' := ?_) #[true, false, false, false, false, false, false, false, false, false, false, false, false, false, false, false] rfl rfl (any_of HT_.out (by kernel_rfl)) (fun _ _ _ h => h) (Or.inl ⟨by rfl, ?_⟩) ?_ ?_
                      rotate_left
                      · intro w'
                        go_simp
                        with_reducible rfl
                      rotate_left
                      · simp only [Act.put, List.setIfInBounds_toArray, List.set_cons_zero, List.set_cons_succ, i64_w, i32_w]
                        rfl
                      refine pure_ (i := 2) (N := some 63) (v := ?_) (a' := ?_) #[true, false, true, false, false, false, false, false, false, false, false, false, false, false, false, false] rfl rfl (any_of HT_.out (by kernel_rfl)) (fun _ _ _ h => h) (Or.inl ⟨by rfl, ?_⟩) ?_ ?_
                      rotate_left
                      · intro w'
                        go_simp
                        with_reducible rfl
                      rotate_left
                      · simp only [Act.put, List.setIfInBounds_toArray, List.set_cons_zero, List.set_cons_succ, i64_w, i32_w]
                        rfl
                      refine pure_ (i := 3) (N := some 64) (v := ?_) (a' := ?_) #[true, false, true, true, false, false, false, false, false, false, false, false, false, false, false, false] rfl rfl (any_of HT_.out (by kernel_rfl)) (fun _ _ _ h => h) (Or.inl ⟨by rfl, ?_⟩) ?_ ?_
                      rotate_left
                      · intro w'
                        go_simp
                        with_reducible rfl
                      rotate_left
                      · simp only [Act.put, List.setIfInBounds_toArray, List.set_cons_zero, List.set_cons_succ, i64_w, i32_w]
                        rfl
                      refine pure_ (i := 7) (N := some 68) (v := ?_) (a' := ?_) #[true, false, true, true, false, false, false, true, false, false, false, false, false, false, false, false] rfl rfl (any_of HT_.out (by kernel_rfl)) (fun _ _ _ h => h) (Or.inl ⟨by rfl, ?_⟩) ?_ ?_
                      rotate_left
                      · intro w'
                        go_simp
                        with_reducible rfl
                      rotate_left
                      · simp only [Act.put, List.setIfInBounds_toArray, List.set_cons_zero, List.set_cons_succ, i64_w, i32_w]
                        rfl
                      refine pure_ (i := 9) (N := some 70) (v := ?_) (a' := ?_) #[true, false, true, true, false, false, false, true, false, true, false, false, false, false, false, false] rfl rfl (any_of HT_.out (by kernel_rfl)) (fun _ _ _ h => h) (Or.inl ⟨by rfl, ?_⟩) ?_ ?_
                      rotate_left
                      · intro w'
                        go_simp
                        with_reducible rfl
                      rotate_left
                      · simp only [Act.put, List.setIfInBounds_toArray, List.set_cons_zero, List.set_cons_succ, i64_w, i32_w]
                        rfl
                      refine pure_ (i := 10) (N := some 71) (v := ?_) (a' := ?_) #[true, false, true, true, false, false, false, true, false, true, true, false, false, false, false, false] rfl rfl (any_of HT_.out (by kernel_rfl)) (fun _ _ _ h => h) (Or.inl ⟨by rfl, ?_⟩) ?_ ?_
                      rotate_left
                      · intro w'
                        go_simp
                        with_reducible rfl
                      rotate_left
                      · simp only [Act.put, List.setIfInBounds_toArray, List.set_cons_zero, List.set_cons_succ, i64_w, i32_w]
                        rfl
                      refine take_ (i := 1) (N := some 62) (v := ?_) (a' := ?_) #[true, true, true, true, false, false, false, true, false, true, true, false, false, false, false, false] rfl rfl (take_ofW HT_.out HW_.out (by kernel_rfl)) (fun _ _ _ h => h) (Or.inl ⟨by rfl, ?_⟩) hHeld ?_ ?_
                      rotate_left
                      · rintro w' ⟨s0, s1, s2, s3, s4, s5, s6, s7, s8, s9, s10, s11, s12, s13, s14, s15, s16⟩
                        go_simp
                        with_reducible rfl
                      rotate_left
                      · simp only [Act.put, List.setIfInBounds_toArray, List.set_cons_zero, List.set_cons_succ, i64_w, i32_w]
                        rfl
                      refine pure_ (i := 4) (N := some 65) (v := ?_) (a' := ?_) #[true, true, true, true, true, false, false, true, false, true, true, false, false, false, false, false] rfl rfl (any_of HT_.out (by kernel_rfl)) (fun _ _ _ h => h) (Or.inl ⟨by rfl, ?_⟩) ?_ ?_
                      rotate_left
                      · intro w'
                        go_simp
                        with_reducible rfl
                      rotate_left
                      · simp only [Act.put, List.setIfInBounds_toArray, List.set_cons_zero, List.set_cons_succ, i64_w, i32_w]
                        rfl
                      refine pure_ (i := 5) (N := some 66) (v := ?_) (a' := ?_) #[true, true, true, true, true, true, false, true, false, true, true, false, false, false, false, false] rfl rfl (any_of HT_.out (by kernel_rfl)) (fun _ _ _ h => h) (Or.inl ⟨by rfl, ?_⟩) ?_ ?_
                      rotate_left
                      · intro w'
                        go_simp
                        with_reducible rfl
                      rotate_left
                      · simp only [Act.put, List.setIfInBounds_toArray, List.set_cons_zero, List.set_cons_succ, i64_w, i32_w]
                        rfl
                      refine take_ (i := 6) (N := some 67) (v := ?_) (a' := ?_) #[true, true, true, true, true, true, true, true, false, true, true, false, false, false, false, false] rfl rfl (take_ofW HT_.out HW_.out (by kernel_rfl)) (fun _ _ _ h => h) (Or.inl ⟨by rfl, ?_⟩) hHeld ?_ ?_
                      rotate_left
                      · rintro w' ⟨s0, s1, s2, s3, s4, s5, s6, s7, s8, s9, s10, s11, s12, s13, s14, s15, s16⟩
                        go_simp
                        with_reducible rfl
                      rotate_left
                      · simp only [Act.put, List.setIfInBounds_toArray, List.set_cons_zero, List.set_cons_succ, i64_w, i32_w]
                        rfl
                      refine take_ (i := 8) (N := some 69) (v := ?_) (a' := ?_) #[true, true, true, true, true, true, true, true, true, true, true, false, false, false, false, false] rfl rfl (take_ofW HT_.out HW_.out (by kernel_rfl)) (fun _ _ _ h => h) (Or.inl ⟨by rfl, ?_⟩) hHeld ?_ ?_
                      rotate_left
                      · rintro w' ⟨s0, s1, s2, s3, s4, s5, s6, s7, s8, s9, s10, s11, s12, s13, s14, s15, s16⟩
                        go_simp
                        with_reducible rfl
                      rotate_left
                      · simp only [Act.put, List.setIfInBounds_toArray, List.set_cons_zero, List.set_cons_succ, i64_w, i32_w]
                        rfl
                      refine pure_ (i := 11) (N := some 72) (v := ?_) (a' := ?_) #[true, true, true, true, true, true, true, true, true, true, true, true, false, false, false, false] rfl rfl (any_of HT_.out (by kernel_rfl)) (fun _ _ _ h => h) (Or.inl ⟨by rfl, ?_⟩) ?_ ?_
                      rotate_left
                      · intro w'
                        go_simp
                        with_reducible rfl
                      rotate_left
                      · simp only [Act.put, List.setIfInBounds_toArray, List.set_cons_zero, List.set_cons_succ, i64_w, i32_w]
                        rfl
                      refine pure_ (i := 12) (N := some 73) (v := ?_) (a' := ?_) #[true, true, true, true, true, true, true, true, true, true, true, true, true, false, false, false] rfl rfl (any_of HT_.out (by kernel_rfl)) (fun _ _ _ h => h) (Or.inl ⟨by rfl, ?_⟩) ?_ ?_
                      rotate_left
                      · intro w'
                        go_simp
                        with_reducible rfl
                      rotate_left
                      · simp only [Act.put, List.setIfInBounds_toArray, List.set_cons_zero, List.set_cons_succ, i64_w, i32_w]
                        rfl
                      refine take_ (i := 13) (N := some 74) (v := ?_) (a' := ?_) #[true, true, true, true, true, true, true, true, true, true, true, true, true, true, false, false] rfl rfl (take_ofW HT_.out HW_.out (by kernel_rfl)) (fun _ _ _ h => h) (Or.inl ⟨by rfl, ?_⟩) hHeld ?_ ?_
                      rotate_left
                      · rintro w' ⟨s0, s1, s2, s3, s4, s5, s6, s7, s8, s9, s10, s11, s12, s13, s14, s15, s16⟩
                        go_simp
                        with_reducible rfl
                      rotate_left
                      · simp only [Act.put, List.setIfInBounds_toArray, List.set_cons_zero, List.set_cons_succ, i64_w, i32_w]
                        rfl
                      refine pure_ (i := 14) (N := some 75) (v := ?_) (a' := ?_) #[true, true, true, true, true, true, true, true, true, true, true, true, true, true, true, false] rfl rfl (any_of HT_.out (by kernel_rfl)) (fun _ _ _ h => h) (Or.inl ⟨by rfl, ?_⟩) ?_ ?_
                      rotate_left
                      · intro w'
                        go_simp
                        with_reducible rfl
                      rotate_left
                      · simp only [Act.put, List.setIfInBounds_toArray, List.set_cons_zero, List.set_cons_succ, i64_w, i32_w]
                        rfl
                      refine pure_ (i := 15) (N := some 10) (v := ?_) (a' := ?_) #[true, true, true, true, true, true, true, true, true, true, true, true, true, true, true, true] rfl rfl (any_of HT_.out (by kernel_rfl)) (fun _ _ _ h => h) (Or.inl ⟨by rfl, ?_⟩) ?_ ?_
                      rotate_left
                      · intro w'
                        go_simp
                        with_reducible rfl
                      rotate_left
                      · simp only [Act.put, List.setIfInBounds_toArray, List.set_cons_zero, List.set_cons_succ, i64_w, i32_w]
                        rfl
                      refine done_ (done_of HT_.out (by kernel_rfl)) ?_
                      try go_wp2
                      have n0_ := Aside0.mk (blk_drew BK209.out)
                      have n1_ := Aside0.mk (blk_drew BK210.out)
                      have n2_ := Aside0.mk (below_drew1 HB.out)
                      clear BK209
                      clear BK210
                      clear HB
                      have BK209 := n0_
                      have BK210 := n1_
                      have HB := n2_
                      clear n0_ n1_ n2_
                      have p214 : 0 ≤ ((ji43) : Int) := of_decide_eq_true (by first | (with_reducible assumption) | assumption)
                      have q214 : (ji43) < (l1_2.length : Int) := of_decide_eq_true (by first | (with_reducible assumption) | assumption)
                      obtain ⟨ad214, e214, hx214_0, hx214_1, hx214_2, hx214_3, hx214_4, hx214_5, hx214_6⟩ := at_T40 HR1_2.out (ji43) p214 q214
                      have hw214_6 := hx214_6
                      have hw214_5 := hx214_5
                      have hw214_4 := hx214_4
                      have hw214_3 := hx214_3
                      have hw214_2 := hx214_2
                      have hw214_1 := hx214_1
                      have hw214_0 := hx214_0
                      obtain rfl : ad212 = ad214 := (by injection e214)
                      replace hx214_0 := upc HB.out hx214_0
                      replace hx214_1 := upc HB.out hx214_1
                      replace hx214_2 := upc HB.out hx214_2
                      replace hx214_3 := upc HB.out hx214_3
                      replace hx214_4 := upc HB.out hx214_4
                      replace hx214_5 := upc HB.out hx214_5
                      replace hx214_6 := upc HB.out hx214_6
                      replace p214 := eq_true p214
                      replace q214 := eq_true q214
                      refine start_ (n := 10) (S := fun w' => w'.cell? ⟨gb209, 0, none⟩ = some (.int .i64 a1_0) ∧ w'.cell? ⟨gb209, 1, none⟩ = some (.bool false) ∧ w'.cell? ⟨gb209, 2, none⟩ = some (.slice (some ad212) l1_2.length c1_2) ∧ w'.cell? (ad212.add (((ji43)).toNat * 7)) = some (.int .i64 ((rd_T40 l1_2 (ji43)).f0)) ∧ w'.cell? ⟨(ad212.add (((ji43)).toNat * 7)).block, (ad212.add (((ji43)).toNat * 7)).off + 1, none⟩ = some (.int .i64 ((rd_T40 l1_2 (ji43)).f1)) ∧ w'.cell? ⟨(ad212.add (((ji43)).toNat * 7)).block, (ad212.add (((ji43)).toNat * 7)).off + 2, none⟩ = some (.int .i64 ((rd_T40 l1_2 (ji43)).f2)) ∧ w'.cell? ⟨(ad212.add (((ji43)).toNat * 7)).block, (ad212.add (((ji43)).toNat * 7)).off + 3, none⟩ = some (.int .i64 ((rd_T40 l1_2 (ji43)).f3)) ∧ w'.cell? ⟨(ad212.add (((ji43)).toNat * 7)).block, (ad212.add (((ji43)).toNat * 7)).off + 4, none⟩ = some (.int .i64 ((rd_T40 l1_2 (ji43)).f4)) ∧ w'.cell? ⟨(ad212.add (((ji43)).toNat * 7)).block, (ad212.add (((ji43)).toNat * 7)).off + 5, none⟩ = some (.int .i64 ((rd_T40 l1_2 (ji43)).f5)) ∧ w'.cell? ⟨(ad212.add (((ji43)).toNat * 7)).block, (ad212.add (((ji43)).toNat * 7)).off + 6, none⟩ = some (.int .i64 ((rd_T40 l1_2 (ji43)).f6))) (ds := []) #[false, false, false, false, false, false, false, false, false, false] (by kernel_rfl) rfl rfl ⟨(blk_cell BK209.out 0).trans rfl, (blk_cell BK209.out 1).trans rfl, (blk_cell BK209.out 2).trans rfl, ((HB.out.cell (World.block_lt_of_cell? w _ hw214_0)).trans hw214_0), ((HB.out.cell (World.block_lt_of_cell? w _ hw214_1)).trans hw214_1), ((HB.out.cell (World.block_lt_of_cell? w _ hw214_2)).trans hw214_2), ((HB.out.cell (World.block_lt_of_cell? w _ hw214_3)).trans hw214_3), ((HB.out.cell (World.block_lt_of_cell? w _ hw214_4)).trans hw214_4), ((HB.out.cell (World.block_lt_of_cell? w _ hw214_5)).trans hw214_5), ((HB.out.cell (World.block_lt_of_cell? w _ hw214_6)).trans hw214_6)⟩ (fun hHeld => ?_); refine with_tabW masterdiscref14_Reserve.tab13 masterdiscref14_Reserve.bits13 (fun HT_ HW_ => ?_)
                      generalize w47.drew = w48 at BK209 BK210 HB hx214_0 hx214_1 hx214_2 hx214_3 hx214_4 hx214_5 hx214_6 hHeld ⊢
                      refine pure_ (i := 0) (N := some 76) (v := ?_) (a' := ?_) #[true, false, false, false, false, false, false, false, false, false] rfl rfl (any_of HT_.out (by kernel_rfl)) (fun _ _ _ h => h) (Or.inl ⟨by rfl, ?_⟩) ?_ ?_
                      rotate_left
                      · intro w'
                        go_simp
                        with_reducible rfl
                      rotate_left
                      · simp only [Act.put, List.setIfInBounds_toArray, List.set_cons_zero, List.set_cons_succ, i64_w, i32_w]
                        rfl
                      refine pure_ (i := 2) (N := some 78) (v := ?_) (a' := ?_) #[true, false, true, false, false, false, false, false, false, false] rfl rfl (any_of HT_.out (by kernel_rfl)) (fun _ _ _ h => h) (Or.inl ⟨by rfl, ?_⟩) ?_ ?_
                      rotate_left
                      · intro w'
                        go_simp
                        with_reducible rfl
                      rotate_left
                      · simp only [Act.put, List.setIfInBounds_toArray, List.set_cons_zero, List.set_cons_succ, i64_w, i32_w]
                        rfl
                      refine pure_ (i := 3) (N := some 79) (v := ?_) (a' := ?_) #[true, false, true, true, false, false, false, false, false, false] rfl rfl (any_of HT_.out (by kernel_rfl)) (fun _ _ _ h => h) (Or.inl ⟨by rfl, ?_⟩) ?_ ?_
                      rotate_left
                      · intro w'
                        go_simp
                        with_reducible rfl
                      rotate_left
                      · simp only [Act.put, List.setIfInBounds_toArray, List.set_cons_zero, List.set_cons_succ, i64_w, i32_w]
                        rfl
                      refine pure_ (i := 7) (N := some 83) (v := ?_) (a' := ?_) #[true, false, true, true, false, false, false, true, false, false] rfl rfl (any_of HT_.out (by kernel_rfl)) (fun _ _ _ h => h) (Or.inl ⟨by rfl, ?_⟩) ?_ ?_
                      rotate_left
                      · intro w'
                        go_simp
                        with_reducible rfl
                      rotate_left
                      · simp only [Act.put, List.setIfInBounds_toArray, List.set_cons_zero, List.set_cons_succ, i64_w, i32_w]
                        rfl
                      refine take_ (i := 1) (N := some 77) (v := ?_) (a' := ?_) #[true, true, true, true, false, false, false, true, false, false] rfl rfl (take_ofW HT_.out HW_.out (by kernel_rfl)) (fun _ _ _ h => h) (Or.inl ⟨by rfl, ?_⟩) hHeld ?_ ?_
                      rotate_left
                      · rintro w' ⟨s0, s1, s2, s3, s4, s5, s6, s7, s8, s9⟩
                        go_simp
                        with_reducible rfl
                      rotate_left
                      · simp only [Act.put, List.setIfInBounds_toArray, List.set_cons_zero, List.set_cons_succ, i64_w, i32_w]
                        rfl
                      refine pure_ (i := 4) (N := some 80) (v := ?_) (a' := ?_) #[true, true, true, true, true, false, false, true, false, false] rfl rfl (any_of HT_.out (by kernel_rfl)) (fun _ _ _ h => h) (Or.inl ⟨by rfl, ?_⟩) ?_ ?_
                      rotate_left
                      · intro w'
                        go_simp
                        with_reducible rfl
                      rotate_left
                      · simp only [Act.put, List.setIfInBounds_toArray, List.set_cons_zero, List.set_cons_succ, i64_w, i32_w]
                        rfl
                      refine pure_ (i := 5) (N := some 81) (v := ?_) (a' := ?_) #[true, true, true, true, true, true, false, true, false, false] rfl rfl (any_of HT_.out (by kernel_rfl)) (fun _ _ _ h => h) (Or.inl ⟨by rfl, ?_⟩) ?_ ?_
                      rotate_left
                      · intro w'
                        go_simp
                        with_reducible rfl
                      rotate_left
                      · simp only [Act.put, List.setIfInBounds_toArray, List.set_cons_zero, List.set_cons_succ, i64_w, i32_w]
                        rfl
                      refine take_ (i := 6) (N := some 82) (v := ?_) (a' := ?_) #[true, true, true, true, true, true, true, true, false, false] rfl rfl (take_ofW HT_.out HW_.out (by kernel_rfl)) (fun _ _ _ h => h) (Or.inl ⟨by rfl, ?_⟩) hHeld ?_ ?_
                      rotate_left
                      · rintro w' ⟨s0, s1, s2, s3, s4, s5, s6, s7, s8, s9⟩
                        go_simp
                        with_reducible rfl
                      rotate_left
                      · simp only [Act.put, List.setIfInBounds_toArray, List.set_cons_zero, List.set_cons_succ, i64_w, i32_w]
                        rfl
                      refine take_ (i := 8) (N := some 84) (v := ?_) (a' := ?_) #[true, true, true, true, true, true, true, true, true, false] rfl rfl (take_ofW HT_.out HW_.out (by kernel_rfl)) (fun _ _ _ h => h) (Or.inl ⟨by rfl, ?_⟩) hHeld ?_ ?_
                      rotate_left
                      · rintro w' ⟨s0, s1, s2, s3, s4, s5, s6, s7, s8, s9⟩
                        go_simp
                        with_reducible rfl
                      rotate_left
                      · simp only [Act.put, List.setIfInBounds_toArray, List.set_cons_zero, List.set_cons_succ, i64_w, i32_w]
                        rfl
                      refine pure_ (i := 9) (N := some 85) (v := ?_) (a' := ?_) #[true, true, true, true, true, true, true, true, true, true] rfl rfl (any_of HT_.out (by kernel_rfl)) (fun _ _ _ h => h) (Or.inl ⟨by rfl, ?_⟩) ?_ ?_
                      rotate_left
                      · intro w'
                        go_simp
                        with_reducible rfl
                      rotate_left
                      · simp only [Act.put, List.setIfInBounds_toArray, List.set_cons_zero, List.set_cons_succ, i64_w, i32_w]
                        rfl
                      refine done_ (done_of HT_.out (by kernel_rfl)) ?_
                      try go_wp2
                      go_meet
                      case rel => exact ⟨_, (wrap64 ((wrap64 (((rd_T40 l1_2 (ji43)).f2) + ((rd_T40 l1_2 (ji43)).f3))) + 16)), (by first | rfl | (simp; done) | (simp only [← hji43] <;> (first | rfl | simp)) | (simp [*]; done)), H', ⟨by have := HJ14.out; have := HJ29.out; first | omega | exact Nat.le_refl _⟩, ⟨by (with_reducible repeat (first | refine blk_drewN ?_ _ | refine blk_drew ?_ | refine blk_alloc ?_ _)); exact BK209.out⟩, ⟨by (with_reducible repeat (first | refine blk_drewN ?_ _ | refine blk_drew ?_ | refine blk_alloc ?_ _)); exact BK210.out⟩, ⟨by repeat (first | (with_reducible first | exact HB.out | apply below_alloc | apply pw_below_drewN | apply below_drew1 | refine below_set ?_ GE209.out | refine below_set ?_ GE210.out) | exact HB.out)⟩⟩
                    · rw [if_neg c46] at H
                      have c46b0 : decide (((rd_T40 l1_2 (ji43)).f1) ≤ a1_0) = false := decide_eq_false c46
                      clear c46
                      have H' := Aside0.mk H
                      clear H
                      try go_wp2
                      have n0_ := Aside0.mk (blk_drew BK209.out)
                      have n1_ := Aside0.mk (blk_drew BK210.out)
                      have n2_ := Aside0.mk (below_drew1 HB.out)
                      clear BK209
                      clear BK210
                      clear HB
                      have BK209 := n0_
                      have BK210 := n1_
                      have HB := n2_
                      clear n0_ n1_ n2_
                      have p212 : 0 ≤ ((ji43) : Int) := of_decide_eq_true (by first | (with_reducible assumption) | assumption)
                      have q212 : (ji43) < (l1_2.length : Int) := of_decide_eq_true (by first | (with_reducible assumption) | assumption)
                      obtain ⟨ad212, e212, hx212_0, hx212_1, hx212_2, hx212_3, hx212_4, hx212_5, hx212_6⟩ := at_T40 HR1_2.out (ji43) p212 q212
                      have hw212_6 := hx212_6
                      have hw212_5 := hx212_5
                      have hw212_4 := hx212_4
                      have hw212_3 := hx212_3
                      have hw212_2 := hx212_2
                      have hw212_1 := hx212_1
                      have hw212_0 := hx212_0
                      cases e212
                      replace hx212_0 := upc HB.out hx212_0
                      replace hx212_1 := upc HB.out hx212_1
                      replace hx212_2 := upc HB.out hx212_2
                      replace hx212_3 := upc HB.out hx212_3
                      replace hx212_4 := upc HB.out hx212_4
                      replace hx212_5 := upc HB.out hx212_5
                      replace hx212_6 := upc HB.out hx212_6
                      replace p212 := eq_true p212
                      replace q212 := eq_true q212
                      have p213 : 0 ≤ ((ji43) : Int) := of_decide_eq_true (by first | (with_reducible assumption) | assumption)
                      have q213 : (ji43) < (l1_2.length : Int) := of_decide_eq_true (by first | (with_reducible assumption) | assumption)
                      obtain ⟨ad213, e213, hx213_0, hx213_1, hx213_2, hx213_3, hx213_4, hx213_5, hx213_6⟩ := at_T40 HR1_2.out (ji43) p213 q213
                      have hw213_6 := hx213_6
                      have hw213_5 := hx213_5
                      have hw213_4 := hx213_4
                      have hw213_3 := hx213_3
                      have hw213_2 := hx213_2
                      have hw213_1 := hx213_1
                      have hw213_0 := hx213_0
                      obtain rfl : ad212 = ad213 := (by injection e213)
                      replace hx213_0 := upc HB.out hx213_0
                      replace hx213_1 := upc HB.out hx213_1
                      replace hx213_2 := upc HB.out hx213_2
                      replace hx213_3 := upc HB.out hx213_3
                      replace hx213_4 := upc HB.out hx213_4
                      replace hx213_5 := upc HB.out hx213_5
                      replace hx213_6 := upc HB.out hx213_6
                      replace p213 := eq_true p213
                      replace q213 := eq_true q213
                      refine start_ (n := 16) (S := fun w' => w'.cell? ⟨gb209, 0, none⟩ = some (.int .i64 a1_0) ∧ w'.cell? ⟨gb209, 1, none⟩ = some (.bool false) ∧ w'.cell? ⟨gb209, 2, none⟩ = some (.slice (some ad212) l1_2.length c1_2) ∧ w'.cell? (ad212.add (((ji43)).toNat * 7)) = some (.int .i64 ((rd_T40 l1_2 (ji43)).f0)) ∧ w'.cell? ⟨(ad212.add (((ji43)).toNat * 7)).block, (ad212.add (((ji43)).toNat * 7)).off + 1, none⟩ = some (.int .i64 ((rd_T40 l1_2 (ji43)).f1)) ∧ w'.cell? ⟨(ad212.add (((ji43)).toNat * 7)).block, (ad212.add (((ji43)).toNat * 7)).off + 2, none⟩ = some (.int .i64 ((rd_T40 l1_2 (ji43)).f2)) ∧ w'.cell? ⟨(ad212.add (((ji43)).toNat * 7)).block, (ad212.add (((ji43)).toNat * 7)).off + 3, none⟩ = some (.int .i64 ((rd_T40 l1_2 (ji43)).f3)) ∧ w'.cell? ⟨(ad212.add (((ji43)).toNat * 7)).block, (ad212.add (((ji43)).toNat * 7)).off + 4, none⟩ = some (.int .i64 ((rd_T40 l1_2 (ji43)).f4)) ∧ w'.cell? ⟨(ad212.add (((ji43)).toNat * 7)).block, (ad212.add (((ji43)).toNat * 7)).off + 5, none⟩ = some (.int .i64 ((rd_T40 l1_2 (ji43)).f5)) ∧ w'.cell? ⟨(ad212.add (((ji43)).toNat * 7)).block, (ad212.add (((ji43)).toNat * 7)).off + 6, none⟩ = some (.int .i64 ((rd_T40 l1_2 (ji43)).f6)) ∧ w'.cell? (ad212.add (((ji43)).toNat * 7)) = some (.int .i64 ((rd_T40 l1_2 (ji43)).f0)) ∧ w'.cell? ⟨(ad212.add (((ji43)).toNat * 7)).block, (ad212.add (((ji43)).toNat * 7)).off + 1, none⟩ = some (.int .i64 ((rd_T40 l1_2 (ji43)).f1)) ∧ w'.cell? ⟨(ad212.add (((ji43)).toNat * 7)).block, (ad212.add (((ji43)).toNat * 7)).off + 2, none⟩ = some (.int .i64 ((rd_T40 l1_2 (ji43)).f2)) ∧ w'.cell? ⟨(ad212.add (((ji43)).toNat * 7)).block, (ad212.add (((ji43)).toNat * 7)).off + 3, none⟩ = some (.int .i64 ((rd_T40 l1_2 (ji43)).f3)) ∧ w'.cell? ⟨(ad212.add (((ji43)).toNat * 7)).block, (ad212.add (((ji43)).toNat * 7)).off + 4, none⟩ = some (.int .i64 ((rd_T40 l1_2 (ji43)).f4)) ∧ w'.cell? ⟨(ad212.add (((ji43)).toNat * 7)).block, (ad212.add (((ji43)).toNat * 7)).off + 5, none⟩ = some (.int .i64 ((rd_T40 l1_2 (ji43)).f5)) ∧ w'.cell? ⟨(ad212.add (((ji43)).toNat * 7)).block, (ad212.add (((ji43)).toNat * 7)).off + 6, none⟩ = some (.int .i64 ((rd_T40 l1_2 (ji43)).f6))) (ds := []) #[false, false, false, false, false, false, false, false, false, false, false, false, false, false, false, false] (by kernel_rfl) rfl rfl ⟨(blk_cell BK209.out 0).trans rfl, (blk_cell BK209.out 1).trans rfl, (blk_cell BK209.out 2).trans rfl, ((HB.out.cell (World.block_lt_of_cell? w _ hw212_0)).trans hw212_0), ((HB.out.cell (World.block_lt_of_cell? w _ hw212_1)).trans hw212_1), ((HB.out.cell (World.block_lt_of_cell? w _ hw212_2)).trans hw212_2), ((HB.out.cell (World.block_lt_of_cell? w _ hw212_3)).trans hw212_3), ((HB.out.cell (World.block_lt_of_cell? w _ hw212_4)).trans hw212_4), ((HB.out.cell (World.block_lt_of_cell? w _ hw212_5)).trans hw212_5), ((HB.out.cell (World.block_lt_of_cell? w _ hw212_6)).trans hw212_6), ((HB.out.cell (World.block_lt_of_cell? w _ hw213_0)).trans hw213_0), ((HB.out.cell (World.block_lt_of_cell? w _ hw213_1)).trans hw213_1), ((HB.out.cell (World.block_lt_of_cell? w _ hw213_2)).trans hw213_2), ((HB.out.cell (World.block_lt_of_cell? w _ hw213_3)).trans hw213_3), ((HB.out.cell (World.block_lt_of_cell? w _ hw213_4)).trans hw213_4), ((HB.out.cell (World.block_lt_of_cell? w _ hw213_5)).trans hw213_5), ((HB.out.cell (World.block_lt_of_cell? w _ hw213_6)).trans hw213_6)⟩ (fun hHeld => ?_); refine with_tabW masterdiscref14_Reserve.tab12 masterdiscref14_Reserve.bits12 (fun HT_ HW_ => ?_)
                      generalize wc.drew = w49 at BK209 BK210 HB hx212_0 hx212_1 hx212_2 hx212_3 hx212_4 hx212_5 hx212_6 hx213_0 hx213_1 hx213_2 hx213_3 hx213_4 hx213_5 hx213_6 hHeld ⊢
                      refine pure_ (i := 0) (N := some 61) (v := ?_) (a' := ?_) #[true, false, false, false, false, false, false, false, false, false, false, false, false, false, false, false] rfl rfl (any_of HT_.out (by kernel_rfl)) (fun _ _ _ h => h) (Or.inl ⟨by rfl, ?_⟩) ?_ ?_
                      rotate_left
                      · intro w'
                        go_simp
                        with_reducible rfl
                      rotate_left
                      · simp only [Act.put, List.setIfInBounds_toArray, List.set_cons_zero, List.set_cons_succ, i64_w, i32_w]
                        rfl
                      refine pure_ (i := 2) (N := some 63) (v := ?_) (a' := ?_) #[true, false, true, false, false, false, false, false, false, false, false, false, false, false, false, false] rfl rfl (any_of HT_.out (by kernel_rfl)) (fun _ _ _ h => h) (Or.inl ⟨by rfl, ?_⟩) ?_ ?_
                      rotate_left
                      · intro w'
                        go_simp
                        with_reducible rfl
                      rotate_left
                      · simp only [Act.put, List.setIfInBounds_toArray, List.set_cons_zero, List.set_cons_succ, i64_w, i32_w]
                        rfl
                      refine pure_ (i := 3) (N := some 64) (v := ?_) (a' := ?_) #[true, false, true, true, false, false, false, false, false, false, false, false, false, false, false, false] rfl rfl (any_of HT_.out (by kernel_rfl)) (fun _ _ _ h => h) (Or.inl ⟨by rfl, ?_⟩) ?_ ?_
                      rotate_left
                      · intro w'
                        go_simp
                        with_reducible rfl
                      rotate_left
                      · simp only [Act.put, List.setIfInBounds_toArray, List.set_cons_zero, List.set_cons_succ, i64_w, i32_w]
                        rfl
                      refine pure_ (i := 7) (N := some 68) (v := ?_) (a' := ?_) #[true, false, true, true, false, false, false, true, false, false, false, false, false, false, false, false] rfl rfl (any_of HT_.out (by kernel_rfl)) (fun _ _ _ h => h) (Or.inl ⟨by rfl, ?_⟩) ?_ ?_
                      rotate_left
                      · intro w'
                        go_simp
                        with_reducible rfl
                      rotate_left
                      · simp only [Act.put, List.setIfInBounds_toArray, List.set_cons_zero, List.set_cons_succ, i64_w, i32_w]
                        rfl
                      refine pure_ (i := 9) (N := some 70) (v := ?_) (a' := ?_) #[true, false, true, true, false, false, false, true, false, true, false, false, false, false, false, false] rfl rfl (any_of HT_.out (by kernel_rfl)) (fun _ _ _ h => h) (Or.inl ⟨by rfl, ?_⟩) ?_ ?_
                      rotate_left
                      · intro w'
                        go_simp
                        with_reducible rfl
                      rotate_left
                      · simp only [Act.put, List.setIfInBounds_toArray, List.set_cons_zero, List.set_cons_succ, i64_w, i32_w]
                        rfl
                      refine pure_ (i := 10) (N := some 71) (v := ?_) (a' := ?_) #[true, false, true, true, false, false, false, true, false, true, true, false, false, false, false, false] rfl rfl (any_of HT_.out (by kernel_rfl)) (fun _ _ _ h => h) (Or.inl ⟨by rfl, ?_⟩) ?_ ?_
                      rotate_left
                      · intro w'
                        go_simp
                        with_reducible rfl
                      rotate_left
                      · simp only [Act.put, List.setIfInBounds_toArray, List.set_cons_zero, List.set_cons_succ, i64_w, i32_w]
                        rfl
                      refine take_ (i := 1) (N := some 62) (v := ?_) (a' := ?_) #[true, true, true, true, false, false, false, true, false, true, true, false, false, false, false, false] rfl rfl (take_ofW HT_.out HW_.out (by kernel_rfl)) (fun _ _ _ h => h) (Or.inl ⟨by rfl, ?_⟩) hHeld ?_ ?_
                      rotate_left
                      · rintro w' ⟨s0, s1, s2, s3, s4, s5, s6, s7, s8, s9, s10, s11, s12, s13, s14, s15, s16⟩
                        go_simp
                        with_reducible rfl
                      rotate_left
                      · simp only [Act.put, List.setIfInBounds_toArray, List.set_cons_zero, List.set_cons_succ, i64_w, i32_w]
                        rfl
                      refine pure_ (i := 4) (N := some 65) (v := ?_) (a' := ?_) #[true, true, true, true, true, false, false, true, false, true, true, false, false, false, false, false] rfl rfl (any_of HT_.out (by kernel_rfl)) (fun _ _ _ h => h) (Or.inl ⟨by rfl, ?_⟩) ?_ ?_
                      rotate_left
                      · intro w'
                        go_simp
                        with_reducible rfl
                      rotate_left
                      · simp only [Act.put, List.setIfInBounds_toArray, List.set_cons_zero, List.set_cons_succ, i64_w, i32_w]
                        rfl
                      refine pure_ (i := 5) (N := some 66) (v := ?_) (a' := ?_) #[true, true, true, true, true, true, false, true, false, true, true, false, false, false, false, false] rfl rfl (any_of HT_.out (by kernel_rfl)) (fun _ _ _ h => h) (Or.inl ⟨by rfl, ?_⟩) ?_ ?_
                      rotate_left
                      · intro w'
                        go_simp
                        with_reducible rfl
                      rotate_left
                      · simp only [Act.put, List.setIfInBounds_toArray, List.set_cons_zero, List.set_cons_succ, i64_w, i32_w]
                        rfl
                      refine take_ (i := 6) (N := some 67) (v := ?_) (a' := ?_) #[true, true, true, true, true, true, true, true, false, true, true, false, false, false, false, false] rfl rfl (take_ofW HT_.out HW_.out (by kernel_rfl)) (fun _ _ _ h => h) (Or.inl ⟨by rfl, ?_⟩) hHeld ?_ ?_
                      rotate_left
                      · rintro w' ⟨s0, s1, s2, s3, s4, s5, s6, s7, s8, s9, s10, s11, s12, s13, s14, s15, s16⟩
                        go_simp
                        with_reducible rfl
                      rotate_left
                      · simp only [Act.put, List.setIfInBounds_toArray, List.set_cons_zero, List.set_cons_succ, i64_w, i32_w]
                        rfl
                      refine take_ (i := 8) (N := some 69) (v := ?_) (a' := ?_) #[true, true, true, true, true, true, true, true, true, true, true, false, false, false, false, false] rfl rfl (take_ofW HT_.out HW_.out (by kernel_rfl)) (fun _ _ _ h => h) (Or.inl ⟨by rfl, ?_⟩) hHeld ?_ ?_
                      rotate_left
                      · rintro w' ⟨s0, s1, s2, s3, s4, s5, s6, s7, s8, s9, s10, s11, s12, s13, s14, s15, s16⟩
                        go_simp
                        with_reducible rfl
                      rotate_left
                      · simp only [Act.put, List.setIfInBounds_toArray, List.set_cons_zero, List.set_cons_succ, i64_w, i32_w]
                        rfl
                      refine pure_ (i := 11) (N := some 72) (v := ?_) (a' := ?_) #[true, true, true, true, true, true, true, true, true, true, true, true, false, false, false, false] rfl rfl (any_of HT_.out (by kernel_rfl)) (fun _ _ _ h => h) (Or.inl ⟨by rfl, ?_⟩) ?_ ?_
                      rotate_left
                      · intro w'
                        go_simp
                        with_reducible rfl
                      rotate_left
                      · simp only [Act.put, List.setIfInBounds_toArray, List.set_cons_zero, List.set_cons_succ, i64_w, i32_w]
                        rfl
                      refine pure_ (i := 12) (N := some 73) (v := ?_) (a' := ?_) #[true, true, true, true, true, true, true, true, true, true, true, true, true, false, false, false] rfl rfl (any_of HT_.out (by kernel_rfl)) (fun _ _ _ h => h) (Or.inl ⟨by rfl, ?_⟩) ?_ ?_
                      rotate_left
                      · intro w'
                        go_simp
                        with_reducible rfl
                      rotate_left
                      · simp only [Act.put, List.setIfInBounds_toArray, List.set_cons_zero, List.set_cons_succ, i64_w, i32_w]
                        rfl
                      refine take_ (i := 13) (N := some 74) (v := ?_) (a' := ?_) #[true, true, true, true, true, true, true, true, true, true, true, true, true, true, false, false] rfl rfl (take_ofW HT_.out HW_.out (by kernel_rfl)) (fun _ _ _ h => h) (Or.inl ⟨by rfl, ?_⟩) hHeld ?_ ?_
                      rotate_left
                      · rintro w' ⟨s0, s1, s2, s3, s4, s5, s6, s7, s8, s9, s10, s11, s12, s13, s14, s15, s16⟩
                        go_simp
                        with_reducible rfl
                      rotate_left
                      · simp only [Act.put, List.setIfInBounds_toArray, List.set_cons_zero, List.set_cons_succ, i64_w, i32_w]
                        rfl
                      refine pure_ (i := 14) (N := some 75) (v := ?_) (a' := ?_) #[true, true, true, true, true, true, true, true, true, true, true, true, true, true, true, false] rfl rfl (any_of HT_.out (by kernel_rfl)) (fun _ _ _ h => h) (Or.inl ⟨by rfl, ?_⟩) ?_ ?_
                      rotate_left
                      · intro w'
                        go_simp
                        with_reducible rfl
                      rotate_left
                      · simp only [Act.put, List.setIfInBounds_toArray, List.set_cons_zero, List.set_cons_succ, i64_w, i32_w]
                        rfl
                      refine pure_ (i := 15) (N := some 10) (v := ?_) (a' := ?_) #[true, true, true, true, true, true, true, true, true, true, true, true, true, true, true, true] rfl rfl (any_of HT_.out (by kernel_rfl)) (fun _ _ _ h => h) (Or.inl ⟨by rfl, ?_⟩) ?_ ?_
                      rotate_left
                      · intro w'
                        go_simp
                        with_reducible rfl
                      rotate_left
                      · simp only [Act.put, List.setIfInBounds_toArray, List.set_cons_zero, List.set_cons_succ, i64_w, i32_w]
                        rfl
                      refine done_ (done_of HT_.out (by kernel_rfl)) ?_
                      try go_wp2
                      have n0_ := Aside0.mk (blk_drew BK209.out)
                      have n1_ := Aside0.mk (blk_drew BK210.out)
                      have n2_ := Aside0.mk (below_drew1 HB.out)
                      clear BK209
                      clear BK210
                      clear HB
                      have BK209 := n0_
                      have BK210 := n1_
                      have HB := n2_
                      clear n0_ n1_ n2_
                      have p214 : 0 ≤ ((ji43) : Int) := of_decide_eq_true (by first | (with_reducible assumption) | assumption)
                      have q214 : (ji43) < (l1_2.length : Int) := of_decide_eq_true (by first | (with_reducible assumption) | assumption)
                      obtain ⟨ad214, e214, hx214_0, hx214_1, hx214_2, hx214_3, hx214_4, hx214_5, hx214_6⟩ := at_T40 HR1_2.out (ji43) p214 q214
                      have hw214_6 := hx214_6
                      have hw214_5 := hx214_5
                      have hw214_4 := hx214_4
                      have hw214_3 := hx214_3
                      have hw214_2 := hx214_2
                      have hw214_1 := hx214_1
                      have hw214_0 := hx214_0
                      obtain rfl : ad212 = ad214 := (by injection e214)
                      replace hx214_0 := upc HB.out hx214_0
                      replace hx214_1 := upc HB.out hx214_1
                      replace hx214_2 := upc HB.out hx214_2
                      replace hx214_3 := upc HB.out hx214_3
                      replace hx214_4 := upc HB.out hx214_4
                      replace hx214_5 := upc HB.out hx214_5
                      replace hx214_6 := upc HB.out hx214_6
                      replace p214 := eq_true p214
                      replace q214 := eq_true q214
                      refine start_ (n := 10) (S := fun w' => w'.cell? ⟨gb209, 0, none⟩ = some (.int .i64 a1_0) ∧ w'.cell? ⟨gb209, 1, none⟩ = some (.bool false) ∧ w'.cell? ⟨gb209, 2, none⟩ = some (.slice (some ad212) l1_2.length c1_2) ∧ w'.cell? (ad212.add (((ji43)).toNat * 7)) = some (.int .i64 ((rd_T40 l1_2 (ji43)).f0)) ∧ w'.cell? ⟨(ad212.add (((ji43)).toNat * 7)).block, (ad212.add (((ji43)).toNat * 7)).off + 1, none⟩ = some (.int .i64 ((rd_T40 l1_2 (ji43)).f1)) ∧ w'.cell? ⟨(ad212.add (((ji43)).toNat * 7)).block, (ad212.add (((ji43)).toNat * 7)).off + 2, none⟩ = some (.int .i64 ((rd_T40 l1_2 (ji43)).f2)) ∧ w'.cell? ⟨(ad212.add (((ji43)).toNat * 7)).block, (ad212.add (((ji43)).toNat * 7)).off + 3, none⟩ = some (.int .i64 ((rd_T40 l1_2 (ji43)).f3)) ∧ w'.cell? ⟨(ad212.add (((ji43)).toNat * 7)).block, (ad212.add (((ji43)).toNat * 7)).off + 4, none⟩ = some (.int .i64 ((rd_T40 l1_2 (ji43)).f4)) ∧ w'.cell? ⟨(ad212.add (((ji43)).toNat * 7)).block, (ad212.add (((ji43)).toNat * 7)).off + 5, none⟩ = some (.int .i64 ((rd_T40 l1_2 (ji43)).f5)) ∧ w'.cell? ⟨(ad212.add (((ji43)).toNat * 7)).block, (ad212.add (((ji43)).toNat * 7)).off + 6, none⟩ = some (.int .i64 ((rd_T40 l1_2 (ji43)).f6))) (ds := []) #[false, false, false, false, false, false, false, false, false, false] (by kernel_rfl) rfl rfl ⟨(blk_cell BK209.out 0).trans rfl, (blk_cell BK209.out 1).trans rfl, (blk_cell BK209.out 2).trans rfl, ((HB.out.cell (World.block_lt_of_cell? w _ hw214_0)).trans hw214_0), ((HB.out.cell (World.block_lt_of_cell? w _ hw214_1)).trans hw214_1), ((HB.out.cell (World.block_lt_of_cell? w _ hw214_2)).trans hw214_2), ((HB.out.cell (World.block_lt_of_cell? w _ hw214_3)).trans hw214_3), ((HB.out.cell (World.block_lt_of_cell? w _ hw214_4)).trans hw214_4), ((HB.out.cell (World.block_lt_of_cell? w _ hw214_5)).trans hw214_5), ((HB.out.cell (World.block_lt_of_cell? w _ hw214_6)).trans hw214_6)⟩ (fun hHeld => ?_); refine with_tabW masterdiscref14_Reserve.tab13 masterdiscref14_Reserve.bits13 (fun HT_ HW_ => ?_)
                      generalize w49.drew = w50 at BK209 BK210 HB hx214_0 hx214_1 hx214_2 hx214_3 hx214_4 hx214_5 hx214_6 hHeld ⊢
                      refine pure_ (i := 0) (N := some 76) (v := ?_) (a' := ?_) #[true, false, false, false, false, false, false, false, false, false] rfl rfl (any_of HT_.out (by kernel_rfl)) (fun _ _ _ h => h) (Or.inl ⟨by rfl, ?_⟩) ?_ ?_
                      rotate_left
                      · intro w'
                        go_simp
                        with_reducible rfl
                      rotate_left
                      · simp only [Act.put, List.setIfInBounds_toArray, List.set_cons_zero, List.set_cons_succ, i64_w, i32_w]
                        rfl
                      refine pure_ (i := 2) (N := some 78) (v := ?_) (a' := ?_) #[true, false, true, false, false, false, false, false, false, false] rfl rfl (any_of HT_.out (by kernel_rfl)) (fun _ _ _ h => h) (Or.inl ⟨by rfl, ?_⟩) ?_ ?_
                      rotate_left
                      · intro w'
                        go_simp
                        with_reducible rfl
                      rotate_left
                      · simp only [Act.put, List.setIfInBounds_toArray, List.set_cons_zero, List.set_cons_succ, i64_w, i32_w]
                        rfl
                      refine pure_ (i := 3) (N := some 79) (v := ?_) (a' := ?_) #[true, false, true, true, false, false, false, false, false, false] rfl rfl (any_of HT_.out (by kernel_rfl)) (fun _ _ _ h => h) (Or.inl ⟨by rfl, ?_⟩) ?_ ?_
                      rotate_left
                      · intro w'
                        go_simp
                        with_reducible rfl
                      rotate_left
                      · simp only [Act.put, List.setIfInBounds_toArray, List.set_cons_zero, List.set_cons_succ, i64_w, i32_w]
                        rfl
                      refine pure_ (i := 7) (N := some 83) (v := ?_) (a' := ?_) #[true, false, true, true, false, false, false, true, false, false] rfl rfl (any_of HT_.out (by kernel_rfl)) (fun _ _ _ h => h) (Or.inl ⟨by rfl, ?_⟩) ?_ ?_
                      rotate_left
                      · intro w'
                        go_simp
                        with_reducible rfl
                      rotate_left
                      · simp only [Act.put, List.setIfInBounds_toArray, List.set_cons_zero, List.set_cons_succ, i64_w, i32_w]
                        rfl
                      refine take_ (i := 1) (N := some 77) (v := ?_) (a' := ?_) #[true, true, true, true, false, false, false, true, false, false] rfl rfl (take_ofW HT_.out HW_.out (by kernel_rfl)) (fun _ _ _ h => h) (Or.inl ⟨by rfl, ?_⟩) hHeld ?_ ?_
                      rotate_left
                      · rintro w' ⟨s0, s1, s2, s3, s4, s5, s6, s7, s8, s9⟩
                        go_simp
                        with_reducible rfl
                      rotate_left
                      · simp only [Act.put, List.setIfInBounds_toArray, List.set_cons_zero, List.set_cons_succ, i64_w, i32_w]
                        rfl
                      refine pure_ (i := 4) (N := some 80) (v := ?_) (a' := ?_) #[true, true, true, true, true, false, false, true, false, false] rfl rfl (any_of HT_.out (by kernel_rfl)) (fun _ _ _ h => h) (Or.inl ⟨by rfl, ?_⟩) ?_ ?_
                      rotate_left
                      · intro w'
                        go_simp
                        with_reducible rfl
                      rotate_left
                      · simp only [Act.put, List.setIfInBounds_toArray, List.set_cons_zero, List.set_cons_succ, i64_w, i32_w]
                        rfl
                      refine pure_ (i := 5) (N := some 81) (v := ?_) (a' := ?_) #[true, true, true, true, true, true, false, true, false, false] rfl rfl (any_of HT_.out (by kernel_rfl)) (fun _ _ _ h => h) (Or.inl ⟨by rfl, ?_⟩) ?_ ?_
                      rotate_left
                      · intro w'
                        go_simp
                        with_reducible rfl
                      rotate_left
                      · simp only [Act.put, List.setIfInBounds_toArray, List.set_cons_zero, List.set_cons_succ, i64_w, i32_w]
                        rfl
                      refine take_ (i := 6) (N := some 82) (v := ?_) (a' := ?_) #[true, true, true, true, true, true, true, true, false, false] rfl rfl (take_ofW HT_.out HW_.out (by kernel_rfl)) (fun _ _ _ h => h) (Or.inl ⟨by rfl, ?_⟩) hHeld ?_ ?_
                      rotate_left
                      · rintro w' ⟨s0, s1, s2, s3, s4, s5, s6, s7, s8, s9⟩
                        go_simp
                        with_reducible rfl
                      rotate_left
                      · simp only [Act.put, List.setIfInBounds_toArray, List.set_cons_zero, List.set_cons_succ, i64_w, i32_w]
                        rfl
                      refine take_ (i := 8) (N := some 84) (v := ?_) (a' := ?_) #[true, true, true, true, true, true, true, true, true, false] rfl rfl (take_ofW HT_.out HW_.out (by kernel_rfl)) (fun _ _ _ h => h) (Or.inl ⟨by rfl, ?_⟩) hHeld ?_ ?_
                      rotate_left
                      · rintro w' ⟨s0, s1, s2, s3, s4, s5, s6, s7, s8, s9⟩
                        go_simp
                        with_reducible rfl
                      rotate_left
                      · simp only [Act.put, List.setIfInBounds_toArray, List.set_cons_zero, List.set_cons_succ, i64_w, i32_w]
                        rfl
                      refine pure_ (i := 9) (N := some 85) (v := ?_) (a' := ?_) #[true, true, true, true, true, true, true, true, true, true] rfl rfl (any_of HT_.out (by kernel_rfl)) (fun _ _ _ h => h) (Or.inl ⟨by rfl, ?_⟩) ?_ ?_
                      rotate_left
                      · intro w'
                        go_simp
                        with_reducible rfl
                      rotate_left
                      · simp only [Act.put, List.setIfInBounds_toArray, List.set_cons_zero, List.set_cons_succ, i64_w, i32_w]
                        rfl
                      refine done_ (done_of HT_.out (by kernel_rfl)) ?_
                      try go_wp2
                      go_meet
                      case rel => exact ⟨_, (wrap64 (((rd_T40 l1_2 (ji43)).f2) + ((rd_T40 l1_2 (ji43)).f3))), (by first | rfl | (simp; done) | (simp only [← hji43] <;> (first | rfl | simp)) | (simp [*]; done)), H', ⟨by have := HJ14.out; have := HJ29.out; first | omega | exact Nat.le_refl _⟩, ⟨by (with_reducible repeat (first | refine blk_drewN ?_ _ | refine blk_drew ?_ | refine blk_alloc ?_ _)); exact BK209.out⟩, ⟨by (with_reducible repeat (first | refine blk_drewN ?_ _ | refine blk_drew ?_ | refine blk_alloc ?_ _)); exact BK210.out⟩, ⟨by repeat (first | (with_reducible first | exact HB.out | apply below_alloc | apply pw_below_drewN | apply below_drew1 | refine below_set ?_ GE209.out | refine below_set ?_ GE210.out) | exact HB.out)⟩⟩
                  · rw [if_neg c45] at H
                    exact absurd H (by simp)
                · rw [if_neg c44] at H
                  exact absurd H (by simp)
              · rw [if_neg c42] at H
                have c42b0 : decide (0 < (l1_2.length : Int)) = false := decide_eq_false c42
                have c42b1 : decide (0 < l1_2.length) = false := decide_eq_false (by omega)
                clear c42
                (first | rw [c42b0] | (simp only [i64_w, i32_w]; rw [c42b0]) | skip)
                (try rw [c42b1])
                have H' := Aside0.mk H
                clear H
                go_wp2
                go_meet
                case rel => exact ⟨_, (0), (by first | rfl | (simp; done) | (simp [*]; done)), H', ⟨by have := HJ14.out; have := HJ29.out; first | omega | exact Nat.le_refl _⟩, ⟨by (with_reducible repeat (first | refine blk_drewN ?_ _ | refine blk_drew ?_ | refine blk_alloc ?_ _)); exact BK209.out⟩, ⟨by (with_reducible repeat (first | refine blk_drewN ?_ _ | refine blk_drew ?_ | refine blk_alloc ?_ _)); exact BK210.out⟩, ⟨by repeat (first | (with_reducible first | exact HB.out | apply below_alloc | apply pw_below_drewN | apply below_drew1 | refine below_set ?_ GE209.out | refine below_set ?_ GE210.out) | exact HB.out)⟩⟩
             case rest =>
              clear HC39
              try clear c1
              try clear p2
              try clear q2
              try clear hx2
              try clear c4
              try clear p6
              try clear p21
              try clear q21
              try clear hx21
              try clear c42
              try clear c42b0
              try clear c42b1
              try clear c44
              try clear c45
              try clear c46
              try clear c46b0
              try clear hx212_0
              try clear hx212_1
              try clear hx212_2
              try clear hx212_3
              try clear hx212_4
              try clear hx212_5
              try clear hx212_6
              try clear hx213_0
              try clear hx213_1
              try clear hx213_2
              try clear hx213_3
              try clear hx213_4
              try clear hx213_5
              try clear hx213_6
              try clear hx214_0
              try clear hx214_1
              try clear hx214_2
              try clear hx214_3
              try clear hx214_4
              try clear hx214_5
              try clear hx214_6
              try clear p212
              try clear p213
              try clear p214
              try clear q212
              try clear q213
              try clear q214
              obtain ⟨kq, x10_38, rfl, HA, HJ38, BK209, BK210, HB⟩ := hcut
              cases kq with
              | zero => exact absurd HA.out (by simp [masterdiscref14_Reserve.j2])
              | succ kj38 =>
               have H := HA.out
               clear HA
               simp only [masterdiscref14_Reserve.j2] at H
               by_cases c51 : a2 > (wrap64 (a0 - x10_38))
               · rw [if_pos c51] at H
                 have c51b0 : decide ((wrap64 (a0 - x10_38)) < a2) = true := decide_eq_true c51
                 clear c51
                 simp only [Option.some.injEq, Prod.mk.injEq] at H
                 obtain ⟨rfl, rfl, rfl, rfl⟩ := H
                 have hnb52 := NB210_209.out
                 have hnc52 := NB209_210.out
                 obtain ⟨hcz53_0, hcz53_1, hcz53_2⟩ := cel3 BK210.out
                 obtain ⟨hfz53_0, hfz53_1, hfz53_2⟩ := frz3 BK210.out
                 go_wp2
                 refine bodyPost_ret (results_ct rfl _ _ gb210 24 #[.int .i64 0, .bool false, .slice none 0 0] (0, 0) _ rfl (by (with_reducible repeat (first | refine blk_drewN ?_ _ | refine blk_drew ?_ | refine blk_alloc ?_ _)); refine blk_put (cs := #[.int .i64 0, .bool false, .slice none 0 0]) ?_ 2 _ rfl; (with_reducible repeat (first | refine blk_drewN ?_ _ | refine blk_drew ?_ | refine blk_alloc ?_ _)); refine blk_put (cs := #[.int .i64 0, .bool false, .slice none 0 0]) ?_ 1 _ rfl; (with_reducible repeat (first | refine blk_drewN ?_ _ | refine blk_drew ?_ | refine blk_alloc ?_ _)); refine blk_put (cs := #[.int .i64 0, .bool false, .slice none 0 0]) ?_ 0 _ rfl; (with_reducible repeat (first | refine blk_drewN ?_ _ | refine blk_drew ?_ | refine blk_alloc ?_ _)); exact BK210.out) Try.underlying24 rfl (by kernel_rfl)) rfl ?_
                 exact ⟨_, by first | rfl | (simp [errW_none, errW_some] <;> rfl) | (simp [*, errW_none, errW_some] <;> rfl), by first | exact Kd.R_nil _ _ _ _ _ | exact Kd.N_nil _ _ _ _ _ | exact Kd.V_nil _ _ _ _ _ | exact Kd.Q_nil _ _ _ _ _ | exact Kd.S_nil _ _ _ _ _, by repeat (first | (with_reducible first | exact HB.out | apply below_alloc | apply pw_below_drewN | apply below_drew1 | refine below_set ?_ GE209.out | refine below_set ?_ GE210.out) | exact HB.out)⟩
               · rw [if_neg c51] at H
                 have c51b0 : decide ((wrap64 (a0 - x10_38)) < a2) = false := decide_eq_false c51
                 clear c51
                 obtain ⟨y216, hy216⟩ : ∃ y_ : List (S40), y_ = (([] : List (S40))) := ⟨_, rfl⟩
                 replace H : (if y216.length + l1_2.length < 2513169434916 then ((some (y216 ++ l1_2 : List (S40))).bind fun y219 => ((some (([(⟨wrap64 ((l1_2.length : Int) + 1), wrap64 (a1_0 + 1), x10_38, a2, x10_38, 0, a3⟩ : S40)] : List (S40)) : List (S40))).bind fun y222 => (if y219.length + y222.length < 2513169434916 then (some (a1_0, false, (y219 ++ y222), 0)) else (none)))) else (none)) = some (r1, r2, r3, r4) := by first | (rw [hy216]; with_reducible exact H) | (have H2_ := (Option.bind_some _ _).symm.trans H; rw [hy216]; with_reducible exact H2_) | (have H2_ := (Option.bind_some _ _).symm.trans H; with_reducible exact H2_) | with_reducible exact H | (rw [hy216]; exact H) | exact H
                 have Ny216 := Aside0.mk hy216
                 clear hy216
                 by_cases c54 : y216.length + l1_2.length < 2513169434916
                 · rw [if_pos c54] at H
                   have LMc54 := Aside0.mk c54
                   clear c54
                   obtain ⟨y219, hy219⟩ : ∃ y_ : List (S40), y_ = (y216 ++ l1_2) := ⟨_, rfl⟩
                   replace H : ((some (([(⟨wrap64 ((l1_2.length : Int) + 1), wrap64 (a1_0 + 1), x10_38, a2, x10_38, 0, a3⟩ : S40)] : List (S40)) : List (S40))).bind fun y222 => (if y219.length + y222.length < 2513169434916 then (some (a1_0, false, (y219 ++ y222), 0)) else (none))) = some (r1, r2, r3, r4) := by first | (rw [hy219]; with_reducible exact H) | (have H2_ := (Option.bind_some _ _).symm.trans H; rw [hy219]; with_reducible exact H2_) | (have H2_ := (Option.bind_some _ _).symm.trans H; with_reducible exact H2_) | with_reducible exact H | (rw [hy219]; exact H) | exact H
                   have Ny219 := Aside0.mk hy219
                   clear hy219
                   obtain ⟨y222, hy222⟩ : ∃ y_ : List (S40), y_ = (([(⟨wrap64 ((l1_2.length : Int) + 1), wrap64 (a1_0 + 1), x10_38, a2, x10_38, 0, a3⟩ : S40)] : List (S40))) := ⟨_, rfl⟩
                   replace H : (if y219.length + y222.length < 2513169434916 then (some (a1_0, false, (y219 ++ y222), 0)) else (none)) = some (r1, r2, r3, r4) := by first | (rw [hy222]; with_reducible exact H) | (have H2_ := (Option.bind_some _ _).symm.trans H; rw [hy222]; with_reducible exact H2_) | (have H2_ := (Option.bind_some _ _).symm.trans H; with_reducible exact H2_) | with_reducible exact H | (rw [hy222]; exact H) | exact H
                   have Ny222 := Aside0.mk hy222
                   clear hy222
                   by_cases c55 : y219.length + y222.length < 2513169434916
                   · rw [if_pos c55] at H
                     have LMc55 := Aside0.mk c55
                     clear c55
                     obtain ⟨y225, hy225⟩ : ∃ y_ : List (S40), y_ = (y219 ++ y222) := ⟨_, rfl⟩
                     replace H : (some (a1_0, false, y225, 0)) = some (r1, r2, r3, r4) := by first | (rw [hy225]; with_reducible exact H) | (have H2_ := (Option.bind_some _ _).symm.trans H; rw [hy225]; with_reducible exact H2_) | (have H2_ := (Option.bind_some _ _).symm.trans H; with_reducible exact H2_) | with_reducible exact H | (rw [hy225]; exact H) | exact H
                     have Ny225 := Aside0.mk hy225
                     clear hy225
                     simp only [Option.some.injEq, Prod.mk.injEq] at H
                     obtain ⟨rfl, rfl, rfl, rfl⟩ := H
                     have hnb56 := NB209_210.out
                     have hnc56 := NB210_209.out
                     obtain ⟨hcz57_0, hcz57_1, hcz57_2⟩ := cel3 BK209.out
                     obtain ⟨hfz57_0, hfz57_1, hfz57_2⟩ := frz3 BK209.out
                     try go_wp2_with (first | ((with_reducible refine gate_dst (N := 12) rfl ?_); refine box_event ?hg (N := 12) ?hd (cs := #[.int .i64 0, .int .i64 0, .int .i64 0, .int .i64 0, .int .i64 0, .int .i64 0, .int .i64 0]) (t := 40) ?hr ?_; (case hd => rfl); (case hg => rfl); (case hr => first | (go_simp; done) | (go_simp; rfl)); intro gb215 hg w58 hbox hb; have n0_ := Aside0.mk (blk_below (g := gb209) (o := .cells #[.int .i64 a1_0, .bool false, .slice A1_2 l1_2.length c1_2] 24 (0, 0)) (by (with_reducible repeat (first | refine blk_drewN ?_ _ | refine blk_drew ?_ | refine blk_alloc ?_ _)); exact BK209.out) hb); have n1_ := Aside0.mk (blk_below (g := gb210) (o := .cells #[.int .i64 0, .bool false, .slice none 0 0] 24 (0, 0)) (by (with_reducible repeat (first | refine blk_drewN ?_ _ | refine blk_drew ?_ | refine blk_alloc ?_ _)); exact BK210.out) hb); have n2_ := Aside0.mk (below_step (by repeat (first | (with_reducible first | exact HB.out | apply below_alloc | apply pw_below_drewN | apply below_drew1 | refine below_set ?_ GE209.out | refine below_set ?_ GE210.out) | exact HB.out)) hb); have n3_ := Aside0.mk (hbox); have n4_ := Aside0.mk ((by rw [hg]; exact (below_size (by repeat (first | (with_reducible first | exact HB.out | apply below_alloc | apply pw_below_drewN | apply below_drew1 | refine below_set ?_ GE209.out | refine below_set ?_ GE210.out) | exact HB.out))) : w.heap.size ≤ gb215)); have n5_ := Aside0.mk ((by rw [hg]; exact (below_size (by repeat (first | (with_reducible first | exact HB.out | apply below_alloc | apply pw_below_drewN | apply below_drew1 | refine below_set ?_ GE209.out | refine below_set ?_ GE210.out) | exact HB.out))) : w.heap.size ≤ gb215)); have n6_ := Aside0.mk ((by rw [hg]; exact Nat.ne_of_lt (blk_lt (g := gb209) (o := .cells #[.int .i64 a1_0, .bool false, .slice A1_2 l1_2.length c1_2] 24 (0, 0)) (by (with_reducible repeat (first | refine blk_drewN ?_ _ | refine blk_drew ?_ | refine blk_alloc ?_ _)); exact BK209.out)) : gb209 ≠ gb215)); have n7_ := Aside0.mk ((by rw [hg]; exact Nat.ne_of_gt (blk_lt (g := gb209) (o := .cells #[.int .i64 a1_0, .bool false, .slice A1_2 l1_2.length c1_2] 24 (0, 0)) (by (with_reducible repeat (first | refine blk_drewN ?_ _ | refine blk_drew ?_ | refine blk_alloc ?_ _)); exact BK209.out)) : gb215 ≠ gb209)); have n8_ := Aside0.mk ((by rw [hg]; exact Nat.ne_of_lt (blk_lt (g := gb210) (o := .cells #[.int .i64 0, .bool false, .slice none 0 0] 24 (0, 0)) (by (with_reducible repeat (first | refine blk_drewN ?_ _ | refine blk_drew ?_ | refine blk_alloc ?_ _)); exact BK210.out)) : gb210 ≠ gb215)); have n9_ := Aside0.mk ((by rw [hg]; exact Nat.ne_of_gt (blk_lt (g := gb210) (o := .cells #[.int .i64 0, .bool false, .slice none 0 0] 24 (0, 0)) (by (with_reducible repeat (first | refine blk_drewN ?_ _ | refine blk_drew ?_ | refine blk_alloc ?_ _)); exact BK210.out)) : gb215 ≠ gb210)); clear BK209; clear BK210; clear HB; have BK209 := n0_; have BK210 := n1_; have HB := n2_; have BK215 := n3_; have GW215 := n4_; have GE215 := n5_; have NB209_215 := n6_; have NB215_209 := n7_; have NB210_215 := n8_; have NB215_210 := n9_; clear n0_ n1_ n2_ n3_ n4_ n5_ n6_ n7_ n8_ n9_; clear hb hbox hg; have hnb59 := NB215_209.out; have hnc59 := NB209_215.out; have hnb60 := NB215_210.out; have hnc60 := NB210_215.out; obtain ⟨hcz61_0, hcz61_1, hcz61_2, hcz61_3, hcz61_4, hcz61_5, hcz61_6⟩ := cel7 BK215.out; obtain ⟨hfz61_0, hfz61_1, hfz61_2, hfz61_3, hfz61_4, hfz61_5, hfz61_6⟩ := frz7 BK215.out))
                     have n0_ : Aside0 ((((((((w58.setCell ⟨gb215, 0, none⟩ (.int .i64 (wrap64 ((l1_2.length : Int) + 1)))).setCell ⟨gb215, 1, none⟩ (.int .i64 (wrap64 (a1_0 + 1)))).setCell ⟨gb215, 2, none⟩ (.int .i64 x10_38)).setCell ⟨gb215, 3, none⟩ (.int .i64 a2)).setCell ⟨gb215, 4, none⟩ (.int .i64 x10_38)).setCell ⟨gb215, 5, none⟩ (.int .i64 0)).setCell ⟨gb215, 6, none⟩ (.int .i64 a3)).heap[gb209]? = some (.cells #[.int .i64 a1_0, .bool false, .slice A1_2 l1_2.length c1_2] 24 (0, 0))) := ⟨by (with_reducible repeat (first | refine blk_drewN ?_ _ | refine blk_drew ?_ | refine blk_alloc ?_ _)); refine blk_far ?_ NB209_215.out _; (with_reducible repeat (first | refine blk_drewN ?_ _ | refine blk_drew ?_ | refine blk_alloc ?_ _)); refine blk_far ?_ NB209_215.out _; (with_reducible repeat (first | refine blk_drewN ?_ _ | refine blk_drew ?_ | refine blk_alloc ?_ _)); refine blk_far ?_ NB209_215.out _; (with_reducible repeat (first | refine blk_drewN ?_ _ | refine blk_drew ?_ | refine blk_alloc ?_ _)); refine blk_far ?_ NB209_215.out _; (with_reducible repeat (first | refine blk_drewN ?_ _ | refine blk_drew ?_ | refine blk_alloc ?_ _)); refine blk_far ?_ NB209_215.out _; (with_reducible repeat (first | refine blk_drewN ?_ _ | refine blk_drew ?_ | refine blk_alloc ?_ _)); refine blk_far ?_ NB209_215.out _; (with_reducible repeat (first | refine blk_drewN ?_ _ | refine blk_drew ?_ | refine blk_alloc ?_ _)); refine blk_far ?_ NB209_215.out _; (with_reducible repeat (first | refine blk_drewN ?_ _ | refine blk_drew ?_ | refine blk_alloc ?_ _)); exact BK209.out⟩
                     have n1_ : Aside0 ((((((((w58.setCell ⟨gb215, 0, none⟩ (.int .i64 (wrap64 ((l1_2.length : Int) + 1)))).setCell ⟨gb215, 1, none⟩ (.int .i64 (wrap64 (a1_0 + 1)))).setCell ⟨gb215, 2, none⟩ (.int .i64 x10_38)).setCell ⟨gb215, 3, none⟩ (.int .i64 a2)).setCell ⟨gb215, 4, none⟩ (.int .i64 x10_38)).setCell ⟨gb215, 5, none⟩ (.int .i64 0)).setCell ⟨gb215, 6, none⟩ (.int .i64 a3)).heap[gb210]? = some (.cells #[.int .i64 0, .bool false, .slice none 0 0] 24 (0, 0))) := ⟨by (with_reducible repeat (first | refine blk_drewN ?_ _ | refine blk_drew ?_ | refine blk_alloc ?_ _)); refine blk_far ?_ NB210_215.out _; (with_reducible repeat (first | refine blk_drewN ?_ _ | refine blk_drew ?_ | refine blk_alloc ?_ _)); refine blk_far ?_ NB210_215.out _; (with_reducible repeat (first | refine blk_drewN ?_ _ | refine blk_drew ?_ | refine blk_alloc ?_ _)); refine blk_far ?_ NB210_215.out _; (with_reducible repeat (first | refine blk_drewN ?_ _ | refine blk_drew ?_ | refine blk_alloc ?_ _)); refine blk_far ?_ NB210_215.out _; (with_reducible repeat (first | refine blk_drewN ?_ _ | refine blk_drew ?_ | refine blk_alloc ?_ _)); refine blk_far ?_ NB210_215.out _; (with_reducible repeat (first | refine blk_drewN ?_ _ | refine blk_drew ?_ | refine blk_alloc ?_ _)); refine blk_far ?_ NB210_215.out _; (with_reducible repeat (first | refine blk_drewN ?_ _ | refine blk_drew ?_ | refine blk_alloc ?_ _)); refine blk_far ?_ NB210_215.out _; (with_reducible repeat (first | refine blk_drewN ?_ _ | refine blk_drew ?_ | refine blk_alloc ?_ _)); exact BK210.out⟩
                     have n2_ : Aside0 ((((((((w58.setCell ⟨gb215, 0, none⟩ (.int .i64 (wrap64 ((l1_2.length : Int) + 1)))).setCell ⟨gb215, 1, none⟩ (.int .i64 (wrap64 (a1_0 + 1)))).setCell ⟨gb215, 2, none⟩ (.int .i64 x10_38)).setCell ⟨gb215, 3, none⟩ (.int .i64 a2)).setCell ⟨gb215, 4, none⟩ (.int .i64 x10_38)).setCell ⟨gb215, 5, none⟩ (.int .i64 0)).setCell ⟨gb215, 6, none⟩ (.int .i64 a3)).heap[gb215]? = some (.cells #[.int .i64 (wrap64 ((l1_2.length : Int) + 1)), .int .i64 (wrap64 (a1_0 + 1)), .int .i64 x10_38, .int .i64 a2, .int .i64 x10_38, .int .i64 0, .int .i64 a3] 40 (0, 0))) := ⟨by (with_reducible repeat (first | refine blk_drewN ?_ _ | refine blk_drew ?_ | refine blk_alloc ?_ _)); refine blk_put (cs := #[.int .i64 (wrap64 ((l1_2.length : Int) + 1)), .int .i64 (wrap64 (a1_0 + 1)), .int .i64 x10_38, .int .i64 a2, .int .i64 x10_38, .int .i64 0, .int .i64 0]) ?_ 6 _ rfl; (with_reducible repeat (first | refine blk_drewN ?_ _ | refine blk_drew ?_ | refine blk_alloc ?_ _)); refine blk_put (cs := #[.int .i64 (wrap64 ((l1_2.length : Int) + 1)), .int .i64 (wrap64 (a1_0 + 1)), .int .i64 x10_38, .int .i64 a2, .int .i64 x10_38, .int .i64 0, .int .i64 0]) ?_ 5 _ rfl; (with_reducible repeat (first | refine blk_drewN ?_ _ | refine blk_drew ?_ | refine blk_alloc ?_ _)); refine blk_put (cs := #[.int .i64 (wrap64 ((l1_2.length : Int) + 1)), .int .i64 (wrap64 (a1_0 + 1)), .int .i64 x10_38, .int .i64 a2, .int .i64 0, .int .i64 0, .int .i64 0]) ?_ 4 _ rfl; (with_reducible repeat (first | refine blk_drewN ?_ _ | refine blk_drew ?_ | refine blk_alloc ?_ _)); refine blk_put (cs := #[.int .i64 (wrap64 ((l1_2.length : Int) + 1)), .int .i64 (wrap64 (a1_0 + 1)), .int .i64 x10_38, .int .i64 0, .int .i64 0, .int .i64 0, .int .i64 0]) ?_ 3 _ rfl; (with_reducible repeat (first | refine blk_drewN ?_ _ | refine blk_drew ?_ | refine blk_alloc ?_ _)); refine blk_put (cs := #[.int .i64 (wrap64 ((l1_2.length : Int) + 1)), .int .i64 (wrap64 (a1_0 + 1)), .int .i64 0, .int .i64 0, .int .i64 0, .int .i64 0, .int .i64 0]) ?_ 2 _ rfl; (with_reducible repeat (first | refine blk_drewN ?_ _ | refine blk_drew ?_ | refine blk_alloc ?_ _)); refine blk_put (cs := #[.int .i64 (wrap64 ((l1_2.length : Int) + 1)), .int .i64 0, .int .i64 0, .int .i64 0, .int .i64 0, .int .i64 0, .int .i64 0]) ?_ 1 _ rfl; (with_reducible repeat (first | refine blk_drewN ?_ _ | refine blk_drew ?_ | refine blk_alloc ?_ _)); refine blk_put (cs := #[.int .i64 0, .int .i64 0, .int .i64 0, .int .i64 0, .int .i64 0, .int .i64 0, .int .i64 0]) ?_ 0 _ rfl; (with_reducible repeat (first | refine blk_drewN ?_ _ | refine blk_drew ?_ | refine blk_alloc ?_ _)); exact BK215.out⟩
                     have n3_ : Aside0 (Below w.heap.size w (((((((w58.setCell ⟨gb215, 0, none⟩ (.int .i64 (wrap64 ((l1_2.length : Int) + 1)))).setCell ⟨gb215, 1, none⟩ (.int .i64 (wrap64 (a1_0 + 1)))).setCell ⟨gb215, 2, none⟩ (.int .i64 x10_38)).setCell ⟨gb215, 3, none⟩ (.int .i64 a2)).setCell ⟨gb215, 4, none⟩ (.int .i64 x10_38)).setCell ⟨gb215, 5, none⟩ (.int .i64 0)).setCell ⟨gb215, 6, none⟩ (.int .i64 a3))) := ⟨by repeat (first | (with_reducible first | exact HB.out | apply below_alloc | apply pw_below_drewN | apply below_drew1 | refine below_set ?_ GE209.out | refine below_set ?_ GE210.out | refine below_set ?_ GE215.out) | exact HB.out)⟩
                     (try clear BK209)
                     (try clear BK210)
                     (try clear BK215)
                     (try clear HB)
                     generalize (((((((w58.setCell ⟨gb215, 0, none⟩ (.int .i64 (wrap64 ((l1_2.length : Int) + 1)))).setCell ⟨gb215, 1, none⟩ (.int .i64 (wrap64 (a1_0 + 1)))).setCell ⟨gb215, 2, none⟩ (.int .i64 x10_38)).setCell ⟨gb215, 3, none⟩ (.int .i64 a2)).setCell ⟨gb215, 4, none⟩ (.int .i64 x10_38)).setCell ⟨gb215, 5, none⟩ (.int .i64 0)).setCell ⟨gb215, 6, none⟩ (.int .i64 a3)) = w62 at n0_ n1_ n2_ n3_ ⊢
                     have BK209 := n0_
                     have BK210 := n1_
                     have BK215 := n2_
                     have HB := n3_
                     clear n0_ n1_ n2_ n3_
                     have n0_ := Aside0.mk (blk_drew BK209.out)
                     have n1_ := Aside0.mk (blk_drew BK210.out)
                     have n2_ := Aside0.mk (blk_drew BK215.out)
                     have n3_ := Aside0.mk (below_drew1 HB.out)
                     clear BK209
                     clear BK210
                     clear BK215
                     clear HB
                     have BK209 := n0_
                     have BK210 := n1_
                     have BK215 := n2_
                     have HB := n3_
                     clear n0_ n1_ n2_ n3_
                     refine start_ (n := 9) (S := fun w' => w'.cell? ⟨gb209, 0, none⟩ = some (.int .i64 a1_0) ∧ w'.cell? ⟨gb209, 1, none⟩ = some (.bool false) ∧ w'.cell? ⟨gb209, 2, none⟩ = some (.slice A1_2 l1_2.length c1_2) ∧ w'.cell? ⟨gb215, 0, none⟩ = some (.int .i64 (wrap64 ((l1_2.length : Int) + 1))) ∧ w'.cell? ⟨gb215, 1, none⟩ = some (.int .i64 (wrap64 (a1_0 + 1))) ∧ w'.cell? ⟨gb215, 2, none⟩ = some (.int .i64 x10_38) ∧ w'.cell? ⟨gb215, 3, none⟩ = some (.int .i64 a2) ∧ w'.cell? ⟨gb215, 4, none⟩ = some (.int .i64 x10_38) ∧ w'.cell? ⟨gb215, 5, none⟩ = some (.int .i64 0) ∧ w'.cell? ⟨gb215, 6, none⟩ = some (.int .i64 a3)) (ds := [8]) #[false, false, false, false, false, false, false, false, false] (by kernel_rfl) rfl rfl ⟨(blk_cell BK209.out 0).trans rfl, (blk_cell BK209.out 1).trans rfl, (blk_cell BK209.out 2).trans rfl, (blk_cell BK215.out 0).trans rfl, (blk_cell BK215.out 1).trans rfl, (blk_cell BK215.out 2).trans rfl, (blk_cell BK215.out 3).trans rfl, (blk_cell BK215.out 4).trans rfl, (blk_cell BK215.out 5).trans rfl, (blk_cell BK215.out 6).trans rfl⟩ (fun hHeld => ?_); refine with_tabW masterdiscref14_Reserve.tab18 masterdiscref14_Reserve.bits18 (fun HT_ HW_ => ?_)
                     generalize w62.drew = w63 at BK209 BK210 BK215 HB hHeld ⊢
                     refine pure_ (i := 1) (N := some 107) (v := ?_) (a' := ?_) #[false, true, false, false, false, false, false, false, false] rfl rfl (any_of HT_.out (by kernel_rfl)) (fun _ _ _ h => h) (Or.inl ⟨by rfl, ?_⟩) ?_ ?_
                     rotate_left
                     · intro w'
                       go_simp
                       with_reducible rfl
                     rotate_left
                     · simp only [Act.put, List.setIfInBounds_toArray, List.set_cons_zero, List.set_cons_succ, i64_w, i32_w]
                       rfl
                     refine take_ (i := 2) (N := some 108) (v := ?_) (a' := ?_) #[false, true, true, false, false, false, false, false, false] rfl rfl (take_ofW HT_.out HW_.out (by kernel_rfl)) (fun _ _ _ h => h) (Or.inl ⟨by rfl, ?_⟩) hHeld ?_ ?_
                     rotate_left
                     · rintro w' ⟨s0, s1, s2, s3, s4, s5, s6, s7, s8, s9⟩
                       go_simp
                       with_reducible rfl
                     rotate_left
                     · simp only [Act.put, List.setIfInBounds_toArray, List.set_cons_zero, List.set_cons_succ, i64_w, i32_w]
                       rfl
                     refine take_ (i := 4) (N := some 110) (v := ?_) (a' := ?_) #[false, true, true, false, true, false, false, false, false] rfl rfl (take_ofW HT_.out HW_.out (by kernel_rfl)) (fun _ _ _ h => h) (Or.inl ⟨by rfl, ?_⟩) hHeld ?_ ?_
                     rotate_left
                     · rintro w' ⟨s0, s1, s2, s3, s4, s5, s6, s7, s8, s9⟩
                       go_simp
                       with_reducible rfl
                     rotate_left
                     · simp only [Act.put, List.setIfInBounds_toArray, List.set_cons_zero, List.set_cons_succ, i64_w, i32_w]
                       rfl
                     refine join_ (σ := Value × Value × Value) 3 #[true, true, true, true, true, true, false, false, false] (fun s_ => [(106, s_.1), (109, s_.2.1), (111, s_.2.2)]) (fun s_ w' => (w'.cell? ⟨gb209, 0, none⟩ = some (.int .i64 a1_0) ∧ w'.cell? ⟨gb209, 1, none⟩ = some (.bool false) ∧ w'.cell? ⟨gb209, 2, none⟩ = some (.slice A1_2 l1_2.length c1_2) ∧ w'.cell? ⟨gb215, 0, none⟩ = some (.int .i64 (wrap64 ((l1_2.length : Int) + 1))) ∧ w'.cell? ⟨gb215, 1, none⟩ = some (.int .i64 (wrap64 (a1_0 + 1))) ∧ w'.cell? ⟨gb215, 2, none⟩ = some (.int .i64 x10_38) ∧ w'.cell? ⟨gb215, 3, none⟩ = some (.int .i64 a2) ∧ w'.cell? ⟨gb215, 4, none⟩ = some (.int .i64 x10_38) ∧ w'.cell? ⟨gb215, 5, none⟩ = some (.int .i64 0) ∧ w'.cell? ⟨gb215, 6, none⟩ = some (.int .i64 a3)) ∧ (Kd.R k40 40 w' w.heap.size (fun k_ => some k_ ≠ (s_.2.2 : Value).ownBlock ∧ k_ ≠ gb215) s_.2.1 y219) ∧ (Kd.R k40 40 w' w.heap.size (fun k_ => some k_ ≠ (s_.2.1 : Value).ownBlock ∧ k_ ≠ gb215) s_.2.2 y222) ∧ (w'.heap[gb209]? = some (.cells #[.int .i64 a1_0, .bool false, .slice A1_2 l1_2.length c1_2] 24 (0, 0))) ∧ (w'.heap[gb210]? = some (.cells #[.int .i64 0, .bool false, .slice none 0 0] 24 (0, 0))) ∧ (w'.heap[gb215]? = some (.cells #[.int .i64 (wrap64 ((l1_2.length : Int) + 1)), .int .i64 (wrap64 (a1_0 + 1)), .int .i64 x10_38, .int .i64 a2, .int .i64 x10_38, .int .i64 0, .int .i64 a3] 40 (0, 0))) ∧ (Below w.heap.size w w')) ?_ ?_
                     rotate_left
                     · intro hCont
                       refine two_ (i := 0) (j := 5) (Ni := some 106) (Nj := some 111) #[true, true, true, false, true, false, false, false, false] #[false, true, true, false, true, true, false, false, false] rfl rfl rfl rfl (two_of HT_.out (by kernel_rfl)) (by decide) (by decide) (fun K hK => ?_) (fun K hK => ?_)
                       · skip
                         refine Kd.R_lit_step k40 _ 40 ?hg (N := 106) ?hd (xs := ([] : List (S40))) (inner := []) (ok := fun _ => True) (okp := fun _ => True) ?hr ?hp (fun _ hk => hk) trivial (Below.refl _ _) (Nat.le_refl _) (by simp) ?_; (case hd => rfl); (case hg => rfl); (case hr => first | (go_simp; done) | (go_simp; rfl)); (case hp => exact (Reps.none _ _))
                         intro v217 w64 ho65 hb hg_ hnew_
                         clear hg_ hnew_
                         (first | rw [← Ny216.out] at ho65 | (simp only [Int.reduceToNat] at ho65; rw [← Ny216.out] at ho65))
                         have n0_ := Aside0.mk (Kd.R_lower (Kd.R_newB ho65 (g := gb215) (o := .cells #[.int .i64 (wrap64 ((l1_2.length : Int) + 1)), .int .i64 (wrap64 (a1_0 + 1)), .int .i64 x10_38, .int .i64 a2, .int .i64 x10_38, .int .i64 0, .int .i64 a3] 40 (0, 0)) (by (with_reducible repeat (first | refine blk_drewN ?_ _ | refine blk_drew ?_ | refine blk_alloc ?_ _)); exact BK215.out)) (below_size (by repeat (first | (with_reducible first | exact HB.out | apply below_alloc | apply pw_below_drewN | apply below_drew1 | refine below_set ?_ GE209.out | refine below_set ?_ GE210.out | refine below_set ?_ GE215.out) | exact HB.out))))
                         have n1_ := Aside0.mk (blk_below (g := gb209) (o := .cells #[.int .i64 a1_0, .bool false, .slice A1_2 l1_2.length c1_2] 24 (0, 0)) (by (with_reducible repeat (first | refine blk_drewN ?_ _ | refine blk_drew ?_ | refine blk_alloc ?_ _)); exact BK209.out) hb)
                         have n2_ := Aside0.mk (blk_below (g := gb210) (o := .cells #[.int .i64 0, .bool false, .slice none 0 0] 24 (0, 0)) (by (with_reducible repeat (first | refine blk_drewN ?_ _ | refine blk_drew ?_ | refine blk_alloc ?_ _)); exact BK210.out) hb)
                         have n3_ := Aside0.mk (blk_below (g := gb215) (o := .cells #[.int .i64 (wrap64 ((l1_2.length : Int) + 1)), .int .i64 (wrap64 (a1_0 + 1)), .int .i64 x10_38, .int .i64 a2, .int .i64 x10_38, .int .i64 0, .int .i64 a3] 40 (0, 0)) (by (with_reducible repeat (first | refine blk_drewN ?_ _ | refine blk_drew ?_ | refine blk_alloc ?_ _)); exact BK215.out) hb)
                         have n4_ := Aside0.mk (below_step (by repeat (first | (with_reducible first | exact HB.out | apply below_alloc | apply pw_below_drewN | apply below_drew1 | refine below_set ?_ GE209.out | refine below_set ?_ GE210.out | refine below_set ?_ GE215.out) | exact HB.out)) hb)
                         clear BK209
                         clear BK210
                         clear BK215
                         clear HB
                         have HO218 := n0_
                         have BK209 := n1_
                         have BK210 := n2_
                         have BK215 := n3_
                         have HB := n4_
                         clear n0_ n1_ n2_ n3_ n4_
                         clear hb ho65
                         refine hK.out _ _ ⟨(blk_cell BK209.out 0).trans rfl, (blk_cell BK209.out 1).trans rfl, (blk_cell BK209.out 2).trans rfl, (blk_cell BK215.out 0).trans rfl, (blk_cell BK215.out 1).trans rfl, (blk_cell BK215.out 2).trans rfl, (blk_cell BK215.out 3).trans rfl, (blk_cell BK215.out 4).trans rfl, (blk_cell BK215.out 5).trans rfl, (blk_cell BK215.out 6).trans rfl⟩ (fun hHeld => ?_)
                         clear hK K
                         refine norm_ (a' := ?_) ?_ ?_
                         rotate_left
                         · show Act.put _ (some 106) _ = _
                           simp only [Act.put, List.setIfInBounds_toArray, List.set_cons_zero, List.set_cons_succ, i64_w, i32_w]
                           rfl
                         refine two_ (i := 3) (j := 5) (Ni := some 109) (Nj := some 111) #[true, true, true, true, true, false, false, false, false] #[true, true, true, false, true, true, false, false, false] rfl rfl rfl rfl (two_of HT_.out (by kernel_rfl)) (by decide) (by decide) (fun K hK => ?_) (fun K hK => ?_)
                         · skip
                           refine Kd.R_append_rows_step k40 (w0 := w) w.heap.size (by rfl) (.tmp 106) (.tmp 108) 22 40 (.agg #[(.int .i64 0), (.int .i64 0), (.int .i64 0), (.int .i64 0), (.int .i64 0), (.int .i64 0), (.int .i64 0)]) 56 rfl Try.underlying22 info40 rfl (by decide) (by omega) v217 y216 l1_2 _ _ _ (fun k_ => k_ ≠ gb215) (fun _ => False) rfl rfl ?aO ?aR (fun _ _ h => h) (fun _ h => h.elim) ?aF ?aB ?aS ?aL ?_
                           (case aR => repeat (first | exact (Kd.C_below HR1_2.out HB.out) | (with_reducible refine Kd.C_alloc ?_ _) | (with_reducible refine Kd.C_drewN ?_ _) | (with_reducible refine Kd.C_drew ?_)))
                           (case aB => exact (by repeat (first | (with_reducible first | exact HB.out | apply below_alloc | apply pw_below_drewN | apply below_drew1 | refine below_set ?_ GE209.out | refine below_set ?_ GE210.out | refine below_set ?_ GE215.out) | exact HB.out)))
                           (case aF => exact (fun k_ hk => Kd.freshB (g := gb215) (o := .cells #[.int .i64 (wrap64 ((l1_2.length : Int) + 1)), .int .i64 (wrap64 (a1_0 + 1)), .int .i64 x10_38, .int .i64 a2, .int .i64 x10_38, .int .i64 0, .int .i64 a3] 40 (0, 0)) (by (with_reducible repeat (first | refine blk_drewN ?_ _ | refine blk_drew ?_ | refine blk_alloc ?_ _)); exact BK215.out) k_ hk))
                           (case aO => exact (by (with_reducible repeat (first | apply Kd.R_alloc | apply Kd.R_drewN | apply Kd.R_drew)); exact Kd.R_mono HO218.out (fun _ hk => hk.2)))
                           (case aS => exact (below_size (by repeat (first | (with_reducible first | exact HB.out | apply below_alloc | apply pw_below_drewN | apply below_drew1 | refine below_set ?_ GE209.out | refine below_set ?_ GE210.out | refine below_set ?_ GE215.out) | exact HB.out))))
                           (case aL => have := LMc54.out; omega)
                           intro v220 w66 ho hb hg hat
                           rw [← Ny219.out] at ho
                           have n0_ := Aside0.mk (blk_grown (g := gb209) (o := .cells #[.int .i64 a1_0, .bool false, .slice A1_2 l1_2.length c1_2] 24 (0, 0)) (by (with_reducible repeat (first | refine blk_drewN ?_ _ | refine blk_drew ?_ | refine blk_alloc ?_ _)); exact BK209.out) hg (Kd.R_ne HO218.out BK209.out (by decide)))
                           have n1_ := Aside0.mk (blk_grown (g := gb210) (o := .cells #[.int .i64 0, .bool false, .slice none 0 0] 24 (0, 0)) (by (with_reducible repeat (first | refine blk_drewN ?_ _ | refine blk_drew ?_ | refine blk_alloc ?_ _)); exact BK210.out) hg (Kd.R_ne HO218.out BK210.out (by decide)))
                           have n2_ := Aside0.mk (blk_grown (g := gb215) (o := .cells #[.int .i64 (wrap64 ((l1_2.length : Int) + 1)), .int .i64 (wrap64 (a1_0 + 1)), .int .i64 x10_38, .int .i64 a2, .int .i64 x10_38, .int .i64 0, .int .i64 a3] 40 (0, 0)) (by (with_reducible repeat (first | refine blk_drewN ?_ _ | refine blk_drew ?_ | refine blk_alloc ?_ _)); exact BK215.out) hg (Kd.R_away HO218.out (fun _ hk => hk.2)))
                           have n3_ := Aside0.mk (hb)
                           have n4_ := Aside0.mk (ho)
                           clear BK209
                           clear BK210
                           clear BK215
                           clear HB
                           clear HO218
                           have BK209 := n0_
                           have BK210 := n1_
                           have BK215 := n2_
                           have HB := n3_
                           have HO221 := n4_
                           clear n0_ n1_ n2_ n3_ n4_
                           clear ho hb hg hat
                           refine hK.out _ _ ⟨(blk_cell BK209.out 0).trans rfl, (blk_cell BK209.out 1).trans rfl, (blk_cell BK209.out 2).trans rfl, (blk_cell BK215.out 0).trans rfl, (blk_cell BK215.out 1).trans rfl, (blk_cell BK215.out 2).trans rfl, (blk_cell BK215.out 3).trans rfl, (blk_cell BK215.out 4).trans rfl, (blk_cell BK215.out 5).trans rfl, (blk_cell BK215.out 6).trans rfl⟩ (fun hHeld => ?_)
                           clear hK K
                           refine norm_ (a' := ?_) ?_ ?_
                           rotate_left
                           · show Act.put _ (some 109) _ = _
                             simp only [Act.put, List.setIfInBounds_toArray, List.set_cons_zero, List.set_cons_succ, i64_w, i32_w]
                             rfl
                           refine one_ (i := 5) (N := some 111) #[true, true, true, true, true, true, false, false, false] rfl rfl (one_of HT_.out (by kernel_rfl)) (by decide) (fun K hK => ?_)
                           refine Kd.R_lit_step k40 _ 40 ?hg (N := 111) ?hd (xs := ([(⟨wrap64 ((l1_2.length : Int) + 1), wrap64 (a1_0 + 1), x10_38, a2, x10_38, 0, a3⟩ : S40)] : List (S40))) (inner := [.int .i64 (wrap64 ((l1_2.length : Int) + 1)), .int .i64 (wrap64 (a1_0 + 1)), .int .i64 x10_38, .int .i64 a2, .int .i64 x10_38, .int .i64 0, .int .i64 a3]) (ok := fun _ => True) (okp := fun _ => True) ?hr ?hp (fun _ hk => hk) trivial (Below.refl _ _) (Nat.le_refl _) (by simp) ?_; (case hd => rfl); (case hg => rfl); (case hr => first | (go_simp; done) | (go_simp; rfl)); (case hp => exact (Reps.c7 (show Kd.M k40 _ _ _ (⟨wrap64 ((l1_2.length : Int) + 1), wrap64 (a1_0 + 1), x10_38, a2, x10_38, 0, a3⟩ : S40) [.int .i64 (wrap64 ((l1_2.length : Int) + 1)), .int .i64 (wrap64 (a1_0 + 1)), .int .i64 x10_38, .int .i64 a2, .int .i64 x10_38, .int .i64 0, .int .i64 a3] from (k40_mkM _ _ _ (⟨wrap64 ((l1_2.length : Int) + 1), wrap64 (a1_0 + 1), x10_38, a2, x10_38, 0, a3⟩ : S40) )) (Reps.none _ _)))
                           intro v223 w67 ho68 hb hg_ hnew_
                           clear hg_ hnew_
                           (first | rw [← Ny222.out] at ho68 | (simp only [Int.reduceToNat] at ho68; rw [← Ny222.out] at ho68))
                           have n0_ := Aside0.mk (Kd.R_elder' (by (with_reducible repeat (first | apply Kd.R_alloc | apply Kd.R_drewN | apply Kd.R_drew)); exact HO221.out) (Kd.R_base ho68) hb)
                           have n1_ := Aside0.mk (Kd.R_lower (Kd.R_newB (Kd.R_new' ho68 (Kd.R_lt (by (with_reducible repeat (first | apply Kd.R_alloc | apply Kd.R_drewN | apply Kd.R_drew)); exact HO221.out))) (g := gb215) (o := .cells #[.int .i64 (wrap64 ((l1_2.length : Int) + 1)), .int .i64 (wrap64 (a1_0 + 1)), .int .i64 x10_38, .int .i64 a2, .int .i64 x10_38, .int .i64 0, .int .i64 a3] 40 (0, 0)) (by (with_reducible repeat (first | refine blk_drewN ?_ _ | refine blk_drew ?_ | refine blk_alloc ?_ _)); exact BK215.out)) (below_size (by repeat (first | (with_reducible first | exact HB.out | apply below_alloc | apply pw_below_drewN | apply below_drew1 | refine below_set ?_ GE209.out | refine below_set ?_ GE210.out | refine below_set ?_ GE215.out) | exact HB.out))))
                           have n2_ := Aside0.mk (blk_below (g := gb209) (o := .cells #[.int .i64 a1_0, .bool false, .slice A1_2 l1_2.length c1_2] 24 (0, 0)) (by (with_reducible repeat (first | refine blk_drewN ?_ _ | refine blk_drew ?_ | refine blk_alloc ?_ _)); exact BK209.out) hb)
                           have n3_ := Aside0.mk (blk_below (g := gb210) (o := .cells #[.int .i64 0, .bool false, .slice none 0 0] 24 (0, 0)) (by (with_reducible repeat (first | refine blk_drewN ?_ _ | refine blk_drew ?_ | refine blk_alloc ?_ _)); exact BK210.out) hb)
                           have n4_ := Aside0.mk (blk_below (g := gb215) (o := .cells #[.int .i64 (wrap64 ((l1_2.length : Int) + 1)), .int .i64 (wrap64 (a1_0 + 1)), .int .i64 x10_38, .int .i64 a2, .int .i64 x10_38, .int .i64 0, .int .i64 a3] 40 (0, 0)) (by (with_reducible repeat (first | refine blk_drewN ?_ _ | refine blk_drew ?_ | refine blk_alloc ?_ _)); exact BK215.out) hb)
                           have n5_ := Aside0.mk (below_step (by repeat (first | (with_reducible first | exact HB.out | apply below_alloc | apply pw_below_drewN | apply below_drew1 | refine below_set ?_ GE209.out | refine below_set ?_ GE210.out | refine below_set ?_ GE215.out) | exact HB.out)) hb)
                           clear HO221
                           clear BK209
                           clear BK210
                           clear BK215
                           clear HB
                           have HO221 := n0_
                           have HO224 := n1_
                           have BK209 := n2_
                           have BK210 := n3_
                           have BK215 := n4_
                           have HB := n5_
                           clear n0_ n1_ n2_ n3_ n4_ n5_
                           clear hb ho68
                           refine hK.out _ _ ⟨(blk_cell BK209.out 0).trans rfl, (blk_cell BK209.out 1).trans rfl, (blk_cell BK209.out 2).trans rfl, (blk_cell BK215.out 0).trans rfl, (blk_cell BK215.out 1).trans rfl, (blk_cell BK215.out 2).trans rfl, (blk_cell BK215.out 3).trans rfl, (blk_cell BK215.out 4).trans rfl, (blk_cell BK215.out 5).trans rfl, (blk_cell BK215.out 6).trans rfl⟩ (fun hHeld => ?_)
                           clear hK K
                           refine norm_ (a' := ?_) ?_ ?_
                           rotate_left
                           · show Act.put _ (some 111) _ = _
                             simp only [Act.put, List.setIfInBounds_toArray, List.set_cons_zero, List.set_cons_succ, i64_w, i32_w]
                             rfl
                           exact norm_ (by simp only [putAll, Act.put, List.setIfInBounds_toArray, List.set_cons_zero, List.set_cons_succ]) (hCont (v217, v220, v223) _ ⟨hHeld, (by (with_reducible repeat (first | apply Kd.R_alloc | apply Kd.R_drewN | apply Kd.R_drew)); exact Kd.R_mono HO221.out (fun _ hk => ⟨hk.2, hk.1⟩)), (by (with_reducible repeat (first | apply Kd.R_alloc | apply Kd.R_drewN | apply Kd.R_drew)); exact Kd.R_mono HO224.out (fun _ hk => ⟨hk.1.2, hk.2⟩)), (by (with_reducible repeat (first | refine blk_drewN ?_ _ | refine blk_drew ?_ | refine blk_alloc ?_ _)); exact BK209.out), (by (with_reducible repeat (first | refine blk_drewN ?_ _ | refine blk_drew ?_ | refine blk_alloc ?_ _)); exact BK210.out), (by (with_reducible repeat (first | refine blk_drewN ?_ _ | refine blk_drew ?_ | refine blk_alloc ?_ _)); exact BK215.out), (by repeat (first | (with_reducible first | exact HB.out | apply below_alloc | apply pw_below_drewN | apply below_drew1 | refine below_set ?_ GE209.out | refine below_set ?_ GE210.out | refine below_set ?_ GE215.out) | exact HB.out))⟩)
                         · skip
                           refine Kd.R_lit_step k40 _ 40 ?hg (N := 111) ?hd (xs := ([(⟨wrap64 ((l1_2.length : Int) + 1), wrap64 (a1_0 + 1), x10_38, a2, x10_38, 0, a3⟩ : S40)] : List (S40))) (inner := [.int .i64 (wrap64 ((l1_2.length : Int) + 1)), .int .i64 (wrap64 (a1_0 + 1)), .int .i64 x10_38, .int .i64 a2, .int .i64 x10_38, .int .i64 0, .int .i64 a3]) (ok := fun _ => True) (okp := fun _ => True) ?hr ?hp (fun _ hk => hk) trivial (Below.refl _ _) (Nat.le_refl _) (by simp) ?_; (case hd => rfl); (case hg => rfl); (case hr => first | (go_simp; done) | (go_simp; rfl)); (case hp => exact (Reps.c7 (show Kd.M k40 _ _ _ (⟨wrap64 ((l1_2.length : Int) + 1), wrap64 (a1_0 + 1), x10_38, a2, x10_38, 0, a3⟩ : S40) [.int .i64 (wrap64 ((l1_2.length : Int) + 1)), .int .i64 (wrap64 (a1_0 + 1)), .int .i64 x10_38, .int .i64 a2, .int .i64 x10_38, .int .i64 0, .int .i64 a3] from (k40_mkM _ _ _ (⟨wrap64 ((l1_2.length : Int) + 1), wrap64 (a1_0 + 1), x10_38, a2, x10_38, 0, a3⟩ : S40) )) (Reps.none _ _)))
                           intro v223 w66 ho67 hb hg_ hnew_
                           clear hg_ hnew_
                           (first | rw [← Ny222.out] at ho67 | (simp only [Int.reduceToNat] at ho67; rw [← Ny222.out] at ho67))
                           have n0_ := Aside0.mk (Kd.R_elder' (by (with_reducible repeat (first | apply Kd.R_alloc | apply Kd.R_drewN | apply Kd.R_drew)); exact HO218.out) (Kd.R_base ho67) hb)
                           have n1_ := Aside0.mk (Kd.R_lower (Kd.R_newB (Kd.R_new' ho67 (Kd.R_lt (by (with_reducible repeat (first | apply Kd.R_alloc | apply Kd.R_drewN | apply Kd.R_drew)); exact HO218.out))) (g := gb215) (o := .cells #[.int .i64 (wrap64 ((l1_2.length : Int) + 1)), .int .i64 (wrap64 (a1_0 + 1)), .int .i64 x10_38, .int .i64 a2, .int .i64 x10_38, .int .i64 0, .int .i64 a3] 40 (0, 0)) (by (with_reducible repeat (first | refine blk_drewN ?_ _ | refine blk_drew ?_ | refine blk_alloc ?_ _)); exact BK215.out)) (below_size (by repeat (first | (with_reducible first | exact HB.out | apply below_alloc | apply pw_below_drewN | apply below_drew1 | refine below_set ?_ GE209.out | refine below_set ?_ GE210.out | refine below_set ?_ GE215.out) | exact HB.out))))
                           have n2_ := Aside0.mk (blk_below (g := gb209) (o := .cells #[.int .i64 a1_0, .bool false, .slice A1_2 l1_2.length c1_2] 24 (0, 0)) (by (with_reducible repeat (first | refine blk_drewN ?_ _ | refine blk_drew ?_ | refine blk_alloc ?_ _)); exact BK209.out) hb)
                           have n3_ := Aside0.mk (blk_below (g := gb210) (o := .cells #[.int .i64 0, .bool false, .slice none 0 0] 24 (0, 0)) (by (with_reducible repeat (first | refine blk_drewN ?_ _ | refine blk_drew ?_ | refine blk_alloc ?_ _)); exact BK210.out) hb)
                           have n4_ := Aside0.mk (blk_below (g := gb215) (o := .cells #[.int .i64 (wrap64 ((l1_2.length : Int) + 1)), .int .i64 (wrap64 (a1_0 + 1)), .int .i64 x10_38, .int .i64 a2, .int .i64 x10_38, .int .i64 0, .int .i64 a3] 40 (0, 0)) (by (with_reducible repeat (first | refine blk_drewN ?_ _ | refine blk_drew ?_ | refine blk_alloc ?_ _)); exact BK215.out) hb)
                           have n5_ := Aside0.mk (below_step (by repeat (first | (with_reducible first | exact HB.out | apply below_alloc | apply pw_below_drewN | apply below_drew1 | refine below_set ?_ GE209.out | refine below_set ?_ GE210.out | refine below_set ?_ GE215.out) | exact HB.out)) hb)
                           clear HO218
                           clear BK209
                           clear BK210
                           clear BK215
                           clear HB
                           have HO218 := n0_
                           have HO224 := n1_
                           have BK209 := n2_
                           have BK210 := n3_
                           have BK215 := n4_
                           have HB := n5_
                           clear n0_ n1_ n2_ n3_ n4_ n5_
                           clear hb ho67
                           refine hK.out _ _ ⟨(blk_cell BK209.out 0).trans rfl, (blk_cell BK209.out 1).trans rfl, (blk_cell BK209.out 2).trans rfl, (blk_cell BK215.out 0).trans rfl, (blk_cell BK215.out 1).trans rfl, (blk_cell BK215.out 2).trans rfl, (blk_cell BK215.out 3).trans rfl, (blk_cell BK215.out 4).trans rfl, (blk_cell BK215.out 5).trans rfl, (blk_cell BK215.out 6).trans rfl⟩ (fun hHeld => ?_)
                           clear hK K
                           refine norm_ (a' := ?_) ?_ ?_
                           rotate_left
                           · show Act.put _ (some 111) _ = _
                             simp only [Act.put, List.setIfInBounds_toArray, List.set_cons_zero, List.set_cons_succ, i64_w, i32_w]
                             rfl
                           refine one_ (i := 3) (N := some 109) #[true, true, true, true, true, true, false, false, false] rfl rfl (one_of HT_.out (by kernel_rfl)) (by decide) (fun K hK => ?_)
                           refine Kd.R_append_rows_step k40 (w0 := w) w.heap.size (by rfl) (.tmp 106) (.tmp 108) 22 40 (.agg #[(.int .i64 0), (.int .i64 0), (.int .i64 0), (.int .i64 0), (.int .i64 0), (.int .i64 0), (.int .i64 0)]) 56 rfl Try.underlying22 info40 rfl (by decide) (by omega) v217 y216 l1_2 _ _ _ (fun k_ => some k_ ≠ (v223 : Value).ownBlock ∧ k_ ≠ gb215) (fun _ => False) rfl rfl ?aO ?aR (fun _ _ h => h) (fun _ h => h.elim) ?aF ?aB ?aS ?aL ?_
                           (case aR => repeat (first | exact (Kd.C_below HR1_2.out HB.out) | (with_reducible refine Kd.C_alloc ?_ _) | (with_reducible refine Kd.C_drewN ?_ _) | (with_reducible refine Kd.C_drew ?_)))
                           (case aB => exact (by repeat (first | (with_reducible first | exact HB.out | apply below_alloc | apply pw_below_drewN | apply below_drew1 | refine below_set ?_ GE209.out | refine below_set ?_ GE210.out | refine below_set ?_ GE215.out) | exact HB.out)))
                           (case aF => exact (fun k_ hk => ⟨Kd.fresh' (Kd.R_lt (by (with_reducible repeat (first | apply Kd.R_alloc | apply Kd.R_drewN | apply Kd.R_drew)); exact HO224.out)) k_ hk, Kd.freshB (g := gb215) (o := .cells #[.int .i64 (wrap64 ((l1_2.length : Int) + 1)), .int .i64 (wrap64 (a1_0 + 1)), .int .i64 x10_38, .int .i64 a2, .int .i64 x10_38, .int .i64 0, .int .i64 a3] 40 (0, 0)) (by (with_reducible repeat (first | refine blk_drewN ?_ _ | refine blk_drew ?_ | refine blk_alloc ?_ _)); exact BK215.out) k_ hk⟩))
                           (case aO => exact (by (with_reducible repeat (first | apply Kd.R_alloc | apply Kd.R_drewN | apply Kd.R_drew)); exact Kd.R_mono HO218.out (fun _ hk => ⟨hk.2, hk.1.2⟩)))
                           (case aS => exact (below_size (by repeat (first | (with_reducible first | exact HB.out | apply below_alloc | apply pw_below_drewN | apply below_drew1 | refine below_set ?_ GE209.out | refine below_set ?_ GE210.out | refine below_set ?_ GE215.out) | exact HB.out))))
                           (case aL => have := LMc54.out; omega)
                           intro v220 w68 ho hb hg hat
                           rw [← Ny219.out] at ho
                           have n0_ := Aside0.mk (blk_grown (g := gb209) (o := .cells #[.int .i64 a1_0, .bool false, .slice A1_2 l1_2.length c1_2] 24 (0, 0)) (by (with_reducible repeat (first | refine blk_drewN ?_ _ | refine blk_drew ?_ | refine blk_alloc ?_ _)); exact BK209.out) hg (Kd.R_ne HO218.out BK209.out (by decide)))
                           have n1_ := Aside0.mk (blk_grown (g := gb210) (o := .cells #[.int .i64 0, .bool false, .slice none 0 0] 24 (0, 0)) (by (with_reducible repeat (first | refine blk_drewN ?_ _ | refine blk_drew ?_ | refine blk_alloc ?_ _)); exact BK210.out) hg (Kd.R_ne HO218.out BK210.out (by decide)))
                           have n2_ := Aside0.mk (blk_grown (g := gb215) (o := .cells #[.int .i64 (wrap64 ((l1_2.length : Int) + 1)), .int .i64 (wrap64 (a1_0 + 1)), .int .i64 x10_38, .int .i64 a2, .int .i64 x10_38, .int .i64 0, .int .i64 a3] 40 (0, 0)) (by (with_reducible repeat (first | refine blk_drewN ?_ _ | refine blk_drew ?_ | refine blk_alloc ?_ _)); exact BK215.out) hg (Kd.R_away HO218.out (fun _ hk => hk.1.2)))
                           have n3_ := Aside0.mk (Kd.R_after (ok := (fun k_ => k_ ≠ gb215)) (by (with_reducible repeat (first | apply Kd.R_alloc | apply Kd.R_drewN | apply Kd.R_drew)); exact Kd.R_mono HO224.out (fun _ hk => ⟨hk.2, hk.1.2⟩)) hg hat)
                           have n4_ := Aside0.mk (hb)
                           have n5_ := Aside0.mk (ho)
                           clear BK209
                           clear BK210
                           clear BK215
                           clear HO224
                           clear HB
                           clear HO218
                           have BK209 := n0_
                           have BK210 := n1_
                           have BK215 := n2_
                           have HO224 := n3_
                           have HB := n4_
                           have HO221 := n5_
                           clear n0_ n1_ n2_ n3_ n4_ n5_
                           clear ho hb hg hat
                           refine hK.out _ _ ⟨(blk_cell BK209.out 0).trans rfl, (blk_cell BK209.out 1).trans rfl, (blk_cell BK209.out 2).trans rfl, (blk_cell BK215.out 0).trans rfl, (blk_cell BK215.out 1).trans rfl, (blk_cell BK215.out 2).trans rfl, (blk_cell BK215.out 3).trans rfl, (blk_cell BK215.out 4).trans rfl, (blk_cell BK215.out 5).trans rfl, (blk_cell BK215.out 6).trans rfl⟩ (fun hHeld => ?_)
                           clear hK K
                           refine norm_ (a' := ?_) ?_ ?_
                           rotate_left
                           · show Act.put _ (some 109) _ = _
                             simp only [Act.put, List.setIfInBounds_toArray, List.set_cons_zero, List.set_cons_succ, i64_w, i32_w]
                             rfl
                           exact norm_ (by simp only [putAll, Act.put, List.setIfInBounds_toArray, List.set_cons_zero, List.set_cons_succ]) (hCont (v217, v220, v223) _ ⟨hHeld, (by (with_reducible repeat (first | apply Kd.R_alloc | apply Kd.R_drewN | apply Kd.R_drew)); exact HO221.out), (by (with_reducible repeat (first | apply Kd.R_alloc | apply Kd.R_drewN | apply Kd.R_drew)); exact Kd.R_mono HO224.out (fun _ hk => ⟨hk.2, hk.1⟩)), (by (with_reducible repeat (first | refine blk_drewN ?_ _ | refine blk_drew ?_ | refine blk_alloc ?_ _)); exact BK209.out), (by (with_reducible repeat (first | refine blk_drewN ?_ _ | refine blk_drew ?_ | refine blk_alloc ?_ _)); exact BK210.out), (by (with_reducible repeat (first | refine blk_drewN ?_ _ | refine blk_drew ?_ | refine blk_alloc ?_ _)); exact BK215.out), (by repeat (first | (with_reducible first | exact HB.out | apply below_alloc | apply pw_below_drewN | apply below_drew1 | refine below_set ?_ GE209.out | refine below_set ?_ GE210.out | refine below_set ?_ GE215.out) | exact HB.out))⟩)
                       · skip
                         refine Kd.R_lit_step k40 _ 40 ?hg (N := 111) ?hd (xs := ([(⟨wrap64 ((l1_2.length : Int) + 1), wrap64 (a1_0 + 1), x10_38, a2, x10_38, 0, a3⟩ : S40)] : List (S40))) (inner := [.int .i64 (wrap64 ((l1_2.length : Int) + 1)), .int .i64 (wrap64 (a1_0 + 1)), .int .i64 x10_38, .int .i64 a2, .int .i64 x10_38, .int .i64 0, .int .i64 a3]) (ok := fun _ => True) (okp := fun _ => True) ?hr ?hp (fun _ hk => hk) trivial (Below.refl _ _) (Nat.le_refl _) (by simp) ?_; (case hd => rfl); (case hg => rfl); (case hr => first | (go_simp; done) | (go_simp; rfl)); (case hp => exact (Reps.c7 (show Kd.M k40 _ _ _ (⟨wrap64 ((l1_2.length : Int) + 1), wrap64 (a1_0 + 1), x10_38, a2, x10_38, 0, a3⟩ : S40) [.int .i64 (wrap64 ((l1_2.length : Int) + 1)), .int .i64 (wrap64 (a1_0 + 1)), .int .i64 x10_38, .int .i64 a2, .int .i64 x10_38, .int .i64 0, .int .i64 a3] from (k40_mkM _ _ _ (⟨wrap64 ((l1_2.length : Int) + 1), wrap64 (a1_0 + 1), x10_38, a2, x10_38, 0, a3⟩ : S40) )) (Reps.none _ _)))
                         intro v223 w64 ho65 hb hg_ hnew_
                         clear hg_ hnew_
                         (first | rw [← Ny222.out] at ho65 | (simp only [Int.reduceToNat] at ho65; rw [← Ny222.out] at ho65))
                         have n0_ := Aside0.mk (Kd.R_lower (Kd.R_newB ho65 (g := gb215) (o := .cells #[.int .i64 (wrap64 ((l1_2.length : Int) + 1)), .int .i64 (wrap64 (a1_0 + 1)), .int .i64 x10_38, .int .i64 a2, .int .i64 x10_38, .int .i64 0, .int .i64 a3] 40 (0, 0)) (by (with_reducible repeat (first | refine blk_drewN ?_ _ | refine blk_drew ?_ | refine blk_alloc ?_ _)); exact BK215.out)) (below_size (by repeat (first | (with_reducible first | exact HB.out | apply below_alloc | apply pw_below_drewN | apply below_drew1 | refine below_set ?_ GE209.out | refine below_set ?_ GE210.out | refine below_set ?_ GE215.out) | exact HB.out))))
                         have n1_ := Aside0.mk (blk_below (g := gb209) (o := .cells #[.int .i64 a1_0, .bool false, .slice A1_2 l1_2.length c1_2] 24 (0, 0)) (by (with_reducible repeat (first | refine blk_drewN ?_ _ | refine blk_drew ?_ | refine blk_alloc ?_ _)); exact BK209.out) hb)
                         have n2_ := Aside0.mk (blk_below (g := gb210) (o := .cells #[.int .i64 0, .bool false, .slice none 0 0] 24 (0, 0)) (by (with_reducible repeat (first | refine blk_drewN ?_ _ | refine blk_drew ?_ | refine blk_alloc ?_ _)); exact BK210.out) hb)
                         have n3_ := Aside0.mk (blk_below (g := gb215) (o := .cells #[.int .i64 (wrap64 ((l1_2.length : Int) + 1)), .int .i64 (wrap64 (a1_0 + 1)), .int .i64 x10_38, .int .i64 a2, .int .i64 x10_38, .int .i64 0, .int .i64 a3] 40 (0, 0)) (by (with_reducible repeat (first | refine blk_drewN ?_ _ | refine blk_drew ?_ | refine blk_alloc ?_ _)); exact BK215.out) hb)
                         have n4_ := Aside0.mk (below_step (by repeat (first | (with_reducible first | exact HB.out | apply below_alloc | apply pw_below_drewN | apply below_drew1 | refine below_set ?_ GE209.out | refine below_set ?_ GE210.out | refine below_set ?_ GE215.out) | exact HB.out)) hb)
                         clear BK209
                         clear BK210
                         clear BK215
                         clear HB
                         have HO224 := n0_
                         have BK209 := n1_
                         have BK210 := n2_
                         have BK215 := n3_
                         have HB := n4_
                         clear n0_ n1_ n2_ n3_ n4_
                         clear hb ho65
                         refine hK.out _ _ ⟨(blk_cell BK209.out 0).trans rfl, (blk_cell BK209.out 1).trans rfl, (blk_cell BK209.out 2).trans rfl, (blk_cell BK215.out 0).trans rfl, (blk_cell BK215.out 1).trans rfl, (blk_cell BK215.out 2).trans rfl, (blk_cell BK215.out 3).trans rfl, (blk_cell BK215.out 4).trans rfl, (blk_cell BK215.out 5).trans rfl, (blk_cell BK215.out 6).trans rfl⟩ (fun hHeld => ?_)
                         clear hK K
                         refine norm_ (a' := ?_) ?_ ?_
                         rotate_left
                         · show Act.put _ (some 111) _ = _
                           simp only [Act.put, List.setIfInBounds_toArray, List.set_cons_zero, List.set_cons_succ, i64_w, i32_w]
                           rfl
                         refine one_ (i := 0) (N := some 106) #[true, true, true, false, true, true, false, false, false] rfl rfl (one_of HT_.out (by kernel_rfl)) (by decide) (fun K hK => ?_)
                         refine Kd.R_lit_step k40 _ 40 ?hg (N := 106) ?hd (xs := ([] : List (S40))) (inner := []) (ok := fun _ => True) (okp := fun _ => True) ?hr ?hp (fun _ hk => hk) trivial (Below.refl _ _) (Nat.le_refl _) (by simp) ?_; (case hd => rfl); (case hg => rfl); (case hr => first | (go_simp; done) | (go_simp; rfl)); (case hp => exact (Reps.none _ _))
                         intro v217 w66 ho67 hb hg_ hnew_
                         clear hg_ hnew_
                         (first | rw [← Ny216.out] at ho67 | (simp only [Int.reduceToNat] at ho67; rw [← Ny216.out] at ho67))
                         have n0_ := Aside0.mk (Kd.R_elder' (by (with_reducible repeat (first | apply Kd.R_alloc | apply Kd.R_drewN | apply Kd.R_drew)); exact HO224.out) (Kd.R_base ho67) hb)
                         have n1_ := Aside0.mk (Kd.R_lower (Kd.R_newB (Kd.R_new' ho67 (Kd.R_lt (by (with_reducible repeat (first | apply Kd.R_alloc | apply Kd.R_drewN | apply Kd.R_drew)); exact HO224.out))) (g := gb215) (o := .cells #[.int .i64 (wrap64 ((l1_2.length : Int) + 1)), .int .i64 (wrap64 (a1_0 + 1)), .int .i64 x10_38, .int .i64 a2, .int .i64 x10_38, .int .i64 0, .int .i64 a3] 40 (0, 0)) (by (with_reducible repeat (first | refine blk_drewN ?_ _ | refine blk_drew ?_ | refine blk_alloc ?_ _)); exact BK215.out)) (below_size (by repeat (first | (with_reducible first | exact HB.out | apply below_alloc | apply pw_below_drewN | apply below_drew1 | refine below_set ?_ GE209.out | refine below_set ?_ GE210.out | refine below_set ?_ GE215.out) | exact HB.out))))
                         have n2_ := Aside0.mk (blk_below (g := gb209) (o := .cells #[.int .i64 a1_0, .bool false, .slice A1_2 l1_2.length c1_2] 24 (0, 0)) (by (with_reducible repeat (first | refine blk_drewN ?_ _ | refine blk_drew ?_ | refine blk_alloc ?_ _)); exact BK209.out) hb)
                         have n3_ := Aside0.mk (blk_below (g := gb210) (o := .cells #[.int .i64 0, .bool false, .slice none 0 0] 24 (0, 0)) (by (with_reducible repeat (first | refine blk_drewN ?_ _ | refine blk_drew ?_ | refine blk_alloc ?_ _)); exact BK210.out) hb)
                         have n4_ := Aside0.mk (blk_below (g := gb215) (o := .cells #[.int .i64 (wrap64 ((l1_2.length : Int) + 1)), .int .i64 (wrap64 (a1_0 + 1)), .int .i64 x10_38, .int .i64 a2, .int .i64 x10_38, .int .i64 0, .int .i64 a3] 40 (0, 0)) (by (with_reducible repeat (first | refine blk_drewN ?_ _ | refine blk_drew ?_ | refine blk_alloc ?_ _)); exact BK215.out) hb)
                         have n5_ := Aside0.mk (below_step (by repeat (first | (with_reducible first | exact HB.out | apply below_alloc | apply pw_below_drewN | apply below_drew1 | refine below_set ?_ GE209.out | refine below_set ?_ GE210.out | refine below_set ?_ GE215.out) | exact HB.out)) hb)
                         clear HO224
                         clear BK209
                         clear BK210
                         clear BK215
                         clear HB
                         have HO224 := n0_
                         have HO218 := n1_
                         have BK209 := n2_
                         have BK210 := n3_
                         have BK215 := n4_
                         have HB := n5_
                         clear n0_ n1_ n2_ n3_ n4_ n5_
                         clear hb ho67
                         refine hK.out _ _ ⟨(blk_cell BK209.out 0).trans rfl, (blk_cell BK209.out 1).trans rfl, (blk_cell BK209.out 2).trans rfl, (blk_cell BK215.out 0).trans rfl, (blk_cell BK215.out 1).trans rfl, (blk_cell BK215.out 2).trans rfl, (blk_cell BK215.out 3).trans rfl, (blk_cell BK215.out 4).trans rfl, (blk_cell BK215.out 5).trans rfl, (blk_cell BK215.out 6).trans rfl⟩ (fun hHeld => ?_)
                         clear hK K
                         refine norm_ (a' := ?_) ?_ ?_
                         rotate_left
                         · show Act.put _ (some 106) _ = _
                           simp only [Act.put, List.setIfInBounds_toArray, List.set_cons_zero, List.set_cons_succ, i64_w, i32_w]
                           rfl
                         refine one_ (i := 3) (N := some 109) #[true, true, true, true, true, true, false, false, false] rfl rfl (one_of HT_.out (by kernel_rfl)) (by decide) (fun K hK => ?_)
                         refine Kd.R_append_rows_step k40 (w0 := w) w.heap.size (by rfl) (.tmp 106) (.tmp 108) 22 40 (.agg #[(.int .i64 0), (.int .i64 0), (.int .i64 0), (.int .i64 0), (.int .i64 0), (.int .i64 0), (.int .i64 0)]) 56 rfl Try.underlying22 info40 rfl (by decide) (by omega) v217 y216 l1_2 _ _ _ (fun k_ => some k_ ≠ (v223 : Value).ownBlock ∧ k_ ≠ gb215) (fun _ => False) rfl rfl ?aO ?aR (fun _ _ h => h) (fun _ h => h.elim) ?aF ?aB ?aS ?aL ?_
                         (case aR => repeat (first | exact (Kd.C_below HR1_2.out HB.out) | (with_reducible refine Kd.C_alloc ?_ _) | (with_reducible refine Kd.C_drewN ?_ _) | (with_reducible refine Kd.C_drew ?_)))
                         (case aB => exact (by repeat (first | (with_reducible first | exact HB.out | apply below_alloc | apply pw_below_drewN | apply below_drew1 | refine below_set ?_ GE209.out | refine below_set ?_ GE210.out | refine below_set ?_ GE215.out) | exact HB.out)))
                         (case aF => exact (fun k_ hk => ⟨Kd.fresh' (Kd.R_lt (by (with_reducible repeat (first | apply Kd.R_alloc | apply Kd.R_drewN | apply Kd.R_drew)); exact HO224.out)) k_ hk, Kd.freshB (g := gb215) (o := .cells #[.int .i64 (wrap64 ((l1_2.length : Int) + 1)), .int .i64 (wrap64 (a1_0 + 1)), .int .i64 x10_38, .int .i64 a2, .int .i64 x10_38, .int .i64 0, .int .i64 a3] 40 (0, 0)) (by (with_reducible repeat (first | refine blk_drewN ?_ _ | refine blk_drew ?_ | refine blk_alloc ?_ _)); exact BK215.out) k_ hk⟩))
                         (case aO => exact (by (with_reducible repeat (first | apply Kd.R_alloc | apply Kd.R_drewN | apply Kd.R_drew)); exact Kd.R_mono HO218.out (fun _ hk => ⟨hk.1.2, hk.2⟩)))
                         (case aS => exact (below_size (by repeat (first | (with_reducible first | exact HB.out | apply below_alloc | apply pw_below_drewN | apply below_drew1 | refine below_set ?_ GE209.out | refine below_set ?_ GE210.out | refine below_set ?_ GE215.out) | exact HB.out))))
                         (case aL => have := LMc54.out; omega)
                         intro v220 w68 ho hb hg hat
                         rw [← Ny219.out] at ho
                         have n0_ := Aside0.mk (blk_grown (g := gb209) (o := .cells #[.int .i64 a1_0, .bool false, .slice A1_2 l1_2.length c1_2] 24 (0, 0)) (by (with_reducible repeat (first | refine blk_drewN ?_ _ | refine blk_drew ?_ | refine blk_alloc ?_ _)); exact BK209.out) hg (Kd.R_ne HO218.out BK209.out (by decide)))
                         have n1_ := Aside0.mk (blk_grown (g := gb210) (o := .cells #[.int .i64 0, .bool false, .slice none 0 0] 24 (0, 0)) (by (with_reducible repeat (first | refine blk_drewN ?_ _ | refine blk_drew ?_ | refine blk_alloc ?_ _)); exact BK210.out) hg (Kd.R_ne HO218.out BK210.out (by decide)))
                         have n2_ := Aside0.mk (blk_grown (g := gb215) (o := .cells #[.int .i64 (wrap64 ((l1_2.length : Int) + 1)), .int .i64 (wrap64 (a1_0 + 1)), .int .i64 x10_38, .int .i64 a2, .int .i64 x10_38, .int .i64 0, .int .i64 a3] 40 (0, 0)) (by (with_reducible repeat (first | refine blk_drewN ?_ _ | refine blk_drew ?_ | refine blk_alloc ?_ _)); exact BK215.out) hg (Kd.R_away HO218.out (fun _ hk => hk.2)))
                         have n3_ := Aside0.mk (Kd.R_after (ok := (fun k_ => k_ ≠ gb215)) (by (with_reducible repeat (first | apply Kd.R_alloc | apply Kd.R_drewN | apply Kd.R_drew)); exact Kd.R_mono HO224.out (fun _ hk => ⟨hk.1.2, hk.2⟩)) hg hat)
                         have n4_ := Aside0.mk (hb)
                         have n5_ := Aside0.mk (ho)
                         clear BK209
                         clear BK210
                         clear BK215
                         clear HO224
                         clear HB
                         clear HO218
                         have BK209 := n0_
                         have BK210 := n1_
                         have BK215 := n2_
                         have HO224 := n3_
                         have HB := n4_
                         have HO221 := n5_
                         clear n0_ n1_ n2_ n3_ n4_ n5_
                         clear ho hb hg hat
                         refine hK.out _ _ ⟨(blk_cell BK209.out 0).trans rfl, (blk_cell BK209.out 1).trans rfl, (blk_cell BK209.out 2).trans rfl, (blk_cell BK215.out 0).trans rfl, (blk_cell BK215.out 1).trans rfl, (blk_cell BK215.out 2).trans rfl, (blk_cell BK215.out 3).trans rfl, (blk_cell BK215.out 4).trans rfl, (blk_cell BK215.out 5).trans rfl, (blk_cell BK215.out 6).trans rfl⟩ (fun hHeld => ?_)
                         clear hK K
                         refine norm_ (a' := ?_) ?_ ?_
                         rotate_left
                         · show Act.put _ (some 109) _ = _
                           simp only [Act.put, List.setIfInBounds_toArray, List.set_cons_zero, List.set_cons_succ, i64_w, i32_w]
                           rfl
                         exact norm_ (by simp only [putAll, Act.put, List.setIfInBounds_toArray, List.set_cons_zero, List.set_cons_succ]) (hCont (v217, v220, v223) _ ⟨hHeld, (by (with_reducible repeat (first | apply Kd.R_alloc | apply Kd.R_drewN | apply Kd.R_drew)); exact HO221.out), (by (with_reducible repeat (first | apply Kd.R_alloc | apply Kd.R_drewN | apply Kd.R_drew)); exact Kd.R_mono HO224.out (fun _ hk => ⟨hk.2, hk.1⟩)), (by (with_reducible repeat (first | refine blk_drewN ?_ _ | refine blk_drew ?_ | refine blk_alloc ?_ _)); exact BK209.out), (by (with_reducible repeat (first | refine blk_drewN ?_ _ | refine blk_drew ?_ | refine blk_alloc ?_ _)); exact BK210.out), (by (with_reducible repeat (first | refine blk_drewN ?_ _ | refine blk_drew ?_ | refine blk_alloc ?_ _)); exact BK215.out), (by repeat (first | (with_reducible first | exact HB.out | apply below_alloc | apply pw_below_drewN | apply below_drew1 | refine below_set ?_ GE209.out | refine below_set ?_ GE210.out | refine below_set ?_ GE215.out) | exact HB.out))⟩)
                     rintro ⟨v217, v220, v223⟩ w69 ⟨hS_, h0_, h1_, h2_, h3_, h4_, h5_⟩
                     have n0_ : Aside0 (Kd.R k40 40 w69 w.heap.size (fun k_ => some k_ ≠ (v223 : Value).ownBlock ∧ k_ ≠ gb215) v220 y219) := ⟨h0_⟩
                     have n1_ : Aside0 (Kd.R k40 40 w69 w.heap.size (fun k_ => some k_ ≠ (v220 : Value).ownBlock ∧ k_ ≠ gb215) v223 y222) := ⟨h1_⟩
                     have n2_ : Aside0 (w69.heap[gb209]? = some (.cells #[.int .i64 a1_0, .bool false, .slice A1_2 l1_2.length c1_2] 24 (0, 0))) := ⟨h2_⟩
                     have n3_ : Aside0 (w69.heap[gb210]? = some (.cells #[.int .i64 0, .bool false, .slice none 0 0] 24 (0, 0))) := ⟨h3_⟩
                     have n4_ : Aside0 (w69.heap[gb215]? = some (.cells #[.int .i64 (wrap64 ((l1_2.length : Int) + 1)), .int .i64 (wrap64 (a1_0 + 1)), .int .i64 x10_38, .int .i64 a2, .int .i64 x10_38, .int .i64 0, .int .i64 a3] 40 (0, 0))) := ⟨h4_⟩
                     have n5_ : Aside0 (Below w.heap.size w w69) := ⟨h5_⟩
                     clear BK209
                     clear BK210
                     clear BK215
                     clear HB
                     clear h0_ h1_ h2_ h3_ h4_ h5_
                     have HO221 := n0_
                     have HO224 := n1_
                     have BK209 := n2_
                     have BK210 := n3_
                     have BK215 := n4_
                     have HB := n5_
                     clear n0_ n1_ n2_ n3_ n4_ n5_
                     have hHeld : w69.cell? ⟨gb209, 0, none⟩ = some (.int .i64 a1_0) ∧ w69.cell? ⟨gb209, 1, none⟩ = some (.bool false) ∧ w69.cell? ⟨gb209, 2, none⟩ = some (.slice A1_2 l1_2.length c1_2) ∧ w69.cell? ⟨gb215, 0, none⟩ = some (.int .i64 (wrap64 ((l1_2.length : Int) + 1))) ∧ w69.cell? ⟨gb215, 1, none⟩ = some (.int .i64 (wrap64 (a1_0 + 1))) ∧ w69.cell? ⟨gb215, 2, none⟩ = some (.int .i64 x10_38) ∧ w69.cell? ⟨gb215, 3, none⟩ = some (.int .i64 a2) ∧ w69.cell? ⟨gb215, 4, none⟩ = some (.int .i64 x10_38) ∧ w69.cell? ⟨gb215, 5, none⟩ = some (.int .i64 0) ∧ w69.cell? ⟨gb215, 6, none⟩ = some (.int .i64 a3) := hS_
                     obtain ⟨Ao71, co71, eo71⟩ := Kd.R_slice HO224.out
                     (first | subst eo71 | (injection eo71 with f1_ f2_ f3_; have f4_ := f1_.symm; have f5_ := f3_.symm; clear f1_ f2_ f3_; subst f4_; subst f5_))
                     refine norm_ (a' := ?_) ?_ ?_
                     rotate_left
                     · simp only [putAll, Act.put, List.setIfInBounds_toArray, List.set_cons_zero, List.set_cons_succ]
                       rfl
                     refine one_ (i := 6) (N := some 112) #[true, true, true, true, true, true, true, false, false] rfl rfl (one_of HT_.out (by kernel_rfl)) (by decide) (fun K hK => ?_)
                     refine Kd.R_append_rows_step k40 (w0 := w) w.heap.size (by rfl) (.tmp 109) (.tmp 111) 22 40 (.agg #[(.int .i64 0), (.int .i64 0), (.int .i64 0), (.int .i64 0), (.int .i64 0), (.int .i64 0), (.int .i64 0)]) 56 rfl Try.underlying22 info40 rfl (by decide) (by omega) v220 y219 y222 _ _ _ (fun k_ => some k_ ≠ (.slice Ao71 y222.length co71 : Value).ownBlock ∧ k_ ≠ gb215) (fun _ => False) rfl rfl ?aO ?aR (fun _ _ h => h) (fun _ h => h.elim) ?aF ?aB ?aS ?aL ?_
                     (case aR => repeat (first | exact (Kd.R_reads' HO224.out).2.2 | (with_reducible refine Kd.C_alloc ?_ _) | (with_reducible refine Kd.C_drewN ?_ _) | (with_reducible refine Kd.C_drew ?_)))
                     (case aB => exact (by repeat (first | (with_reducible first | exact HB.out | apply below_alloc | apply pw_below_drewN | apply below_drew1 | refine below_set ?_ GE209.out | refine below_set ?_ GE210.out | refine below_set ?_ GE215.out) | exact HB.out)))
                     (case aF => exact (fun k_ hk => ⟨Kd.fresh' (Kd.R_lt (by (with_reducible repeat (first | apply Kd.R_alloc | apply Kd.R_drewN | apply Kd.R_drew)); exact HO224.out)) k_ hk, Kd.freshB (g := gb215) (o := .cells #[.int .i64 (wrap64 ((l1_2.length : Int) + 1)), .int .i64 (wrap64 (a1_0 + 1)), .int .i64 x10_38, .int .i64 a2, .int .i64 x10_38, .int .i64 0, .int .i64 a3] 40 (0, 0)) (by (with_reducible repeat (first | refine blk_drewN ?_ _ | refine blk_drew ?_ | refine blk_alloc ?_ _)); exact BK215.out) k_ hk⟩))
                     (case aO => exact (by (with_reducible repeat (first | apply Kd.R_alloc | apply Kd.R_drewN | apply Kd.R_drew)); exact HO221.out))
                     (case aS => exact (below_size (by repeat (first | (with_reducible first | exact HB.out | apply below_alloc | apply pw_below_drewN | apply below_drew1 | refine below_set ?_ GE209.out | refine below_set ?_ GE210.out | refine below_set ?_ GE215.out) | exact HB.out))))
                     (case aL => have := LMc55.out; omega)
                     intro v226 w70 ho hb hg hat
                     rw [← Ny225.out] at ho
                     have n0_ := Aside0.mk (blk_grown (g := gb209) (o := .cells #[.int .i64 a1_0, .bool false, .slice A1_2 l1_2.length c1_2] 24 (0, 0)) (by (with_reducible repeat (first | refine blk_drewN ?_ _ | refine blk_drew ?_ | refine blk_alloc ?_ _)); exact BK209.out) hg (Kd.R_ne HO221.out BK209.out (by decide)))
                     have n1_ := Aside0.mk (blk_grown (g := gb210) (o := .cells #[.int .i64 0, .bool false, .slice none 0 0] 24 (0, 0)) (by (with_reducible repeat (first | refine blk_drewN ?_ _ | refine blk_drew ?_ | refine blk_alloc ?_ _)); exact BK210.out) hg (Kd.R_ne HO221.out BK210.out (by decide)))
                     have n2_ := Aside0.mk (blk_grown (g := gb215) (o := .cells #[.int .i64 (wrap64 ((l1_2.length : Int) + 1)), .int .i64 (wrap64 (a1_0 + 1)), .int .i64 x10_38, .int .i64 a2, .int .i64 x10_38, .int .i64 0, .int .i64 a3] 40 (0, 0)) (by (with_reducible repeat (first | refine blk_drewN ?_ _ | refine blk_drew ?_ | refine blk_alloc ?_ _)); exact BK215.out) hg (Kd.R_away HO221.out (fun _ hk => hk.2)))
                     have n3_ := Aside0.mk (Kd.R_after (ok := (fun k_ => k_ ≠ gb215)) (by (with_reducible repeat (first | apply Kd.R_alloc | apply Kd.R_drewN | apply Kd.R_drew)); exact Kd.R_mono HO224.out (fun _ hk => ⟨hk.2, hk.1⟩)) hg hat)
                     have n4_ := Aside0.mk (hb)
                     have n5_ := Aside0.mk (ho)
                     clear BK209
                     clear BK210
                     clear BK215
                     clear HO224
                     clear HB
                     clear HO221
                     have BK209 := n0_
                     have BK210 := n1_
                     have BK215 := n2_
                     have HO224 := n3_
                     have HB := n4_
                     have HO227 := n5_
                     clear n0_ n1_ n2_ n3_ n4_ n5_
                     clear ho hb hg hat
                     obtain ⟨Ao72, co72, eo72⟩ := Kd.R_slice HO227.out
                     (first | subst eo72 | (injection eo72 with f1_ f2_ f3_; have f4_ := f1_.symm; have f5_ := f3_.symm; clear f1_ f2_ f3_; subst f4_; subst f5_))
                     refine hK.out _ _ ⟨(blk_cell BK209.out 0).trans rfl, (blk_cell BK209.out 1).trans rfl, (blk_cell BK209.out 2).trans rfl, (blk_cell BK215.out 0).trans rfl, (blk_cell BK215.out 1).trans rfl, (blk_cell BK215.out 2).trans rfl, (blk_cell BK215.out 3).trans rfl, (blk_cell BK215.out 4).trans rfl, (blk_cell BK215.out 5).trans rfl, (blk_cell BK215.out 6).trans rfl⟩ (fun hHeld => ?_)
                     clear hK K
                     refine norm_ (a' := ?_) ?_ ?_
                     rotate_left
                     · show Act.put _ (some 112) _ = _
                       simp only [Act.put, List.setIfInBounds_toArray, List.set_cons_zero, List.set_cons_succ, i64_w, i32_w]
                       rfl
                     refine pure_ (i := 7) (N := some 113) (v := ?_) (a' := ?_) #[true, true, true, true, true, true, true, true, false] rfl rfl (any_of HT_.out (by kernel_rfl)) (fun _ _ _ h => h) (Or.inl ⟨by rfl, ?_⟩) ?_ ?_
                     rotate_left
                     · intro w'
                       go_simp
                       with_reducible rfl
                     rotate_left
                     · simp only [Act.put, List.setIfInBounds_toArray, List.set_cons_zero, List.set_cons_succ, i64_w, i32_w]
                       rfl
                     refine last_ (i := 8) (N := none) #[true, true, true, true, true, true, true, true, true] rfl rfl (one_of HT_.out (by kernel_rfl)) (by decide) (fun K hK => ?_)
                     have hs73 : w70.cell? ⟨gb209, 2, none⟩ = some (.slice A1_2 l1_2.length c1_2) := (blk_cell BK209.out 2).trans rfl
                     have hfs73 := blk_frozen BK209.out 2
                     have hns73_1 := NB210_209.out
                     have hns73_2 := NB215_209.out
                     have hms73_1 := NB209_210.out
                     have hms73_2 := NB209_215.out
                     refine skip_ (w1 := ?_) (by rfl) rfl ?_ ?_
                     rotate_left
                     · go_simp
                       rfl
                     refine hK.out _ _ ?_
                     clear hK K
                     refine done_ (done_of HT_.out (by kernel_rfl)) ?_
                     obtain ⟨hcz74_0, hcz74_1, hcz74_2⟩ := cel3 BK209.out
                     obtain ⟨hfz74_0, hfz74_1, hfz74_2⟩ := frz3 BK209.out
                     obtain ⟨hcz75_0, hcz75_1, hcz75_2⟩ := cel3 BK210.out
                     obtain ⟨hfz75_0, hfz75_1, hfz75_2⟩ := frz3 BK210.out
                     try go_wp2
                     refine bodyPost_ret (results_ct rfl _ _ gb210 24 #[.int .i64 a1_0, .bool false, .slice Ao72 y225.length co72] (0, 0) _ rfl (by (with_reducible repeat (first | refine blk_drewN ?_ _ | refine blk_drew ?_ | refine blk_alloc ?_ _)); refine blk_put (cs := #[.int .i64 a1_0, .bool false, .slice none 0 0]) ?_ 2 _ rfl; (with_reducible repeat (first | refine blk_drewN ?_ _ | refine blk_drew ?_ | refine blk_alloc ?_ _)); refine blk_put (cs := #[.int .i64 a1_0, .bool false, .slice none 0 0]) ?_ 1 _ rfl; (with_reducible repeat (first | refine blk_drewN ?_ _ | refine blk_drew ?_ | refine blk_alloc ?_ _)); refine blk_put (cs := #[.int .i64 0, .bool false, .slice none 0 0]) ?_ 0 _ rfl; (with_reducible repeat (first | refine blk_drewN ?_ _ | refine blk_drew ?_ | refine blk_alloc ?_ _)); refine blk_far ?_ NB210_209.out _; (with_reducible repeat (first | refine blk_drewN ?_ _ | refine blk_drew ?_ | refine blk_alloc ?_ _)); exact BK210.out) Try.underlying24 rfl (by kernel_rfl)) rfl ?_
                     exact ⟨_, by first | rfl | (simp [errW_none, errW_some] <;> rfl) | (simp [*, errW_none, errW_some] <;> rfl), by (with_reducible repeat (first | apply Kd.R_alloc | apply Kd.R_drewN | apply Kd.R_drew)); exact Kd.R_mono (Kd.R_far (p := ⟨gb210, 2, none⟩) (Kd.R_far (p := ⟨gb210, 1, none⟩) (Kd.R_far (p := ⟨gb210, 0, none⟩) (Kd.R_far (p := ⟨gb209, 2, none⟩) (Kd.R_types (Kd.R_types HO227.out BK209.out (by decide)) BK210.out (by decide)) (fun _ hk => hk.1.2) (.slice Ao72 y225.length co72)) (fun _ hk => hk.2) (.int .i64 a1_0)) (fun _ hk => hk.2) (.bool false)) (fun _ hk => hk.2) (.slice Ao72 y225.length co72)) (fun _ hk => trivial), by repeat (first | (with_reducible first | exact HB.out | apply below_alloc | apply pw_below_drewN | apply below_drew1 | refine below_set ?_ GE209.out | refine below_set ?_ GE210.out | refine below_set ?_ GE215.out) | exact HB.out)⟩
                   · rw [if_neg c55] at H
                     exact absurd H (by simp)
                 · rw [if_neg c54] at H
                   exact absurd H (by simp)
 · replace c6 := Bool.eq_false_iff.mpr c6
   subst c6
   have H1 : (some (0, false, ([] : List (S40)), 1)) = some (r1, r2, r3, r4) := by rw [if_neg (show ¬ (false = true) by decide)] at H; exact H
   clear H
   have H := H1
   clear H1
   simp only [Option.some.injEq, Prod.mk.injEq] at H
   obtain ⟨rfl, rfl, rfl, rfl⟩ := H
   go_enter Try.func20, Try.ntmps20
   go_wp2_with (first | ((with_reducible refine gate_dst (N := 5) rfl ?_); refine box_event ?hg (N := 5) ?hd (cs := #[.int .i64 a1_0, .bool a1_1, .slice A1_2 l1_2.length c1_2]) (t := 24) ?hr ?_; (case hd => rfl); (case hg => rfl); (case hr => first | (go_simp; done) | (go_simp; rfl)); intro gb209 hg w76 hbox hb; have n0_ := Aside0.mk (below_step (by repeat (first | (with_reducible first | exact HB.out | apply below_alloc | apply pw_below_drewN | apply below_drew1) | exact HB.out)) hb); have n1_ := Aside0.mk (hbox); have n2_ := Aside0.mk ((by rw [hg]; exact (below_size (by repeat (first | (with_reducible first | exact HB.out | apply below_alloc | apply pw_below_drewN | apply below_drew1) | exact HB.out))) : w.heap.size ≤ gb209)); have n3_ := Aside0.mk ((by rw [hg]; exact (below_size (by repeat (first | (with_reducible first | exact HB.out | apply below_alloc | apply pw_below_drewN | apply below_drew1) | exact HB.out))) : w.heap.size ≤ gb209)); clear HB; have HB := n0_; have BK209 := n1_; have GW209 := n2_; have GE209 := n3_; clear n0_ n1_ n2_ n3_; clear hb hbox hg) | ((with_reducible refine gate_dst (N := 8) rfl ?_); refine box_event ?hg (N := 8) ?hd (cs := #[.int .i64 0, .bool false, .slice none 0 0]) (t := 24) ?hr ?_; (case hd => rfl); (case hg => rfl); (case hr => first | (go_simp; done) | (go_simp; rfl)); intro gb210 hg w77 hbox hb; have n0_ := Aside0.mk (blk_below (g := gb209) (o := .cells #[.int .i64 a1_0, .bool a1_1, .slice A1_2 l1_2.length c1_2] 24 (0, 0)) (by (with_reducible repeat (first | refine blk_drewN ?_ _ | refine blk_drew ?_ | refine blk_alloc ?_ _)); exact BK209.out) hb); have n1_ := Aside0.mk (below_step (by repeat (first | (with_reducible first | exact HB.out | apply below_alloc | apply pw_below_drewN | apply below_drew1 | refine below_set ?_ GE209.out) | exact HB.out)) hb); have n2_ := Aside0.mk (hbox); have n3_ := Aside0.mk ((by rw [hg]; exact (below_size (by repeat (first | (with_reducible first | exact HB.out | apply below_alloc | apply pw_below_drewN | apply below_drew1 | refine below_set ?_ GE209.out) | exact HB.out))) : w.heap.size ≤ gb210)); have n4_ := Aside0.mk ((by rw [hg]; exact (below_size (by repeat (first | (with_reducible first | exact HB.out | apply below_alloc | apply pw_below_drewN | apply below_drew1 | refine below_set ?_ GE209.out) | exact HB.out))) : w.heap.size ≤ gb210)); have n5_ := Aside0.mk ((by rw [hg]; exact Nat.ne_of_lt (blk_lt (g := gb209) (o := .cells #[.int .i64 a1_0, .bool a1_1, .slice A1_2 l1_2.length c1_2] 24 (0, 0)) (by (with_reducible repeat (first | refine blk_drewN ?_ _ | refine blk_drew ?_ | refine blk_alloc ?_ _)); exact BK209.out)) : gb209 ≠ gb210)); have n6_ := Aside0.mk ((by rw [hg]; exact Nat.ne_of_gt (blk_lt (g := gb209) (o := .cells #[.int .i64 a1_0, .bool a1_1, .slice A1_2 l1_2.length c1_2] 24 (0, 0)) (by (with_reducible repeat (first | refine blk_drewN ?_ _ | refine blk_drew ?_ | refine blk_alloc ?_ _)); exact BK209.out)) : gb210 ≠ gb209)); clear BK209; clear HB; have BK209 := n0_; have HB := n1_; have BK210 := n2_; have GW210 := n3_; have GE210 := n4_; have NB209_210 := n5_; have NB210_209 := n6_; clear n0_ n1_ n2_ n3_ n4_ n5_ n6_; clear hb hbox hg; have hnb78 := NB209_210.out; have hnc78 := NB210_209.out; obtain ⟨hcz79_0, hcz79_1, hcz79_2⟩ := cel3 BK209.out; obtain ⟨hfz79_0, hfz79_1, hfz79_2⟩ := frz3 BK209.out) | ((with_reducible refine gate_callee (f := 11) rfl ?_); refine goesL_ (some 16) rfl rfl Try.func11 (by kernel_rfl) rfl #[.int .i64 a0, .agg #[.int .i64 a1_0, .bool a1_1, .slice A1_2 l1_2.length c1_2]] rfl (by (try simp only [List.map_toArray, List.map_cons, List.map_nil]); first | done | rfl | (simp only [List.length_drop, List.length_take]; rfl)) ?_; (with_reducible refine (masterdiscref14_Valid.calls a0 a1_0 a1_1 _ _ l1_2 false _ ?side1 ?side2 A5.out).mono ?_); (case side1 => repeat (first | exact (Kd.C_below HR1_2.out HB.out) | (with_reducible refine Kd.C_alloc ?_ _) | (with_reducible refine Kd.C_drewN ?_ _) | (with_reducible refine Kd.C_drew ?_))); (case side2 => exact HC1_2.out); rintro e w80 ⟨rfl, hb⟩; refine ⟨_, rfl, ?_⟩; have n0_ := Aside0.mk (blk_below (g := gb209) (o := .cells #[.int .i64 a1_0, .bool a1_1, .slice A1_2 l1_2.length c1_2] 24 (0, 0)) (by (with_reducible repeat (first | refine blk_drewN ?_ _ | refine blk_drew ?_ | refine blk_alloc ?_ _)); exact BK209.out) hb); have n1_ := Aside0.mk (blk_below (g := gb210) (o := .cells #[.int .i64 0, .bool false, .slice none 0 0] 24 (0, 0)) (by (with_reducible repeat (first | refine blk_drewN ?_ _ | refine blk_drew ?_ | refine blk_alloc ?_ _)); exact BK210.out) hb); have n2_ := Aside0.mk (below_step (by repeat (first | (with_reducible first | exact HB.out | apply below_alloc | apply pw_below_drewN | apply below_drew1 | refine below_set ?_ GE209.out | refine below_set ?_ GE210.out) | exact HB.out)) hb); clear BK209; clear BK210; clear HB; have BK209 := n0_; have BK210 := n1_; have HB := n2_; clear n0_ n1_ n2_; (try clear hb); (try clear hb2); (try clear hk); (try clear hi); obtain ⟨hcz81_0, hcz81_1, hcz81_2⟩ := cel3 BK210.out; obtain ⟨hfz81_0, hfz81_1, hfz81_2⟩ := frz3 BK210.out))
   refine bodyPost_ret (results_ct rfl _ _ gb210 24 #[.int .i64 0, .bool false, .slice none 0 0] (0, 0) _ rfl (by (with_reducible repeat (first | refine blk_drewN ?_ _ | refine blk_drew ?_ | refine blk_alloc ?_ _)); refine blk_put (cs := #[.int .i64 0, .bool false, .slice none 0 0]) ?_ 2 _ rfl; (with_reducible repeat (first | refine blk_drewN ?_ _ | refine blk_drew ?_ | refine blk_alloc ?_ _)); refine blk_put (cs := #[.int .i64 0, .bool false, .slice none 0 0]) ?_ 1 _ rfl; (with_reducible repeat (first | refine blk_drewN ?_ _ | refine blk_drew ?_ | refine blk_alloc ?_ _)); refine blk_put (cs := #[.int .i64 0, .bool false, .slice none 0 0]) ?_ 0 _ rfl; (with_reducible repeat (first | refine blk_drewN ?_ _ | refine blk_drew ?_ | refine blk_alloc ?_ _)); exact BK210.out) Try.underlying24 rfl (by kernel_rfl)) rfl ?_
   exact ⟨_, by first | rfl | (simp [errW_none, errW_some] <;> rfl) | (simp [*, errW_none, errW_some] <;> rfl), by first | exact Kd.R_nil _ _ _ _ _ | exact Kd.N_nil _ _ _ _ _ | exact Kd.V_nil _ _ _ _ _ | exact Kd.Q_nil _ _ _ _ _ | exact Kd.S_nil _ _ _ _ _, by repeat (first | (with_reducible first | exact HB.out | apply below_alloc | apply pw_below_drewN | apply below_drew1 | refine below_set ?_ GE209.out | refine below_set ?_ GE210.out) | exact HB.out)⟩
end Go.Proofs.Ytjhepdcdhabcjaa.G
namespace Go.Proofs.Ytjhepdcdhabcjaa.G
open Go.RowKit Go.Proofs.YtjhepdcdhabcjaaW.PrintWords Go.Proofs.YtjhepdcdhabcjaaW.PrintLast Go.Proofs.YtjhepdcdhabcjaaW.PrintMore
attribute [local go_sem] max2_int min2_int max_two min_two max_three min_three max_four min_four   -- for this text's walks alone
set_option linter.unusedVariables false
set_option linter.unusedSimpArgs false
def masterdiscref14_changed.f (a0_0 : Int) (a0_1 : Bool) (l0_2 : List (S40)) (a1 : Int) (a2_0 : Int) (a2_1 : Int) (a2_2 : Int) (a2_3 : Int) (a2_4 : Int) (a2_5 : Int) (a2_6 : Int) : Option (Int × Bool × (List (S40))) := (some (([] : List (S40)) : List (S40))).bind fun y231 => (if y231.length + l0_2.length < 2513169434916 then ((some (y231 ++ l0_2 : List (S40))).bind fun y234 => (if 0 ≤ a1 then (if a1 < (y234.length : Int) then (some (a0_0, a0_1, (y234.set (a1 : Int).toNat (⟨a2_0, a2_1, a2_2, a2_3, a2_4, a2_5, a2_6⟩ : S40)))) else (none)) else (none))) else (none))
set_option maxHeartbeats 8000000 in
set_option maxRecDepth 100000 in
theorem masterdiscref14_changed.calls (a0_0 : Int) (a0_1 : Bool) (A0_2 : Option Addr) (c0_2 : Nat) (l0_2 : List (S40)) (a1 : Int) (a2_0 : Int) (a2_1 : Int) (a2_2 : Int) (a2_3 : Int) (a2_4 : Int) (a2_5 : Int) (a2_6 : Int) (r1 : Int) (r2 : Bool) (r3 : List (S40)) (w : World) (hr0_2 : Kd.C k40 w A0_2 l0_2.length l0_2) (hc0_2 : l0_2.length ≤ c0_2) (h : masterdiscref14_changed.f a0_0 a0_1 l0_2 a1 a2_0 a2_1 a2_2 a2_3 a2_4 a2_5 a2_6 = some (r1, r2, r3)) :
 Calls Try.prog 33 #[.agg #[.int .i64 a0_0, .bool a0_1, .slice A0_2 l0_2.length c0_2], .int .i64 a1, .agg #[.int .i64 a2_0, .int .i64 a2_1, .int .i64 a2_2, .int .i64 a2_3, .int .i64 a2_4, .int .i64 a2_5, .int .i64 a2_6]] w fun e w' => ∃ v2_ : Value, e = .returned (.agg #[.int .i64 r1, .bool r2, v2_]) ∧ Kd.R k40 40 w' w.heap.size (fun _ => True) v2_ r3 ∧ Below w.heap.size w w' := by
 have hu24 := Try.underlying24
 have hu40 := Try.underlying40
 have HR0_2 := Aside0.mk hr0_2
 have HC0_2 := Aside0.mk hc0_2
 clear hr0_2 hc0_2
 have HB := Aside0.mk (Below.refl w.heap.size w)
 have H : ((some (([] : List (S40)) : List (S40))).bind fun y231 => (if y231.length + l0_2.length < 2513169434916 then ((some (y231 ++ l0_2 : List (S40))).bind fun y234 => (if 0 ≤ a1 then (if a1 < (y234.length : Int) then (some (a0_0, a0_1, (y234.set (a1 : Int).toNat (⟨a2_0, a2_1, a2_2, a2_3, a2_4, a2_5, a2_6⟩ : S40)))) else (none)) else (none))) else (none))) = some (r1, r2, r3) := h
 clear h
 obtain ⟨y231, hy231⟩ : ∃ y_ : List (S40), y_ = (([] : List (S40))) := ⟨_, rfl⟩
 replace H : (if y231.length + l0_2.length < 2513169434916 then ((some (y231 ++ l0_2 : List (S40))).bind fun y234 => (if 0 ≤ a1 then (if a1 < (y234.length : Int) then (some (a0_0, a0_1, (y234.set (a1 : Int).toNat (⟨a2_0, a2_1, a2_2, a2_3, a2_4, a2_5, a2_6⟩ : S40)))) else (none)) else (none))) else (none)) = some (r1, r2, r3) := by first | (rw [hy231]; with_reducible exact H) | (have H2_ := (Option.bind_some _ _).symm.trans H; rw [hy231]; with_reducible exact H2_) | (have H2_ := (Option.bind_some _ _).symm.trans H; with_reducible exact H2_) | with_reducible exact H | (rw [hy231]; exact H) | exact H
 have Ny231 := Aside0.mk hy231
 clear hy231
 by_cases c4 : y231.length + l0_2.length < 2513169434916
 · rw [if_pos c4] at H
   have LMc4 := Aside0.mk c4
   clear c4
   obtain ⟨y234, hy234⟩ : ∃ y_ : List (S40), y_ = (y231 ++ l0_2) := ⟨_, rfl⟩
   replace H : (if 0 ≤ a1 then (if a1 < (y234.length : Int) then (some (a0_0, a0_1, (y234.set (a1 : Int).toNat (⟨a2_0, a2_1, a2_2, a2_3, a2_4, a2_5, a2_6⟩ : S40)))) else (none)) else (none)) = some (r1, r2, r3) := by first | (rw [hy234]; with_reducible exact H) | (have H2_ := (Option.bind_some _ _).symm.trans H; rw [hy234]; with_reducible exact H2_) | (have H2_ := (Option.bind_some _ _).symm.trans H; with_reducible exact H2_) | with_reducible exact H | (rw [hy234]; exact H) | exact H
   have Ny234 := Aside0.mk hy234
   clear hy234
   by_cases c5 : 0 ≤ a1
   · rw [if_pos c5] at H
     have c5b0 : decide (0 ≤ a1) = true := decide_eq_true c5
     clear c5
     by_cases c6 : a1 < (y234.length : Int)
     · rw [if_pos c6] at H
       have c6b0 : decide (a1 < (y234.length : Int)) = true := decide_eq_true c6
       clear c6
       obtain ⟨y237, hy237⟩ : ∃ y_ : List (S40), y_ = (y234.set (a1 : Int).toNat (⟨a2_0, a2_1, a2_2, a2_3, a2_4, a2_5, a2_6⟩ : S40)) := ⟨_, rfl⟩
       replace H : (some (a0_0, a0_1, y237)) = some (r1, r2, r3) := by first | (rw [hy237]; with_reducible exact H) | (have H2_ := (Option.bind_some _ _).symm.trans H; rw [hy237]; with_reducible exact H2_) | (have H2_ := (Option.bind_some _ _).symm.trans H; with_reducible exact H2_) | with_reducible exact H | (rw [hy237]; exact H) | exact H
       have Ny237 := Aside0.mk hy237
       clear hy237
       simp only [Option.some.injEq, Prod.mk.injEq] at H
       obtain ⟨rfl, rfl, rfl⟩ := H
       go_enter Try.func33, Try.ntmps33
       go_wp2_with (first | ((with_reducible refine gate_dst (N := 3) rfl ?_); refine box_event ?hg (N := 3) ?hd (cs := #[.int .i64 a0_0, .bool a0_1, .slice A0_2 l0_2.length c0_2]) (t := 24) ?hr ?_; (case hd => rfl); (case hg => rfl); (case hr => first | (go_simp; done) | (go_simp; rfl)); intro gb228 hg w8 hbox hb; have n0_ := Aside0.mk (below_step (by repeat (first | (with_reducible first | exact HB.out | apply below_alloc | apply pw_below_drewN | apply below_drew1) | exact HB.out)) hb); have n1_ := Aside0.mk (hbox); have n2_ := Aside0.mk ((by rw [hg]; exact (below_size (by repeat (first | (with_reducible first | exact HB.out | apply below_alloc | apply pw_below_drewN | apply below_drew1) | exact HB.out))) : w.heap.size ≤ gb228)); have n3_ := Aside0.mk ((by rw [hg]; exact (below_size (by repeat (first | (with_reducible first | exact HB.out | apply below_alloc | apply pw_below_drewN | apply below_drew1) | exact HB.out))) : w.heap.size ≤ gb228)); clear HB; have HB := n0_; have BK228 := n1_; have GW228 := n2_; have GE228 := n3_; clear n0_ n1_ n2_ n3_; clear hb hbox hg) | ((with_reducible refine gate_dst (N := 5) rfl ?_); refine box_event ?hg (N := 5) ?hd (cs := #[.int .i64 a2_0, .int .i64 a2_1, .int .i64 a2_2, .int .i64 a2_3, .int .i64 a2_4, .int .i64 a2_5, .int .i64 a2_6]) (t := 40) ?hr ?_; (case hd => rfl); (case hg => rfl); (case hr => first | (go_simp; done) | (go_simp; rfl)); intro gb229 hg w9 hbox hb; have n0_ := Aside0.mk (blk_below (g := gb228) (o := .cells #[.int .i64 a0_0, .bool a0_1, .slice A0_2 l0_2.length c0_2] 24 (0, 0)) (by (with_reducible repeat (first | refine blk_drewN ?_ _ | refine blk_drew ?_ | refine blk_alloc ?_ _)); exact BK228.out) hb); have n1_ := Aside0.mk (below_step (by repeat (first | (with_reducible first | exact HB.out | apply below_alloc | apply pw_below_drewN | apply below_drew1 | refine below_set ?_ GE228.out) | exact HB.out)) hb); have n2_ := Aside0.mk (hbox); have n3_ := Aside0.mk ((by rw [hg]; exact (below_size (by repeat (first | (with_reducible first | exact HB.out | apply below_alloc | apply pw_below_drewN | apply below_drew1 | refine below_set ?_ GE228.out) | exact HB.out))) : w.heap.size ≤ gb229)); have n4_ := Aside0.mk ((by rw [hg]; exact (below_size (by repeat (first | (with_reducible first | exact HB.out | apply below_alloc | apply pw_below_drewN | apply below_drew1 | refine below_set ?_ GE228.out) | exact HB.out))) : w.heap.size ≤ gb229)); have n5_ := Aside0.mk ((by rw [hg]; exact Nat.ne_of_lt (blk_lt (g := gb228) (o := .cells #[.int .i64 a0_0, .bool a0_1, .slice A0_2 l0_2.length c0_2] 24 (0, 0)) (by (with_reducible repeat (first | refine blk_drewN ?_ _ | refine blk_drew ?_ | refine blk_alloc ?_ _)); exact BK228.out)) : gb228 ≠ gb229)); have n6_ := Aside0.mk ((by rw [hg]; exact Nat.ne_of_gt (blk_lt (g := gb228) (o := .cells #[.int .i64 a0_0, .bool a0_1, .slice A0_2 l0_2.length c0_2] 24 (0, 0)) (by (with_reducible repeat (first | refine blk_drewN ?_ _ | refine blk_drew ?_ | refine blk_alloc ?_ _)); exact BK228.out)) : gb229 ≠ gb228)); clear BK228; clear HB; have BK228 := n0_; have HB := n1_; have BK229 := n2_; have GW229 := n3_; have GE229 := n4_; have NB228_229 := n5_; have NB229_228 := n6_; clear n0_ n1_ n2_ n3_ n4_ n5_ n6_; clear hb hbox hg) | ((with_reducible refine gate_dst (N := 6) rfl ?_); refine box_event ?hg (N := 6) ?hd (cs := #[.int .i64 0, .bool false, .slice none 0 0]) (t := 24) ?hr ?_; (case hd => rfl); (case hg => rfl); (case hr => first | (go_simp; done) | (go_simp; rfl)); intro gb230 hg w10 hbox hb; have n0_ := Aside0.mk (blk_below (g := gb228) (o := .cells #[.int .i64 a0_0, .bool a0_1, .slice A0_2 l0_2.length c0_2] 24 (0, 0)) (by (with_reducible repeat (first | refine blk_drewN ?_ _ | refine blk_drew ?_ | refine blk_alloc ?_ _)); exact BK228.out) hb); have n1_ := Aside0.mk (blk_below (g := gb229) (o := .cells #[.int .i64 a2_0, .int .i64 a2_1, .int .i64 a2_2, .int .i64 a2_3, .int .i64 a2_4, .int .i64 a2_5, .int .i64 a2_6] 40 (0, 0)) (by (with_reducible repeat (first | refine blk_drewN ?_ _ | refine blk_drew ?_ | refine blk_alloc ?_ _)); exact BK229.out) hb); have n2_ := Aside0.mk (below_step (by repeat (first | (with_reducible first | exact HB.out | apply below_alloc | apply pw_below_drewN | apply below_drew1 | refine below_set ?_ GE228.out | refine below_set ?_ GE229.out) | exact HB.out)) hb); have n3_ := Aside0.mk (hbox); have n4_ := Aside0.mk ((by rw [hg]; exact (below_size (by repeat (first | (with_reducible first | exact HB.out | apply below_alloc | apply pw_below_drewN | apply below_drew1 | refine below_set ?_ GE228.out | refine below_set ?_ GE229.out) | exact HB.out))) : w.heap.size ≤ gb230)); have n5_ := Aside0.mk ((by rw [hg]; exact (below_size (by repeat (first | (with_reducible first | exact HB.out | apply below_alloc | apply pw_below_drewN | apply below_drew1 | refine below_set ?_ GE228.out | refine below_set ?_ GE229.out) | exact HB.out))) : w.heap.size ≤ gb230)); have n6_ := Aside0.mk ((by rw [hg]; exact Nat.ne_of_lt (blk_lt (g := gb228) (o := .cells #[.int .i64 a0_0, .bool a0_1, .slice A0_2 l0_2.length c0_2] 24 (0, 0)) (by (with_reducible repeat (first | refine blk_drewN ?_ _ | refine blk_drew ?_ | refine blk_alloc ?_ _)); exact BK228.out)) : gb228 ≠ gb230)); have n7_ := Aside0.mk ((by rw [hg]; exact Nat.ne_of_gt (blk_lt (g := gb228) (o := .cells #[.int .i64 a0_0, .bool a0_1, .slice A0_2 l0_2.length c0_2] 24 (0, 0)) (by (with_reducible repeat (first | refine blk_drewN ?_ _ | refine blk_drew ?_ | refine blk_alloc ?_ _)); exact BK228.out)) : gb230 ≠ gb228)); have n8_ := Aside0.mk ((by rw [hg]; exact Nat.ne_of_lt (blk_lt (g := gb229) (o := .cells #[.int .i64 a2_0, .int .i64 a2_1, .int .i64 a2_2, .int .i64 a2_3, .int .i64 a2_4, .int .i64 a2_5, .int .i64 a2_6] 40 (0, 0)) (by (with_reducible repeat (first | refine blk_drewN ?_ _ | refine blk_drew ?_ | refine blk_alloc ?_ _)); exact BK229.out)) : gb229 ≠ gb230)); have n9_ := Aside0.mk ((by rw [hg]; exact Nat.ne_of_gt (blk_lt (g := gb229) (o := .cells #[.int .i64 a2_0, .int .i64 a2_1, .int .i64 a2_2, .int .i64 a2_3, .int .i64 a2_4, .int .i64 a2_5, .int .i64 a2_6] 40 (0, 0)) (by (with_reducible repeat (first | refine blk_drewN ?_ _ | refine blk_drew ?_ | refine blk_alloc ?_ _)); exact BK229.out)) : gb230 ≠ gb229)); clear BK228; clear BK229; clear HB; have BK228 := n0_; have BK229 := n1_; have HB := n2_; have BK230 := n3_; have GW230 := n4_; have GE230 := n5_; have NB228_230 := n6_; have NB230_228 := n7_; have NB229_230 := n8_; have NB230_229 := n9_; clear n0_ n1_ n2_ n3_ n4_ n5_ n6_ n7_ n8_ n9_; clear hb hbox hg) | ((with_reducible refine gate_dst (N := 7) rfl ?_); refine Kd.R_lit k40 _ 40 ?hg (N := 7) ?hd (xs := ([] : List (S40))) (inner := []) (ok := fun _ => True) (okp := fun _ => True) ?hr ?hp (fun _ hk => hk) trivial (Below.refl _ _) (Nat.le_refl _) (by simp) ?_; (case hd => rfl); (case hg => rfl); (case hr => first | (go_simp; done) | (go_simp; rfl)); (case hp => exact (Reps.none _ _)); intro v232 w11 ho12 hb hg_ hnew_; clear hg_ hnew_; (first | rw [← Ny231.out] at ho12 | (simp only [Int.reduceToNat] at ho12; rw [← Ny231.out] at ho12)); have n0_ := Aside0.mk (Kd.R_lower (Kd.R_newB ho12 (g := gb229) (o := .cells #[.int .i64 a2_0, .int .i64 a2_1, .int .i64 a2_2, .int .i64 a2_3, .int .i64 a2_4, .int .i64 a2_5, .int .i64 a2_6] 40 (0, 0)) (by (with_reducible repeat (first | refine blk_drewN ?_ _ | refine blk_drew ?_ | refine blk_alloc ?_ _)); exact BK229.out)) (below_size (by repeat (first | (with_reducible first | exact HB.out | apply below_alloc | apply pw_below_drewN | apply below_drew1 | refine below_set ?_ GE228.out | refine below_set ?_ GE229.out | refine below_set ?_ GE230.out) | exact HB.out)))); have n1_ := Aside0.mk (blk_below (g := gb228) (o := .cells #[.int .i64 a0_0, .bool a0_1, .slice A0_2 l0_2.length c0_2] 24 (0, 0)) (by (with_reducible repeat (first | refine blk_drewN ?_ _ | refine blk_drew ?_ | refine blk_alloc ?_ _)); exact BK228.out) hb); have n2_ := Aside0.mk (blk_below (g := gb229) (o := .cells #[.int .i64 a2_0, .int .i64 a2_1, .int .i64 a2_2, .int .i64 a2_3, .int .i64 a2_4, .int .i64 a2_5, .int .i64 a2_6] 40 (0, 0)) (by (with_reducible repeat (first | refine blk_drewN ?_ _ | refine blk_drew ?_ | refine blk_alloc ?_ _)); exact BK229.out) hb); have n3_ := Aside0.mk (blk_below (g := gb230) (o := .cells #[.int .i64 0, .bool false, .slice none 0 0] 24 (0, 0)) (by (with_reducible repeat (first | refine blk_drewN ?_ _ | refine blk_drew ?_ | refine blk_alloc ?_ _)); exact BK230.out) hb); have n4_ := Aside0.mk (below_step (by repeat (first | (with_reducible first | exact HB.out | apply below_alloc | apply pw_below_drewN | apply below_drew1 | refine below_set ?_ GE228.out | refine below_set ?_ GE229.out | refine below_set ?_ GE230.out) | exact HB.out)) hb); clear BK228; clear BK229; clear BK230; clear HB; have HO233 := n0_; have BK228 := n1_; have BK229 := n2_; have BK230 := n3_; have HB := n4_; clear n0_ n1_ n2_ n3_ n4_; clear hb ho12; have hnb13 := NB228_229.out; have hnc13 := NB229_228.out; have hnb14 := NB228_230.out; have hnc14 := NB230_228.out; obtain ⟨hcz15_0, hcz15_1, hcz15_2⟩ := cel3 BK228.out; obtain ⟨hfz15_0, hfz15_1, hfz15_2⟩ := frz3 BK228.out) | ((with_reducible refine gate_builtin (b := .append) (xs := #[.tmp 7, .tmp 9]) rfl ?_); at_builtin; refine Kd.R_append_rows k40 (w0 := w) w.heap.size rfl (.tmp 7) (.tmp 9) 22 40 (.agg #[(.int .i64 0), (.int .i64 0), (.int .i64 0), (.int .i64 0), (.int .i64 0), (.int .i64 0), (.int .i64 0)]) 56 rfl Try.underlying22 info40 rfl (by decide) (by omega) v232 y231 l0_2 _ _ _ (fun k_ => k_ ≠ gb229) (fun _ => False) rfl rfl ?aO ?aR (fun _ _ h => h) (fun _ h => h.elim) ?aF ?aB ?aS ?aL ?_; (case aR => repeat (first | exact (Kd.C_below HR0_2.out HB.out) | (with_reducible refine Kd.C_alloc ?_ _) | (with_reducible refine Kd.C_drewN ?_ _) | (with_reducible refine Kd.C_drew ?_))); (case aB => exact (by repeat (first | (with_reducible first | exact HB.out | apply below_alloc | apply pw_below_drewN | apply below_drew1 | refine below_set ?_ GE228.out | refine below_set ?_ GE229.out | refine below_set ?_ GE230.out) | exact HB.out))); (case aF => exact (fun k_ hk => Kd.freshB (g := gb229) (o := .cells #[.int .i64 a2_0, .int .i64 a2_1, .int .i64 a2_2, .int .i64 a2_3, .int .i64 a2_4, .int .i64 a2_5, .int .i64 a2_6] 40 (0, 0)) (by (with_reducible repeat (first | refine blk_drewN ?_ _ | refine blk_drew ?_ | refine blk_alloc ?_ _)); exact BK229.out) k_ hk)); (case aO => exact (by (with_reducible repeat (first | apply Kd.R_alloc | apply Kd.R_drewN | apply Kd.R_drew)); exact Kd.R_mono HO233.out (fun _ hk => hk.2))); (case aS => exact (below_size (by repeat (first | (with_reducible first | exact HB.out | apply below_alloc | apply pw_below_drewN | apply below_drew1 | refine below_set ?_ GE228.out | refine below_set ?_ GE229.out | refine below_set ?_ GE230.out) | exact HB.out)))); (case aL => have := LMc4.out; omega); intro v235 w16 ho hb hg hat; rw [← Ny234.out] at ho; have n0_ := Aside0.mk (blk_grown (g := gb228) (o := .cells #[.int .i64 a0_0, .bool a0_1, .slice A0_2 l0_2.length c0_2] 24 (0, 0)) (by (with_reducible repeat (first | refine blk_drewN ?_ _ | refine blk_drew ?_ | refine blk_alloc ?_ _)); exact BK228.out) hg (Kd.R_ne HO233.out BK228.out (by decide))); have n1_ := Aside0.mk (blk_grown (g := gb229) (o := .cells #[.int .i64 a2_0, .int .i64 a2_1, .int .i64 a2_2, .int .i64 a2_3, .int .i64 a2_4, .int .i64 a2_5, .int .i64 a2_6] 40 (0, 0)) (by (with_reducible repeat (first | refine blk_drewN ?_ _ | refine blk_drew ?_ | refine blk_alloc ?_ _)); exact BK229.out) hg (Kd.R_away HO233.out (fun _ hk => hk.2))); have n2_ := Aside0.mk (blk_grown (g := gb230) (o := .cells #[.int .i64 0, .bool false, .slice none 0 0] 24 (0, 0)) (by (with_reducible repeat (first | refine blk_drewN ?_ _ | refine blk_drew ?_ | refine blk_alloc ?_ _)); exact BK230.out) hg (Kd.R_ne HO233.out BK230.out (by decide))); have n3_ := Aside0.mk (hb); have n4_ := Aside0.mk (ho); clear BK228; clear BK229; clear BK230; clear HB; clear HO233; have BK228 := n0_; have BK229 := n1_; have BK230 := n2_; have HB := n3_; have HO236 := n4_; clear n0_ n1_ n2_ n3_ n4_; clear ho hb hg hat; obtain ⟨Ao17, co17, eo17⟩ := Kd.R_slice HO236.out; subst eo17; obtain ⟨hcz18_0, hcz18_1, hcz18_2⟩ := cel3 BK228.out; obtain ⟨hfz18_0, hfz18_1, hfz18_2⟩ := frz3 BK228.out) | ((with_reducible refine gate_store (t := 22) (p := 11) rfl ?_); refine store_event (t := 22) (p := 11) (v := ?vo_w19) (w1 := (w16.setCell ⟨gb228, 2, none⟩ (.slice Ao17 y234.length co17))) ?hg ?ho ?hn ?hr ?_; (case ho => rfl); (case hg => rfl); (case hn => rfl); (case hr => first | (go_simp; done) | (go_simp; rfl)); intro w19 hw; have n0_ : Aside0 (Kd.R k40 40 w19 w.heap.size (fun k_ => k_ ≠ gb229) (.slice Ao17 y234.length co17) y234) := ⟨(by rw [hw]; exact (by (with_reducible repeat (first | apply Kd.R_alloc | apply Kd.R_drewN | apply Kd.R_drew)); exact Kd.R_mono (Kd.R_far (p := ⟨gb228, 2, none⟩) (Kd.R_types HO236.out BK228.out (by decide)) (fun _ hk => hk.2) (.slice Ao17 y234.length co17)) (fun _ hk => hk.1)))⟩; have n1_ : Aside0 (w19.heap[gb228]? = some (.cells #[.int .i64 a0_0, .bool a0_1, .slice Ao17 y234.length co17] 24 (0, 0))) := ⟨(by rw [hw]; exact (by (with_reducible repeat (first | refine blk_drewN ?_ _ | refine blk_drew ?_ | refine blk_alloc ?_ _)); refine blk_put (cs := #[.int .i64 a0_0, .bool a0_1, .slice A0_2 l0_2.length c0_2]) ?_ 2 _ rfl; (with_reducible repeat (first | refine blk_drewN ?_ _ | refine blk_drew ?_ | refine blk_alloc ?_ _)); exact BK228.out))⟩; have n2_ : Aside0 (w19.heap[gb229]? = some (.cells #[.int .i64 a2_0, .int .i64 a2_1, .int .i64 a2_2, .int .i64 a2_3, .int .i64 a2_4, .int .i64 a2_5, .int .i64 a2_6] 40 (0, 0))) := ⟨(by rw [hw]; exact (by (with_reducible repeat (first | refine blk_drewN ?_ _ | refine blk_drew ?_ | refine blk_alloc ?_ _)); refine blk_far ?_ NB229_228.out _; (with_reducible repeat (first | refine blk_drewN ?_ _ | refine blk_drew ?_ | refine blk_alloc ?_ _)); exact BK229.out))⟩; have n3_ : Aside0 (w19.heap[gb230]? = some (.cells #[.int .i64 0, .bool false, .slice none 0 0] 24 (0, 0))) := ⟨(by rw [hw]; exact (by (with_reducible repeat (first | refine blk_drewN ?_ _ | refine blk_drew ?_ | refine blk_alloc ?_ _)); refine blk_far ?_ NB230_228.out _; (with_reducible repeat (first | refine blk_drewN ?_ _ | refine blk_drew ?_ | refine blk_alloc ?_ _)); exact BK230.out))⟩; have n4_ : Aside0 (Below w.heap.size w w19) := ⟨(by rw [hw]; exact (by repeat (first | (with_reducible first | exact HB.out | apply below_alloc | apply pw_below_drewN | apply below_drew1 | refine below_set ?_ GE228.out | refine below_set ?_ GE229.out | refine below_set ?_ GE230.out) | exact HB.out)))⟩; clear hw; clear HO236; clear BK228; clear BK229; clear BK230; clear HB; have HO236 := n0_; have BK228 := n1_; have BK229 := n2_; have BK230 := n3_; have HB := n4_; clear n0_ n1_ n2_ n3_ n4_; obtain ⟨hcz20_0, hcz20_1, hcz20_2⟩ := cel3 BK228.out; obtain ⟨hfz20_0, hfz20_1, hfz20_2⟩ := frz3 BK228.out; have hnb21 := NB229_230.out; have hnc21 := NB230_229.out; obtain ⟨hcz22_0, hcz22_1, hcz22_2, hcz22_3, hcz22_4, hcz22_5, hcz22_6⟩ := cel7 BK229.out; obtain ⟨hfz22_0, hfz22_1, hfz22_2, hfz22_3, hfz22_4, hfz22_5, hfz22_6⟩ := frz7 BK229.out; have p7 : 0 ≤ (a1 : Int) := of_decide_eq_true (by first | (with_reducible assumption) | assumption); have q7 : (a1 : Int) < ((y234.length : Int) : Int) := of_decide_eq_true (by first | (with_reducible assumption) | assumption); obtain ⟨go7, co7, eo7, gb7, gl7, cl7, HG7⟩ := Kd.R_form HO236.out (by omega); (first | cases eo7 | (injection eo7 with ea_ en_ ec_; (first | subst ea_ | (injection ea_ with ea_; subst ea_)); subst ec_; clear en_)); have GB7 := Aside0.mk gb7; have GG7 := Aside0.mk HG7; clear gb7 gl7 HG7; obtain ⟨ce7, hcl7, hM7, hcc7, hfr7⟩ := Kd.R_elem HO236.out z40 (a1 : Int) p7 q7; obtain rfl := k40_openM hM7; have hx7_0 : w19.cell? ⟨go7, (a1 : Int).toNat * 7, none⟩ = some (.int .i64 ((rd_T40 y234 a1).f0)) := hcc7 0 _ rfl; have hx7_1 : w19.cell? ⟨go7, (a1 : Int).toNat * 7 + 1, none⟩ = some (.int .i64 ((rd_T40 y234 a1).f1)) := hcc7 1 _ rfl; have hx7_2 : w19.cell? ⟨go7, (a1 : Int).toNat * 7 + 2, none⟩ = some (.int .i64 ((rd_T40 y234 a1).f2)) := hcc7 2 _ rfl; have hx7_3 : w19.cell? ⟨go7, (a1 : Int).toNat * 7 + 3, none⟩ = some (.int .i64 ((rd_T40 y234 a1).f3)) := hcc7 3 _ rfl; have hx7_4 : w19.cell? ⟨go7, (a1 : Int).toNat * 7 + 4, none⟩ = some (.int .i64 ((rd_T40 y234 a1).f4)) := hcc7 4 _ rfl; have hx7_5 : w19.cell? ⟨go7, (a1 : Int).toNat * 7 + 5, none⟩ = some (.int .i64 ((rd_T40 y234 a1).f5)) := hcc7 5 _ rfl; have hx7_6 : w19.cell? ⟨go7, (a1 : Int).toNat * 7 + 6, none⟩ = some (.int .i64 ((rd_T40 y234 a1).f6)) := hcc7 6 _ rfl; have hf7_0 : w19.frozen? ⟨go7, (a1 : Int).toNat * 7, none⟩ = false := hfr7 0; have hf7_1 : w19.frozen? ⟨go7, (a1 : Int).toNat * 7 + 1, none⟩ = false := hfr7 1; have hf7_2 : w19.frozen? ⟨go7, (a1 : Int).toNat * 7 + 2, none⟩ = false := hfr7 2; have hf7_3 : w19.frozen? ⟨go7, (a1 : Int).toNat * 7 + 3, none⟩ = false := hfr7 3; have hf7_4 : w19.frozen? ⟨go7, (a1 : Int).toNat * 7 + 4, none⟩ = false := hfr7 4; have hf7_5 : w19.frozen? ⟨go7, (a1 : Int).toNat * 7 + 5, none⟩ = false := hfr7 5; have hf7_6 : w19.frozen? ⟨go7, (a1 : Int).toNat * 7 + 6, none⟩ = false := hfr7 6; clear hcl7 hcc7 hfr7 hM7; replace p7 := eq_true p7; replace q7 := eq_true q7; have HX23 := Aside0.mk (show Kd.R k40 40 w19 w.heap.size (fun k_ => k_ ≠ gb229) (.slice (some ⟨go7, 0, none⟩) y234.length co17) y234 from (by (with_reducible repeat (first | apply Kd.R_alloc | apply Kd.R_drewN | apply Kd.R_drew)); exact HO236.out)); obtain ⟨ce23, hcl23, hM23, hcc23, hfr23⟩ := Kd.R_elem HX23.out z40 (a1 : Int) (of_decide_eq_true (by first | (with_reducible assumption) | assumption)) (by have h_ : (a1 : Int) < ((y234.length : Int) : Int) := of_decide_eq_true (by first | (with_reducible assumption) | assumption); first | exact h_ | (have e_ := (Kd.R_reads' HO236.out).1; omega) | simpa using h_); obtain rfl := k40_openM hM23; have HP23 := Kd.R_seg HX23.out (a1 : Int) (of_decide_eq_true (by first | (with_reducible assumption) | assumption)) (by have h_ : (a1 : Int) < ((y234.length : Int) : Int) := of_decide_eq_true (by first | (with_reducible assumption) | assumption); first | exact h_ | (have e_ := (Kd.R_reads' HO236.out).1; omega) | simpa using h_) (seg := [.int .i64 a2_0, .int .i64 a2_1, .int .i64 a2_2, .int .i64 a2_3, .int .i64 a2_4, .int .i64 a2_5, .int .i64 a2_6]) (j := 0) hcl23 hcc23 (show 7 ≤ 7 from by decide) (x' := (⟨a2_0, a2_1, a2_2, a2_3, a2_4, a2_5, a2_6⟩ : S40)) (k40_mkM _ _ _ (⟨a2_0, a2_1, a2_2, a2_3, a2_4, a2_5, a2_6⟩ : S40) ) (fun _ hk => hk); have hx23_0 := hcc23 0 _ rfl; (try simp only [show (k40).sz = 7 from rfl, Nat.mul_one, Nat.add_zero] at hx23_0); have hf23_0 := hfr23 0; (try simp only [show (k40).sz = 7 from rfl, Nat.mul_one, Nat.add_zero] at hf23_0); have hx23_1 := hcc23 1 _ rfl; (try simp only [show (k40).sz = 7 from rfl, Nat.mul_one, Nat.add_zero] at hx23_1); have hf23_1 := hfr23 1; (try simp only [show (k40).sz = 7 from rfl, Nat.mul_one, Nat.add_zero] at hf23_1); have hx23_2 := hcc23 2 _ rfl; (try simp only [show (k40).sz = 7 from rfl, Nat.mul_one, Nat.add_zero] at hx23_2); have hf23_2 := hfr23 2; (try simp only [show (k40).sz = 7 from rfl, Nat.mul_one, Nat.add_zero] at hf23_2); have hx23_3 := hcc23 3 _ rfl; (try simp only [show (k40).sz = 7 from rfl, Nat.mul_one, Nat.add_zero] at hx23_3); have hf23_3 := hfr23 3; (try simp only [show (k40).sz = 7 from rfl, Nat.mul_one, Nat.add_zero] at hf23_3); have hx23_4 := hcc23 4 _ rfl; (try simp only [show (k40).sz = 7 from rfl, Nat.mul_one, Nat.add_zero] at hx23_4); have hf23_4 := hfr23 4; (try simp only [show (k40).sz = 7 from rfl, Nat.mul_one, Nat.add_zero] at hf23_4); have hx23_5 := hcc23 5 _ rfl; (try simp only [show (k40).sz = 7 from rfl, Nat.mul_one, Nat.add_zero] at hx23_5); have hf23_5 := hfr23 5; (try simp only [show (k40).sz = 7 from rfl, Nat.mul_one, Nat.add_zero] at hf23_5); have hx23_6 := hcc23 6 _ rfl; (try simp only [show (k40).sz = 7 from rfl, Nat.mul_one, Nat.add_zero] at hx23_6); have hf23_6 := hfr23 6; (try simp only [show (k40).sz = 7 from rfl, Nat.mul_one, Nat.add_zero] at hf23_6); clear hcl23 hcc23 hfr23 hM23) | ((with_reducible refine gate_store (t := 40) (p := 16) rfl ?_); refine store_event (t := 40) (p := 16) (v := ?vo_w24) (w1 := (((((((w19.setCell ⟨go7, (a1 : Int).toNat * 7, none⟩ (.int .i64 a2_0)).setCell ⟨go7, (a1 : Int).toNat * 7 + 1, none⟩ (.int .i64 a2_1)).setCell ⟨go7, (a1 : Int).toNat * 7 + 2, none⟩ (.int .i64 a2_2)).setCell ⟨go7, (a1 : Int).toNat * 7 + 3, none⟩ (.int .i64 a2_3)).setCell ⟨go7, (a1 : Int).toNat * 7 + 4, none⟩ (.int .i64 a2_4)).setCell ⟨go7, (a1 : Int).toNat * 7 + 5, none⟩ (.int .i64 a2_5)).setCell ⟨go7, (a1 : Int).toNat * 7 + 6, none⟩ (.int .i64 a2_6))) ?hg ?ho ?hn ?hr ?_; (case ho => rfl); (case hg => rfl); (case hn => rfl); (case hr => first | (go_simp; done) | (go_simp; rfl)); intro w24 hw; have hg : w19.grownBy w24 (some go7) := (by rw [hw]; exact HP23.2); have hp_ : Kd.R k40 40 w24 w.heap.size (fun k_ => k_ ≠ gb229) (.slice (some ⟨go7, 0, none⟩) y234.length co17) y237 := (by rw [hw, Ny237.out]; exact HP23.1); clear HP23; have n0_ := Aside0.mk (blk_grown (g := gb228) (o := .cells #[.int .i64 a0_0, .bool a0_1, .slice (some ⟨go7, 0, none⟩) y234.length co17] 24 (0, 0)) (by (with_reducible repeat (first | refine blk_drewN ?_ _ | refine blk_drew ?_ | refine blk_alloc ?_ _)); exact BK228.out) hg (Kd.R_ne HO236.out BK228.out (by decide))); have n1_ := Aside0.mk (blk_grown (g := gb229) (o := .cells #[.int .i64 a2_0, .int .i64 a2_1, .int .i64 a2_2, .int .i64 a2_3, .int .i64 a2_4, .int .i64 a2_5, .int .i64 a2_6] 40 (0, 0)) (by (with_reducible repeat (first | refine blk_drewN ?_ _ | refine blk_drew ?_ | refine blk_alloc ?_ _)); exact BK229.out) hg (Kd.R_away HO236.out (fun _ hk => hk))); have n2_ := Aside0.mk (blk_grown (g := gb230) (o := .cells #[.int .i64 0, .bool false, .slice none 0 0] 24 (0, 0)) (by (with_reducible repeat (first | refine blk_drewN ?_ _ | refine blk_drew ?_ | refine blk_alloc ?_ _)); exact BK230.out) hg (Kd.R_ne HO236.out BK230.out (by decide))); have n3_ := Aside0.mk (hp_); have n4_ := Aside0.mk ((by rw [hw]; exact below_set (below_set (below_set (below_set (below_set (below_set (below_set (HB.out) GB7.out) GB7.out) GB7.out) GB7.out) GB7.out) GB7.out) GB7.out : Below w.heap.size w w24)); clear BK228; clear BK229; clear BK230; clear HO236; clear HB; have BK228 := n0_; have BK229 := n1_; have BK230 := n2_; have HO236 := n3_; have HB := n4_; clear n0_ n1_ n2_ n3_ n4_; clear hg hw hp_; obtain ⟨hcz25_0, hcz25_1, hcz25_2⟩ := cel3 BK228.out; obtain ⟨hfz25_0, hfz25_1, hfz25_2⟩ := frz3 BK228.out; obtain ⟨hcz26_0, hcz26_1, hcz26_2⟩ := cel3 BK230.out; obtain ⟨hfz26_0, hfz26_1, hfz26_2⟩ := frz3 BK230.out))
       refine bodyPost_ret (results_cell_row rfl _ _ gb230 24 #[.int .i64 a0_0, .bool a0_1, .slice (some ⟨go7, 0, none⟩) y234.length co17] (0, 0) _ rfl (by (with_reducible repeat (first | refine blk_drewN ?_ _ | refine blk_drew ?_ | refine blk_alloc ?_ _)); refine blk_put (cs := #[.int .i64 a0_0, .bool a0_1, .slice none 0 0]) ?_ 2 _ rfl; (with_reducible repeat (first | refine blk_drewN ?_ _ | refine blk_drew ?_ | refine blk_alloc ?_ _)); refine blk_put (cs := #[.int .i64 a0_0, .bool false, .slice none 0 0]) ?_ 1 _ rfl; (with_reducible repeat (first | refine blk_drewN ?_ _ | refine blk_drew ?_ | refine blk_alloc ?_ _)); refine blk_put (cs := #[.int .i64 0, .bool false, .slice none 0 0]) ?_ 0 _ rfl; (with_reducible repeat (first | refine blk_drewN ?_ _ | refine blk_drew ?_ | refine blk_alloc ?_ _)); exact BK230.out) Try.underlying24 rfl (by kernel_rfl)) rfl ?_
       exact ⟨_, by first | rfl | (simp [errW_none, errW_some] <;> rfl) | (simp [*, errW_none, errW_some] <;> rfl), by (with_reducible repeat (first | apply Kd.R_alloc | apply Kd.R_drewN | apply Kd.R_drew)); exact Kd.R_mono (Kd.R_far (p := ⟨gb230, 2, none⟩) (Kd.R_far (p := ⟨gb230, 1, none⟩) (Kd.R_far (p := ⟨gb230, 0, none⟩) (Kd.R_types HO236.out BK230.out (by decide)) (fun _ hk => hk.2) (.int .i64 a0_0)) (fun _ hk => hk.2) (.bool a0_1)) (fun _ hk => hk.2) (.slice (some ⟨go7, 0, none⟩) y234.length co17)) (fun _ hk => trivial), by repeat (first | (with_reducible first | exact HB.out | apply below_alloc | apply pw_below_drewN | apply below_drew1 | refine below_set ?_ GE228.out | refine below_set ?_ GE229.out | refine below_set ?_ GE230.out) | exact HB.out)⟩
     · rw [if_neg c6] at H
       exact absurd H (by simp)
   · rw [if_neg c5] at H
     exact absurd H (by simp)
 · rw [if_neg c4] at H
   exact absurd H (by simp)
end Go.Proofs.Ytjhepdcdhabcjaa.G
