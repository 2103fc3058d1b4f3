/- Texts of one claim, merged by a program of this session; what is proved stands in the last of them. -/
import Derived.ChangeArms
import Derived.Deep.Slices
import Derived.Test.YtjhepdcdhabcjaaKa1
import Derived.Test.YtjhepdcdhabcjaaKa3
import Derived.Test.YtjhepdcdhabcjaaKa6
namespace Go.Proofs.Ytjhepdcdhabcjaa.G
open Go.RowKit Go.Proofs.YtjhepdcdhabcjaaW.PrintWords Go.Proofs.YtjhepdcdhabcjaaW.PrintLast Go.Proofs.YtjhepdcdhabcjaaW.PrintMore
attribute [local go_sem] max2_int min2_int max_two min_two max_three min_three max_four min_four   -- for this text's walks alone
set_option linter.unusedVariables false
set_option linter.unusedSimpArgs false
def masterdisclaw14_TocOperations.f (k : Nat) (a0 : Int) (a1_0 : Int) (a1_1 : Bool) (l1_2 : List (S40)) (a2_0 : Int) (a2_1 : Int) (a2_2 : Int) (a2_3 : Bool) : Option (Bool) := (masterdisclaw14_awake.f k).bind fun t302 => (if t302 = true then ((masterdiscref14_Few.f k a1_0 a1_1 l1_2).bind fun t303 => (if t303 = true then ((masterdisclaw14_do.f k a0 a1_0 a1_1 l1_2 a2_0 a2_1 a2_2 a2_3).bind fun bt304 => ((masterdiscref14_Do.f k a0 a1_0 a1_1 l1_2 a2_0 a2_1 a2_2 a2_3).bind fun bt311 => ((toc_Valid.f a0 a1_0 a1_1 l1_2).bind fun t318 => ((masterdiscref14_Valid.f a0 a1_0 a1_1 l1_2).bind fun t319 => (if (t318 == t319) = true then ((masterdiscref14_Same.f k bt304.1 bt304.2.1 bt304.2.2.1 bt311.1 bt311.2.1 bt311.2.2.1).bind fun t320 => (if t320 = true then (some (bt304.2.2.2 == bt311.2.2.2)) else (none))) else (none)))))) else (some true))) else (none))
theorem masterdisclaw14_TocOperations.mono : ∀ a0 a1 a2 a3 a4 a5 a6 a7 k, LeO (masterdisclaw14_TocOperations.f k a0 a1 a2 a3 a4 a5 a6 a7) (masterdisclaw14_TocOperations.f (k + 1) a0 a1 a2 a3 a4 a5 a6 a7) := by
 intro a0 a1 a2 a3 a4 a5 a6 a7 k
 unfold masterdisclaw14_TocOperations.f
 repeat' first
  | (with_reducible exact masterdisclaw14_awake.mono _)
  | (with_reducible exact masterdisclaw14_do.mono _ _ _ _ _ _ _ _ _)
  | (with_reducible exact masterdiscref14_Do.mono _ _ _ _ _ _ _ _ _)
  | (with_reducible exact masterdiscref14_Few.mono _ _ _ _)
  | (with_reducible exact masterdiscref14_Same.mono _ _ _ _ _ _ _)
  | (with_reducible exact LeO.refl _)
  | (with_reducible exact LeO.none _)
  | (with_reducible refine LeO.ite ?_ ?_)
  | (with_reducible refine LeO.bind ?_ (fun _ => ?_))
  | exact masterdisclaw14_awake.mono _
  | exact masterdisclaw14_do.mono _ _ _ _ _ _ _ _ _
  | exact masterdiscref14_Do.mono _ _ _ _ _ _ _ _ _
  | exact masterdiscref14_Few.mono _ _ _ _
  | exact masterdiscref14_Same.mono _ _ _ _ _ _ _
  | exact LeO.none _
  | refine LeO.ite ?_ ?_
  | refine LeO.bind ?_ (fun _ => ?_)
def masterdisclaw14_TocOperations.T7 : Bool × List (List Nat × List Nat) := (true, [([], []), ([], []), ([0, 1], [0, 1]), ([], []), ([], []), ([3, 4, 2], [3, 4]), ([2, 5], [2, 5]), ([6, 5], [6]), ([7], [7]), ([7], [7]), ([8, 9, 7, 7], [7, 8, 9]), ([7, 10], [7, 10]), ([11, 10], [11]), ([12], [12]), ([12], [12]), ([13, 14, 12], [12, 13, 14]), ([12, 15], [12, 15]), ([16, 12, 0, 1, 2, 3, 4, 5, 6, 7, 8, 9, 10, 11, 12, 13, 14, 15, 16], [16])])
def masterdisclaw14_TocOperations.B7 : List Nat := [0, 0, 3, 0, 0, 31, 63, 127, 255, 255, 1023, 2047, 4095, 8191, 8191, 32767, 65535, 131071]
theorem masterdisclaw14_TocOperations.tab7 : rtab .any (opsOf Try.f3 7) = masterdisclaw14_TocOperations.T7 := by kernel_rfl
theorem masterdisclaw14_TocOperations.bits7 : waitsOk masterdisclaw14_TocOperations.T7.2 masterdisclaw14_TocOperations.B7 = true := by kernel_rfl
set_option maxHeartbeats 8000000 in
set_option maxRecDepth 100000 in
theorem masterdisclaw14_TocOperations.calls (k : Nat) (a0 : Int) (a1_0 : Int) (a1_1 : Bool) (A1_2 : Option Addr) (c1_2 : Nat) (l1_2 : List (S40)) (a2_0 : Int) (a2_1 : Int) (a2_2 : Int) (a2_3 : Bool) (r : Bool) (w : World) (hr1_2 : Kd.C k40 w A1_2 l1_2.length l1_2) (hc1_2 : l1_2.length ≤ c1_2) (h : masterdisclaw14_TocOperations.f k a0 a1_0 a1_1 l1_2 a2_0 a2_1 a2_2 a2_3 = some r) :
 Calls Try.prog 3 #[.int .i64 a0, .agg #[.int .i64 a1_0, .bool a1_1, .slice A1_2 l1_2.length c1_2], .agg #[.int .i64 a2_0, .int .i64 a2_1, .int .i64 a2_2, .bool a2_3]] w fun e w' => e = .returned (.bool r) ∧ Below w.heap.size w w' := by
 have hu24 := Try.underlying24
 have hu26 := Try.underlying26
 have HR1_2 := Aside0.mk hr1_2
 have HC1_2 := Aside0.mk hc1_2
 clear hr1_2 hc1_2
 have HB := Aside0.mk (Below.refl w.heap.size w)
 have H : ((masterdisclaw14_awake.f k).bind fun t302 => (if t302 = true then ((masterdiscref14_Few.f k a1_0 a1_1 l1_2).bind fun t303 => (if t303 = true then ((masterdisclaw14_do.f k a0 a1_0 a1_1 l1_2 a2_0 a2_1 a2_2 a2_3).bind fun bt304 => ((masterdiscref14_Do.f k a0 a1_0 a1_1 l1_2 a2_0 a2_1 a2_2 a2_3).bind fun bt311 => ((toc_Valid.f a0 a1_0 a1_1 l1_2).bind fun t318 => ((masterdiscref14_Valid.f a0 a1_0 a1_1 l1_2).bind fun t319 => (if (t318 == t319) = true then ((masterdiscref14_Same.f k bt304.1 bt304.2.1 bt304.2.2.1 bt311.1 bt311.2.1 bt311.2.2.1).bind fun t320 => (if t320 = true then (some (bt304.2.2.2 == bt311.2.2.2)) else (none))) else (none)))))) else (some true))) else (none))) = some r := h
 clear h
 replace H := Option.bind_eq_some_iff.mp H
 obtain ⟨t302, A40, H⟩ := H
 replace H : (if t302 = true then ((masterdiscref14_Few.f k a1_0 a1_1 l1_2).bind fun t303 => (if t303 = true then ((masterdisclaw14_do.f k a0 a1_0 a1_1 l1_2 a2_0 a2_1 a2_2 a2_3).bind fun bt304 => ((masterdiscref14_Do.f k a0 a1_0 a1_1 l1_2 a2_0 a2_1 a2_2 a2_3).bind fun bt311 => ((toc_Valid.f a0 a1_0 a1_1 l1_2).bind fun t318 => ((masterdiscref14_Valid.f a0 a1_0 a1_1 l1_2).bind fun t319 => (if (t318 == t319) = true then ((masterdiscref14_Same.f k bt304.1 bt304.2.1 bt304.2.2.1 bt311.1 bt311.2.1 bt311.2.2.1).bind fun t320 => (if t320 = true then (some (bt304.2.2.2 == bt311.2.2.2)) else (none))) else (none)))))) else (some true))) else (none)) = some r := H
 have A4 := Aside0.mk A40
 clear A40
 by_cases c5 : t302 = true
 · subst c5
   have H1 : ((masterdiscref14_Few.f k a1_0 a1_1 l1_2).bind fun t303 => (if t303 = true then ((masterdisclaw14_do.f k a0 a1_0 a1_1 l1_2 a2_0 a2_1 a2_2 a2_3).bind fun bt304 => ((masterdiscref14_Do.f k a0 a1_0 a1_1 l1_2 a2_0 a2_1 a2_2 a2_3).bind fun bt311 => ((toc_Valid.f a0 a1_0 a1_1 l1_2).bind fun t318 => ((masterdiscref14_Valid.f a0 a1_0 a1_1 l1_2).bind fun t319 => (if (t318 == t319) = true then ((masterdiscref14_Same.f k bt304.1 bt304.2.1 bt304.2.2.1 bt311.1 bt311.2.1 bt311.2.2.1).bind fun t320 => (if t320 = true then (some (bt304.2.2.2 == bt311.2.2.2)) else (none))) else (none)))))) else (some true))) = some r := by rw [if_pos rfl] at H; exact H
   clear H
   have H := H1
   clear H1
   replace H := Option.bind_eq_some_iff.mp H
   obtain ⟨t303, A60, H⟩ := H
   replace H : (if t303 = true then ((masterdisclaw14_do.f k a0 a1_0 a1_1 l1_2 a2_0 a2_1 a2_2 a2_3).bind fun bt304 => ((masterdiscref14_Do.f k a0 a1_0 a1_1 l1_2 a2_0 a2_1 a2_2 a2_3).bind fun bt311 => ((toc_Valid.f a0 a1_0 a1_1 l1_2).bind fun t318 => ((masterdiscref14_Valid.f a0 a1_0 a1_1 l1_2).bind fun t319 => (if (t318 == t319) = true then ((masterdiscref14_Same.f k bt304.1 bt304.2.1 bt304.2.2.1 bt311.1 bt311.2.1 bt311.2.2.1).bind fun t320 => (if t320 = true then (some (bt304.2.2.2 == bt311.2.2.2)) else (none))) else (none)))))) else (some true)) = some r := H
   have A6 := Aside0.mk A60
   clear A60
   by_cases c7 : t303 = true
   · subst c7
     have H1 : ((masterdisclaw14_do.f k a0 a1_0 a1_1 l1_2 a2_0 a2_1 a2_2 a2_3).bind fun bt304 => ((masterdiscref14_Do.f k a0 a1_0 a1_1 l1_2 a2_0 a2_1 a2_2 a2_3).bind fun bt311 => ((toc_Valid.f a0 a1_0 a1_1 l1_2).bind fun t318 => ((masterdiscref14_Valid.f a0 a1_0 a1_1 l1_2).bind fun t319 => (if (t318 == t319) = true then ((masterdiscref14_Same.f k bt304.1 bt304.2.1 bt304.2.2.1 bt311.1 bt311.2.1 bt311.2.2.1).bind fun t320 => (if t320 = true then (some (bt304.2.2.2 == bt311.2.2.2)) else (none))) else (none)))))) = some r := by rw [if_pos rfl] at H; exact H
     clear H
     have H := H1
     clear H1
     replace H := Option.bind_eq_some_iff.mp H
     obtain ⟨⟨t304, t305, t306, t309⟩, A80, H⟩ := H
     replace H : ((masterdiscref14_Do.f k a0 a1_0 a1_1 l1_2 a2_0 a2_1 a2_2 a2_3).bind fun bt311 => ((toc_Valid.f a0 a1_0 a1_1 l1_2).bind fun t318 => ((masterdiscref14_Valid.f a0 a1_0 a1_1 l1_2).bind fun t319 => (if (t318 == t319) = true then ((masterdiscref14_Same.f k t304 t305 t306 bt311.1 bt311.2.1 bt311.2.2.1).bind fun t320 => (if t320 = true then (some (t309 == bt311.2.2.2)) else (none))) else (none))))) = some r := H
     have A8 := Aside0.mk A80
     clear A80
     replace H := Option.bind_eq_some_iff.mp H
     obtain ⟨⟨t311, t312, t313, t316⟩, A90, H⟩ := H
     replace H : ((toc_Valid.f a0 a1_0 a1_1 l1_2).bind fun t318 => ((masterdiscref14_Valid.f a0 a1_0 a1_1 l1_2).bind fun t319 => (if (t318 == t319) = true then ((masterdiscref14_Same.f k t304 t305 t306 t311 t312 t313).bind fun t320 => (if t320 = true then (some (t309 == t316)) else (none))) else (none)))) = some r := H
     have A9 := Aside0.mk A90
     clear A90
     replace H := Option.bind_eq_some_iff.mp H
     obtain ⟨t318, A100, H⟩ := H
     replace H : ((masterdiscref14_Valid.f a0 a1_0 a1_1 l1_2).bind fun t319 => (if (t318 == t319) = true then ((masterdiscref14_Same.f k t304 t305 t306 t311 t312 t313).bind fun t320 => (if t320 = true then (some (t309 == t316)) else (none))) else (none))) = some r := H
     have A10 := Aside0.mk A100
     clear A100
     replace H := Option.bind_eq_some_iff.mp H
     obtain ⟨t319, A110, H⟩ := H
     replace H : (if (t318 == t319) = true then ((masterdiscref14_Same.f k t304 t305 t306 t311 t312 t313).bind fun t320 => (if t320 = true then (some (t309 == t316)) else (none))) else (none)) = some r := H
     have A11 := Aside0.mk A110
     clear A110
     by_cases c12 : (t318 == t319) = true
     · rw [if_pos c12] at H
       have c12b0 : (t318 == t319) = true := c12
       (try (have c12b1 : decide (t318 = t319) = true := by simpa using c12))
       (try (have c12b2 : (t318 == t319) = true := by simpa using c12))
       clear c12
       replace H := Option.bind_eq_some_iff.mp H
       obtain ⟨t320, A130, H⟩ := H
       replace H : (if t320 = true then (some (t309 == t316)) else (none)) = some r := H
       have A13 := Aside0.mk A130
       clear A130
       by_cases c14 : t320 = true
       · subst c14
         have H1 : (some (t309 == t316)) = some r := by rw [if_pos rfl] at H; exact H
         clear H
         have H := H1
         clear H1
         obtain rfl := Option.some.inj H
         go_enter Try.func3, Try.ntmps3
         try go_wp2_with (first | ((with_reducible refine gate_dst (N := 4) rfl ?_); refine box_event ?hg (N := 4) ?hd (cs := #[.int .i64 a1_0, .bool a1_1, .slice A1_2 l1_2.length c1_2]) (t := 24) ?hr ?_; (case hd => rfl); (case hg => rfl); (case hr => first | (go_simp; done) | (go_simp; rfl)); intro gb300 hg w15 hbox hb; have n0_ := Aside0.mk (below_step (by repeat (first | (with_reducible first | exact HB.out | apply below_alloc | apply pw_below_drewN | apply below_drew1) | exact HB.out)) hb); have n1_ := Aside0.mk (hbox); have n2_ := Aside0.mk ((by rw [hg]; exact (below_size (by repeat (first | (with_reducible first | exact HB.out | apply below_alloc | apply pw_below_drewN | apply below_drew1) | exact HB.out))) : w.heap.size ≤ gb300)); have n3_ := Aside0.mk ((by rw [hg]; exact (below_size (by repeat (first | (with_reducible first | exact HB.out | apply below_alloc | apply pw_below_drewN | apply below_drew1) | exact HB.out))) : w.heap.size ≤ gb300)); clear HB; have HB := n0_; have BK300 := n1_; have GW300 := n2_; have GE300 := n3_; clear n0_ n1_ n2_ n3_; clear hb hbox hg) | ((with_reducible refine gate_dst (N := 5) rfl ?_); refine box_event ?hg (N := 5) ?hd (cs := #[.int .i64 a2_0, .int .i64 a2_1, .int .i64 a2_2, .bool a2_3]) (t := 26) ?hr ?_; (case hd => rfl); (case hg => rfl); (case hr => first | (go_simp; done) | (go_simp; rfl)); intro gb301 hg w16 hbox hb; have n0_ := Aside0.mk (blk_below (g := gb300) (o := .cells #[.int .i64 a1_0, .bool a1_1, .slice A1_2 l1_2.length c1_2] 24 (0, 0)) (by (with_reducible repeat (first | refine blk_drewN ?_ _ | refine blk_drew ?_ | refine blk_alloc ?_ _)); exact BK300.out) hb); have n1_ := Aside0.mk (below_step (by repeat (first | (with_reducible first | exact HB.out | apply below_alloc | apply pw_below_drewN | apply below_drew1 | refine below_set ?_ GE300.out) | exact HB.out)) hb); have n2_ := Aside0.mk (hbox); have n3_ := Aside0.mk ((by rw [hg]; exact (below_size (by repeat (first | (with_reducible first | exact HB.out | apply below_alloc | apply pw_below_drewN | apply below_drew1 | refine below_set ?_ GE300.out) | exact HB.out))) : w.heap.size ≤ gb301)); have n4_ := Aside0.mk ((by rw [hg]; exact (below_size (by repeat (first | (with_reducible first | exact HB.out | apply below_alloc | apply pw_below_drewN | apply below_drew1 | refine below_set ?_ GE300.out) | exact HB.out))) : w.heap.size ≤ gb301)); have n5_ := Aside0.mk ((by rw [hg]; exact Nat.ne_of_lt (blk_lt (g := gb300) (o := .cells #[.int .i64 a1_0, .bool a1_1, .slice A1_2 l1_2.length c1_2] 24 (0, 0)) (by (with_reducible repeat (first | refine blk_drewN ?_ _ | refine blk_drew ?_ | refine blk_alloc ?_ _)); exact BK300.out)) : gb300 ≠ gb301)); have n6_ := Aside0.mk ((by rw [hg]; exact Nat.ne_of_gt (blk_lt (g := gb300) (o := .cells #[.int .i64 a1_0, .bool a1_1, .slice A1_2 l1_2.length c1_2] 24 (0, 0)) (by (with_reducible repeat (first | refine blk_drewN ?_ _ | refine blk_drew ?_ | refine blk_alloc ?_ _)); exact BK300.out)) : gb301 ≠ gb300)); clear BK300; clear HB; have BK300 := n0_; have HB := n1_; have BK301 := n2_; have GW301 := n3_; have GE301 := n4_; have NB300_301 := n5_; have NB301_300 := n6_; clear n0_ n1_ n2_ n3_ n4_ n5_ n6_; clear hb hbox hg) | ((with_reducible refine gate_callee (f := 6) rfl ?_); refine goesL_ (some 11) rfl rfl Try.func6 (by kernel_rfl) rfl #[] rfl (by (try simp only [List.map_toArray, List.map_cons, List.map_nil]); first | done | rfl | (simp only [List.length_drop, List.length_take]; rfl)) ?_; (with_reducible refine (masterdisclaw14_awake.calls k  true _ A4.out).mono ?_); rintro e w17 ⟨rfl, hb⟩; refine ⟨_, rfl, ?_⟩; have n0_ := Aside0.mk (blk_below (g := gb300) (o := .cells #[.int .i64 a1_0, .bool a1_1, .slice A1_2 l1_2.length c1_2] 24 (0, 0)) (by (with_reducible repeat (first | refine blk_drewN ?_ _ | refine blk_drew ?_ | refine blk_alloc ?_ _)); exact BK300.out) hb); have n1_ := Aside0.mk (blk_below (g := gb301) (o := .cells #[.int .i64 a2_0, .int .i64 a2_1, .int .i64 a2_2, .bool a2_3] 26 (0, 0)) (by (with_reducible repeat (first | refine blk_drewN ?_ _ | refine blk_drew ?_ | refine blk_alloc ?_ _)); exact BK301.out) hb); have n2_ := Aside0.mk (below_step (by repeat (first | (with_reducible first | exact HB.out | apply below_alloc | apply pw_below_drewN | apply below_drew1 | refine below_set ?_ GE300.out | refine below_set ?_ GE301.out) | exact HB.out)) hb); clear BK300; clear BK301; clear HB; have BK300 := n0_; have BK301 := n1_; have HB := n2_; clear n0_ n1_ n2_; (try clear hb); (try clear hb2); (try clear hk); (try clear hi); have hnb18 := NB300_301.out; have hnc18 := NB301_300.out; obtain ⟨hcz19_0, hcz19_1, hcz19_2⟩ := cel3 BK300.out; obtain ⟨hfz19_0, hfz19_1, hfz19_2⟩ := frz3 BK300.out) | ((with_reducible refine gate_callee (f := 7) rfl ?_); refine goesL_ (some 14) rfl rfl Try.func7 (by kernel_rfl) rfl #[.agg #[.int .i64 a1_0, .bool a1_1, .slice A1_2 l1_2.length c1_2]] rfl (by (try simp only [List.map_toArray, List.map_cons, List.map_nil]); first | done | rfl | (simp only [List.length_drop, List.length_take]; rfl)) ?_; (with_reducible refine (masterdiscref14_Few.calls k a1_0 a1_1 _ _ l1_2 true _ ?side1 ?side2 A6.out).mono ?_); (case side1 => repeat (first | exact (Kd.C_below HR1_2.out HB.out) | (with_reducible refine Kd.C_alloc ?_ _) | (with_reducible refine Kd.C_drewN ?_ _) | (with_reducible refine Kd.C_drew ?_))); (case side2 => exact HC1_2.out); rintro e w20 ⟨rfl, hb⟩; refine ⟨_, rfl, ?_⟩; have n0_ := Aside0.mk (blk_below (g := gb300) (o := .cells #[.int .i64 a1_0, .bool a1_1, .slice A1_2 l1_2.length c1_2] 24 (0, 0)) (by (with_reducible repeat (first | refine blk_drewN ?_ _ | refine blk_drew ?_ | refine blk_alloc ?_ _)); exact BK300.out) hb); have n1_ := Aside0.mk (blk_below (g := gb301) (o := .cells #[.int .i64 a2_0, .int .i64 a2_1, .int .i64 a2_2, .bool a2_3] 26 (0, 0)) (by (with_reducible repeat (first | refine blk_drewN ?_ _ | refine blk_drew ?_ | refine blk_alloc ?_ _)); exact BK301.out) hb); have n2_ := Aside0.mk (below_step (by repeat (first | (with_reducible first | exact HB.out | apply below_alloc | apply pw_below_drewN | apply below_drew1 | refine below_set ?_ GE300.out | refine below_set ?_ GE301.out) | exact HB.out)) hb); clear BK300; clear BK301; clear HB; have BK300 := n0_; have BK301 := n1_; have HB := n2_; clear n0_ n1_ n2_; (try clear hb); (try clear hb2); (try clear hk); (try clear hi); obtain ⟨hcz21_0, hcz21_1, hcz21_2⟩ := cel3 BK300.out; obtain ⟨hfz21_0, hfz21_1, hfz21_2⟩ := frz3 BK300.out; obtain ⟨hcz22_0, hcz22_1, hcz22_2, hcz22_3⟩ := cel4 BK301.out; obtain ⟨hfz22_0, hfz22_1, hfz22_2, hfz22_3⟩ := frz4 BK301.out) | ((with_reducible refine gate_callee (f := 8) rfl ?_); refine goesL_ (some 20) rfl rfl Try.func8 (by kernel_rfl) rfl #[.int .i64 a0, .agg #[.int .i64 a1_0, .bool a1_1, .slice A1_2 l1_2.length c1_2], .agg #[.int .i64 a2_0, .int .i64 a2_1, .int .i64 a2_2, .bool a2_3]] rfl (by (try simp only [List.map_toArray, List.map_cons, List.map_nil]); first | done | rfl | (simp only [List.length_drop, List.length_take]; rfl)) ?_; (with_reducible refine (masterdisclaw14_do.calls k a0 a1_0 a1_1 _ _ l1_2 a2_0 a2_1 a2_2 a2_3 t304 t305 t306 t309 _ ?side1 ?side2 A8.out).mono ?_); (case side1 => repeat (first | exact (Kd.C_below HR1_2.out HB.out) | (with_reducible refine Kd.C_alloc ?_ _) | (with_reducible refine Kd.C_drewN ?_ _) | (with_reducible refine Kd.C_drew ?_))); (case side2 => exact HC1_2.out); rintro e w23 ⟨v307, rfl, ho0, hb⟩; refine ⟨_, rfl, ?_⟩; have n0_ := Aside0.mk (Kd.R_lower ho0 (below_size (by repeat (first | (with_reducible first | exact HB.out | apply below_alloc | apply pw_below_drewN | apply below_drew1 | refine below_set ?_ GE300.out | refine below_set ?_ GE301.out) | exact HB.out)))); have n1_ := Aside0.mk (blk_below (g := gb300) (o := .cells #[.int .i64 a1_0, .bool a1_1, .slice A1_2 l1_2.length c1_2] 24 (0, 0)) (by (with_reducible repeat (first | refine blk_drewN ?_ _ | refine blk_drew ?_ | refine blk_alloc ?_ _)); exact BK300.out) hb); have n2_ := Aside0.mk (blk_below (g := gb301) (o := .cells #[.int .i64 a2_0, .int .i64 a2_1, .int .i64 a2_2, .bool a2_3] 26 (0, 0)) (by (with_reducible repeat (first | refine blk_drewN ?_ _ | refine blk_drew ?_ | refine blk_alloc ?_ _)); exact BK301.out) hb); have n3_ := Aside0.mk (below_step (by repeat (first | (with_reducible first | exact HB.out | apply below_alloc | apply pw_below_drewN | apply below_drew1 | refine below_set ?_ GE300.out | refine below_set ?_ GE301.out) | exact HB.out)) hb); clear BK300; clear BK301; clear HB; have HO308 := n0_; have BK300 := n1_; have BK301 := n2_; have HB := n3_; clear n0_ n1_ n2_ n3_; (try clear hb); (try clear hb2); (try clear hk); (try clear hi); (try clear ho0)) | ((with_reducible refine gate_dst (N := 7) rfl ?_); refine box_event ?hg (N := 7) ?hd (cs := #[.int .i64 0, .bool false, .slice none 0 0]) (t := 24) ?hr ?_; (case hd => rfl); (case hg => rfl); (case hr => first | (go_simp; done) | (go_simp; rfl)); intro gb310 hg w24 hbox hb; have n0_ := Aside0.mk (Kd.R_below (by (with_reducible repeat (first | apply Kd.R_alloc | apply Kd.R_drewN | apply Kd.R_drew)); exact HO308.out) hb); have n1_ := Aside0.mk (blk_below (g := gb300) (o := .cells #[.int .i64 a1_0, .bool a1_1, .slice A1_2 l1_2.length c1_2] 24 (0, 0)) (by (with_reducible repeat (first | refine blk_drewN ?_ _ | refine blk_drew ?_ | refine blk_alloc ?_ _)); exact BK300.out) hb); have n2_ := Aside0.mk (blk_below (g := gb301) (o := .cells #[.int .i64 a2_0, .int .i64 a2_1, .int .i64 a2_2, .bool a2_3] 26 (0, 0)) (by (with_reducible repeat (first | refine blk_drewN ?_ _ | refine blk_drew ?_ | refine blk_alloc ?_ _)); exact BK301.out) hb); have n3_ := Aside0.mk (below_step (by repeat (first | (with_reducible first | exact HB.out | apply below_alloc | apply pw_below_drewN | apply below_drew1 | refine below_set ?_ GE300.out | refine below_set ?_ GE301.out) | exact HB.out)) hb); have n4_ := Aside0.mk (hbox); have n5_ := Aside0.mk ((by rw [hg]; exact (below_size (by repeat (first | (with_reducible first | exact HB.out | apply below_alloc | apply pw_below_drewN | apply below_drew1 | refine below_set ?_ GE300.out | refine below_set ?_ GE301.out) | exact HB.out))) : w.heap.size ≤ gb310)); have n6_ := Aside0.mk ((by rw [hg]; exact (below_size (by repeat (first | (with_reducible first | exact HB.out | apply below_alloc | apply pw_below_drewN | apply below_drew1 | refine below_set ?_ GE300.out | refine below_set ?_ GE301.out) | exact HB.out))) : w.heap.size ≤ gb310)); have n7_ := Aside0.mk ((by rw [hg]; exact Nat.ne_of_lt (blk_lt (g := gb300) (o := .cells #[.int .i64 a1_0, .bool a1_1, .slice A1_2 l1_2.length c1_2] 24 (0, 0)) (by (with_reducible repeat (first | refine blk_drewN ?_ _ | refine blk_drew ?_ | refine blk_alloc ?_ _)); exact BK300.out)) : gb300 ≠ gb310)); have n8_ := Aside0.mk ((by rw [hg]; exact Nat.ne_of_gt (blk_lt (g := gb300) (o := .cells #[.int .i64 a1_0, .bool a1_1, .slice A1_2 l1_2.length c1_2] 24 (0, 0)) (by (with_reducible repeat (first | refine blk_drewN ?_ _ | refine blk_drew ?_ | refine blk_alloc ?_ _)); exact BK300.out)) : gb310 ≠ gb300)); have n9_ := Aside0.mk ((by rw [hg]; exact Nat.ne_of_lt (blk_lt (g := gb301) (o := .cells #[.int .i64 a2_0, .int .i64 a2_1, .int .i64 a2_2, .bool a2_3] 26 (0, 0)) (by (with_reducible repeat (first | refine blk_drewN ?_ _ | refine blk_drew ?_ | refine blk_alloc ?_ _)); exact BK301.out)) : gb301 ≠ gb310)); have n10_ := Aside0.mk ((by rw [hg]; exact Nat.ne_of_gt (blk_lt (g := gb301) (o := .cells #[.int .i64 a2_0, .int .i64 a2_1, .int .i64 a2_2, .bool a2_3] 26 (0, 0)) (by (with_reducible repeat (first | refine blk_drewN ?_ _ | refine blk_drew ?_ | refine blk_alloc ?_ _)); exact BK301.out)) : gb310 ≠ gb301)); clear HO308; clear BK300; clear BK301; clear HB; have HO308 := n0_; have BK300 := n1_; have BK301 := n2_; have HB := n3_; have BK310 := n4_; have GW310 := n5_; have GE310 := n6_; have NB300_310 := n7_; have NB310_300 := n8_; have NB301_310 := n9_; have NB310_301 := n10_; clear n0_ n1_ n2_ n3_ n4_ n5_ n6_ n7_ n8_ n9_ n10_; clear hb hbox hg; have hnb25 := NB310_300.out; have hnc25 := NB300_310.out; have hnb26 := NB310_301.out; have hnc26 := NB301_310.out; obtain ⟨hcz27_0, hcz27_1, hcz27_2⟩ := cel3 BK310.out; obtain ⟨hfz27_0, hfz27_1, hfz27_2⟩ := frz3 BK310.out; obtain ⟨Ao28, co28, eo28⟩ := Kd.R_slice HO308.out; subst eo28; obtain ⟨hcz29_0, hcz29_1, hcz29_2⟩ := cel3 BK300.out; obtain ⟨hfz29_0, hfz29_1, hfz29_2⟩ := frz3 BK300.out; obtain ⟨hcz30_0, hcz30_1, hcz30_2, hcz30_3⟩ := cel4 BK301.out; obtain ⟨hfz30_0, hfz30_1, hfz30_2, hfz30_3⟩ := frz4 BK301.out) | ((with_reducible refine gate_callee (f := 9) rfl ?_); refine goesL_ (some 27) rfl rfl Try.func9 (by kernel_rfl) rfl #[.int .i64 a0, .agg #[.int .i64 a1_0, .bool a1_1, .slice A1_2 l1_2.length c1_2], .agg #[.int .i64 a2_0, .int .i64 a2_1, .int .i64 a2_2, .bool a2_3]] rfl (by (try simp only [List.map_toArray, List.map_cons, List.map_nil]); first | done | rfl | (simp only [List.length_drop, List.length_take]; rfl)) ?_; (with_reducible refine (masterdiscref14_Do.calls k a0 a1_0 a1_1 _ _ l1_2 a2_0 a2_1 a2_2 a2_3 t311 t312 t313 t316 _ ?side1 ?side2 A9.out).mono ?_); (case side1 => exact Kd.C_below HR1_2.out (by repeat (first | (with_reducible first | exact HB.out | apply below_alloc | apply pw_below_drewN | apply below_drew1 | refine below_set ?_ GE300.out | refine below_set ?_ GE301.out | refine below_set ?_ GE310.out) | exact HB.out))); (case side2 => exact HC1_2.out); rintro e w31 ⟨v314, rfl, ho0, hb⟩; refine ⟨_, rfl, ?_⟩; have n0_ := Aside0.mk (Kd.R_elder' (by (with_reducible repeat (first | apply Kd.R_alloc | apply Kd.R_drewN | apply Kd.R_drew)); exact (Kd.R_mono (Kd.R_far (p := ⟨gb310, 2, none⟩) (Kd.R_far (p := ⟨gb310, 1, none⟩) (Kd.R_far (p := ⟨gb310, 0, none⟩) (Kd.R_types HO308.out BK310.out (by decide)) (fun _ hk => hk.2) (.int .i64 t304)) (fun _ hk => hk.2) (.bool t305)) (fun _ hk => hk.2) (.slice Ao28 t306.length co28)) (fun _ h_ => h_.1))) (Kd.R_base ho0) hb); have n1_ := Aside0.mk (Kd.R_lower (Kd.R_new' ho0 (Kd.R_lt (by (with_reducible repeat (first | apply Kd.R_alloc | apply Kd.R_drewN | apply Kd.R_drew)); exact (Kd.R_mono (Kd.R_far (p := ⟨gb310, 2, none⟩) (Kd.R_far (p := ⟨gb310, 1, none⟩) (Kd.R_far (p := ⟨gb310, 0, none⟩) (Kd.R_types HO308.out BK310.out (by decide)) (fun _ hk => hk.2) (.int .i64 t304)) (fun _ hk => hk.2) (.bool t305)) (fun _ hk => hk.2) (.slice Ao28 t306.length co28)) (fun _ h_ => h_.1))))) (below_size (by repeat (first | (with_reducible first | exact HB.out | apply below_alloc | apply pw_below_drewN | apply below_drew1 | refine below_set ?_ GE300.out | refine below_set ?_ GE301.out | refine below_set ?_ GE310.out) | exact HB.out)))); have n2_ := Aside0.mk (blk_below (g := gb300) (o := .cells #[.int .i64 a1_0, .bool a1_1, .slice A1_2 l1_2.length c1_2] 24 (0, 0)) (by (with_reducible repeat (first | refine blk_drewN ?_ _ | refine blk_drew ?_ | refine blk_alloc ?_ _)); refine blk_far ?_ NB300_310.out _; (with_reducible repeat (first | refine blk_drewN ?_ _ | refine blk_drew ?_ | refine blk_alloc ?_ _)); refine blk_far ?_ NB300_310.out _; (with_reducible repeat (first | refine blk_drewN ?_ _ | refine blk_drew ?_ | refine blk_alloc ?_ _)); refine blk_far ?_ NB300_310.out _; (with_reducible repeat (first | refine blk_drewN ?_ _ | refine blk_drew ?_ | refine blk_alloc ?_ _)); exact BK300.out) hb); have n3_ := Aside0.mk (blk_below (g := gb301) (o := .cells #[.int .i64 a2_0, .int .i64 a2_1, .int .i64 a2_2, .bool a2_3] 26 (0, 0)) (by (with_reducible repeat (first | refine blk_drewN ?_ _ | refine blk_drew ?_ | refine blk_alloc ?_ _)); refine blk_far ?_ NB301_310.out _; (with_reducible repeat (first | refine blk_drewN ?_ _ | refine blk_drew ?_ | refine blk_alloc ?_ _)); refine blk_far ?_ NB301_310.out _; (with_reducible repeat (first | refine blk_drewN ?_ _ | refine blk_drew ?_ | refine blk_alloc ?_ _)); refine blk_far ?_ NB301_310.out _; (with_reducible repeat (first | refine blk_drewN ?_ _ | refine blk_drew ?_ | refine blk_alloc ?_ _)); exact BK301.out) hb); have n4_ := Aside0.mk (blk_below (g := gb310) (o := .cells #[.int .i64 t304, .bool t305, .slice Ao28 t306.length co28] 24 (0, 0)) (by (with_reducible repeat (first | refine blk_drewN ?_ _ | refine blk_drew ?_ | refine blk_alloc ?_ _)); refine blk_put (cs := #[.int .i64 t304, .bool t305, .slice none 0 0]) ?_ 2 _ rfl; (with_reducible repeat (first | refine blk_drewN ?_ _ | refine blk_drew ?_ | refine blk_alloc ?_ _)); refine blk_put (cs := #[.int .i64 t304, .bool false, .slice none 0 0]) ?_ 1 _ rfl; (with_reducible repeat (first | refine blk_drewN ?_ _ | refine blk_drew ?_ | refine blk_alloc ?_ _)); refine blk_put (cs := #[.int .i64 0, .bool false, .slice none 0 0]) ?_ 0 _ rfl; (with_reducible repeat (first | refine blk_drewN ?_ _ | refine blk_drew ?_ | refine blk_alloc ?_ _)); exact BK310.out) hb); have n5_ := Aside0.mk (below_step (by repeat (first | (with_reducible first | exact HB.out | apply below_alloc | apply pw_below_drewN | apply below_drew1 | refine below_set ?_ GE300.out | refine below_set ?_ GE301.out | refine below_set ?_ GE310.out) | exact HB.out)) hb); clear HO308; clear BK300; clear BK301; clear BK310; clear HB; have HO308 := n0_; have HO315 := n1_; have BK300 := n2_; have BK301 := n3_; have BK310 := n4_; have HB := n5_; clear n0_ n1_ n2_ n3_ n4_ n5_; (try clear hb); (try clear hb2); (try clear hk); (try clear hi); (try clear ho0)) | ((with_reducible refine gate_dst (N := 9) rfl ?_); refine box_event ?hg (N := 9) ?hd (cs := #[.int .i64 0, .bool false, .slice none 0 0]) (t := 24) ?hr ?_; (case hd => rfl); (case hg => rfl); (case hr => first | (go_simp; done) | (go_simp; rfl)); intro gb317 hg w32 hbox hb; have n0_ := Aside0.mk (Kd.R_below (by (with_reducible repeat (first | apply Kd.R_alloc | apply Kd.R_drewN | apply Kd.R_drew)); exact HO308.out) hb); have n1_ := Aside0.mk (Kd.R_below (by (with_reducible repeat (first | apply Kd.R_alloc | apply Kd.R_drewN | apply Kd.R_drew)); exact HO315.out) hb); have n2_ := Aside0.mk (blk_below (g := gb300) (o := .cells #[.int .i64 a1_0, .bool a1_1, .slice A1_2 l1_2.length c1_2] 24 (0, 0)) (by (with_reducible repeat (first | refine blk_drewN ?_ _ | refine blk_drew ?_ | refine blk_alloc ?_ _)); exact BK300.out) hb); have n3_ := Aside0.mk (blk_below (g := gb301) (o := .cells #[.int .i64 a2_0, .int .i64 a2_1, .int .i64 a2_2, .bool a2_3] 26 (0, 0)) (by (with_reducible repeat (first | refine blk_drewN ?_ _ | refine blk_drew ?_ | refine blk_alloc ?_ _)); exact BK301.out) hb); have n4_ := Aside0.mk (blk_below (g := gb310) (o := .cells #[.int .i64 t304, .bool t305, .slice Ao28 t306.length co28] 24 (0, 0)) (by (with_reducible repeat (first | refine blk_drewN ?_ _ | refine blk_drew ?_ | refine blk_alloc ?_ _)); exact BK310.out) hb); have n5_ := Aside0.mk (below_step (by repeat (first | (with_reducible first | exact HB.out | apply below_alloc | apply pw_below_drewN | apply below_drew1 | refine below_set ?_ GE300.out | refine below_set ?_ GE301.out | refine below_set ?_ GE310.out) | exact HB.out)) hb); have n6_ := Aside0.mk (hbox); have n7_ := Aside0.mk ((by rw [hg]; exact (below_size (by repeat (first | (with_reducible first | exact HB.out | apply below_alloc | apply pw_below_drewN | apply below_drew1 | refine below_set ?_ GE300.out | refine below_set ?_ GE301.out | refine below_set ?_ GE310.out) | exact HB.out))) : w.heap.size ≤ gb317)); have n8_ := Aside0.mk ((by rw [hg]; exact (below_size (by repeat (first | (with_reducible first | exact HB.out | apply below_alloc | apply pw_below_drewN | apply below_drew1 | refine below_set ?_ GE300.out | refine below_set ?_ GE301.out | refine below_set ?_ GE310.out) | exact HB.out))) : w.heap.size ≤ gb317)); have n9_ := Aside0.mk ((by rw [hg]; exact Nat.ne_of_lt (blk_lt (g := gb300) (o := .cells #[.int .i64 a1_0, .bool a1_1, .slice A1_2 l1_2.length c1_2] 24 (0, 0)) (by (with_reducible repeat (first | refine blk_drewN ?_ _ | refine blk_drew ?_ | refine blk_alloc ?_ _)); exact BK300.out)) : gb300 ≠ gb317)); have n10_ := Aside0.mk ((by rw [hg]; exact Nat.ne_of_gt (blk_lt (g := gb300) (o := .cells #[.int .i64 a1_0, .bool a1_1, .slice A1_2 l1_2.length c1_2] 24 (0, 0)) (by (with_reducible repeat (first | refine blk_drewN ?_ _ | refine blk_drew ?_ | refine blk_alloc ?_ _)); exact BK300.out)) : gb317 ≠ gb300)); have n11_ := Aside0.mk ((by rw [hg]; exact Nat.ne_of_lt (blk_lt (g := gb301) (o := .cells #[.int .i64 a2_0, .int .i64 a2_1, .int .i64 a2_2, .bool a2_3] 26 (0, 0)) (by (with_reducible repeat (first | refine blk_drewN ?_ _ | refine blk_drew ?_ | refine blk_alloc ?_ _)); exact BK301.out)) : gb301 ≠ gb317)); have n12_ := Aside0.mk ((by rw [hg]; exact Nat.ne_of_gt (blk_lt (g := gb301) (o := .cells #[.int .i64 a2_0, .int .i64 a2_1, .int .i64 a2_2, .bool a2_3] 26 (0, 0)) (by (with_reducible repeat (first | refine blk_drewN ?_ _ | refine blk_drew ?_ | refine blk_alloc ?_ _)); exact BK301.out)) : gb317 ≠ gb301)); have n13_ := Aside0.mk ((by rw [hg]; exact Nat.ne_of_lt (blk_lt (g := gb310) (o := .cells #[.int .i64 t304, .bool t305, .slice Ao28 t306.length co28] 24 (0, 0)) (by (with_reducible repeat (first | refine blk_drewN ?_ _ | refine blk_drew ?_ | refine blk_alloc ?_ _)); exact BK310.out)) : gb310 ≠ gb317)); have n14_ := Aside0.mk ((by rw [hg]; exact Nat.ne_of_gt (blk_lt (g := gb310) (o := .cells #[.int .i64 t304, .bool t305, .slice Ao28 t306.length co28] 24 (0, 0)) (by (with_reducible repeat (first | refine blk_drewN ?_ _ | refine blk_drew ?_ | refine blk_alloc ?_ _)); exact BK310.out)) : gb317 ≠ gb310)); clear HO308; clear HO315; clear BK300; clear BK301; clear BK310; clear HB; have HO308 := n0_; have HO315 := n1_; have BK300 := n2_; have BK301 := n3_; have BK310 := n4_; have HB := n5_; have BK317 := n6_; have GW317 := n7_; have GE317 := n8_; have NB300_317 := n9_; have NB317_300 := n10_; have NB301_317 := n11_; have NB317_301 := n12_; have NB310_317 := n13_; have NB317_310 := n14_; clear n0_ n1_ n2_ n3_ n4_ n5_ n6_ n7_ n8_ n9_ n10_ n11_ n12_ n13_ n14_; clear hb hbox hg; have hnb33 := NB317_300.out; have hnc33 := NB300_317.out; have hnb34 := NB317_301.out; have hnc34 := NB301_317.out; have hnb35 := NB317_310.out; have hnc35 := NB310_317.out; obtain ⟨hcz36_0, hcz36_1, hcz36_2⟩ := cel3 BK317.out; obtain ⟨hfz36_0, hfz36_1, hfz36_2⟩ := frz3 BK317.out; obtain ⟨Ao37, co37, eo37⟩ := Kd.R_slice HO315.out; subst eo37))
         have n0_ : Aside0 (Kd.R k40 40 (((w32.setCell ⟨gb317, 0, none⟩ (.int .i64 t311)).setCell ⟨gb317, 1, none⟩ (.bool t312)).setCell ⟨gb317, 2, none⟩ (.slice Ao37 t313.length co37)) w.heap.size (fun k_ => some k_ ≠ (.slice Ao37 t313.length co37 : Value).ownBlock) (.slice Ao28 t306.length co28) t306) := ⟨by (with_reducible repeat (first | apply Kd.R_alloc | apply Kd.R_drewN | apply Kd.R_drew)); exact Kd.R_mono (Kd.R_far (p := ⟨gb317, 2, none⟩) (Kd.R_far (p := ⟨gb317, 1, none⟩) (Kd.R_far (p := ⟨gb317, 0, none⟩) (Kd.R_types HO308.out BK317.out (by decide)) (fun _ hk => hk.2) (.int .i64 t311)) (fun _ hk => hk.2) (.bool t312)) (fun _ hk => hk.2) (.slice Ao37 t313.length co37)) (fun _ hk => hk.1.2)⟩
         have n1_ : Aside0 (Kd.R k40 40 (((w32.setCell ⟨gb317, 0, none⟩ (.int .i64 t311)).setCell ⟨gb317, 1, none⟩ (.bool t312)).setCell ⟨gb317, 2, none⟩ (.slice Ao37 t313.length co37)) w.heap.size (fun k_ => some k_ ≠ (.slice Ao28 t306.length co28 : Value).ownBlock) (.slice Ao37 t313.length co37) t313) := ⟨by (with_reducible repeat (first | apply Kd.R_alloc | apply Kd.R_drewN | apply Kd.R_drew)); exact Kd.R_mono (Kd.R_far (p := ⟨gb317, 2, none⟩) (Kd.R_far (p := ⟨gb317, 1, none⟩) (Kd.R_far (p := ⟨gb317, 0, none⟩) (Kd.R_types HO315.out BK317.out (by decide)) (fun _ hk => hk.2) (.int .i64 t311)) (fun _ hk => hk.2) (.bool t312)) (fun _ hk => hk.2) (.slice Ao37 t313.length co37)) (fun _ hk => hk.1.2)⟩
         have n2_ : Aside0 ((((w32.setCell ⟨gb317, 0, none⟩ (.int .i64 t311)).setCell ⟨gb317, 1, none⟩ (.bool t312)).setCell ⟨gb317, 2, none⟩ (.slice Ao37 t313.length co37)).heap[gb300]? = some (.cells #[.int .i64 a1_0, .bool a1_1, .slice A1_2 l1_2.length c1_2] 24 (0, 0))) := ⟨by (with_reducible repeat (first | refine blk_drewN ?_ _ | refine blk_drew ?_ | refine blk_alloc ?_ _)); refine blk_far ?_ NB300_317.out _; (with_reducible repeat (first | refine blk_drewN ?_ _ | refine blk_drew ?_ | refine blk_alloc ?_ _)); refine blk_far ?_ NB300_317.out _; (with_reducible repeat (first | refine blk_drewN ?_ _ | refine blk_drew ?_ | refine blk_alloc ?_ _)); refine blk_far ?_ NB300_317.out _; (with_reducible repeat (first | refine blk_drewN ?_ _ | refine blk_drew ?_ | refine blk_alloc ?_ _)); exact BK300.out⟩
         have n3_ : Aside0 ((((w32.setCell ⟨gb317, 0, none⟩ (.int .i64 t311)).setCell ⟨gb317, 1, none⟩ (.bool t312)).setCell ⟨gb317, 2, none⟩ (.slice Ao37 t313.length co37)).heap[gb301]? = some (.cells #[.int .i64 a2_0, .int .i64 a2_1, .int .i64 a2_2, .bool a2_3] 26 (0, 0))) := ⟨by (with_reducible repeat (first | refine blk_drewN ?_ _ | refine blk_drew ?_ | refine blk_alloc ?_ _)); refine blk_far ?_ NB301_317.out _; (with_reducible repeat (first | refine blk_drewN ?_ _ | refine blk_drew ?_ | refine blk_alloc ?_ _)); refine blk_far ?_ NB301_317.out _; (with_reducible repeat (first | refine blk_drewN ?_ _ | refine blk_drew ?_ | refine blk_alloc ?_ _)); refine blk_far ?_ NB301_317.out _; (with_reducible repeat (first | refine blk_drewN ?_ _ | refine blk_drew ?_ | refine blk_alloc ?_ _)); exact BK301.out⟩
         have n4_ : Aside0 ((((w32.setCell ⟨gb317, 0, none⟩ (.int .i64 t311)).setCell ⟨gb317, 1, none⟩ (.bool t312)).setCell ⟨gb317, 2, none⟩ (.slice Ao37 t313.length co37)).heap[gb310]? = some (.cells #[.int .i64 t304, .bool t305, .slice Ao28 t306.length co28] 24 (0, 0))) := ⟨by (with_reducible repeat (first | refine blk_drewN ?_ _ | refine blk_drew ?_ | refine blk_alloc ?_ _)); refine blk_far ?_ NB310_317.out _; (with_reducible repeat (first | refine blk_drewN ?_ _ | refine blk_drew ?_ | refine blk_alloc ?_ _)); refine blk_far ?_ NB310_317.out _; (with_reducible repeat (first | refine blk_drewN ?_ _ | refine blk_drew ?_ | refine blk_alloc ?_ _)); refine blk_far ?_ NB310_317.out _; (with_reducible repeat (first | refine blk_drewN ?_ _ | refine blk_drew ?_ | refine blk_alloc ?_ _)); exact BK310.out⟩
         have n5_ : Aside0 ((((w32.setCell ⟨gb317, 0, none⟩ (.int .i64 t311)).setCell ⟨gb317, 1, none⟩ (.bool t312)).setCell ⟨gb317, 2, none⟩ (.slice Ao37 t313.length co37)).heap[gb317]? = some (.cells #[.int .i64 t311, .bool t312, .slice Ao37 t313.length co37] 24 (0, 0))) := ⟨by (with_reducible repeat (first | refine blk_drewN ?_ _ | refine blk_drew ?_ | refine blk_alloc ?_ _)); refine blk_put (cs := #[.int .i64 t311, .bool t312, .slice none 0 0]) ?_ 2 _ rfl; (with_reducible repeat (first | refine blk_drewN ?_ _ | refine blk_drew ?_ | refine blk_alloc ?_ _)); refine blk_put (cs := #[.int .i64 t311, .bool false, .slice none 0 0]) ?_ 1 _ rfl; (with_reducible repeat (first | refine blk_drewN ?_ _ | refine blk_drew ?_ | refine blk_alloc ?_ _)); refine blk_put (cs := #[.int .i64 0, .bool false, .slice none 0 0]) ?_ 0 _ rfl; (with_reducible repeat (first | refine blk_drewN ?_ _ | refine blk_drew ?_ | refine blk_alloc ?_ _)); exact BK317.out⟩
         have n6_ : Aside0 (Below w.heap.size w (((w32.setCell ⟨gb317, 0, none⟩ (.int .i64 t311)).setCell ⟨gb317, 1, none⟩ (.bool t312)).setCell ⟨gb317, 2, none⟩ (.slice Ao37 t313.length co37))) := ⟨by repeat (first | (with_reducible first | exact HB.out | apply below_alloc | apply pw_below_drewN | apply below_drew1 | refine below_set ?_ GE300.out | refine below_set ?_ GE301.out | refine below_set ?_ GE310.out | refine below_set ?_ GE317.out) | exact HB.out)⟩
         (try clear HO308)
         (try clear HO315)
         (try clear BK300)
         (try clear BK301)
         (try clear BK310)
         (try clear BK317)
         (try clear HB)
         generalize (((w32.setCell ⟨gb317, 0, none⟩ (.int .i64 t311)).setCell ⟨gb317, 1, none⟩ (.bool t312)).setCell ⟨gb317, 2, none⟩ (.slice Ao37 t313.length co37)) = w38 at n0_ n1_ n2_ n3_ n4_ n5_ n6_ ⊢
         have HO308 := n0_
         have HO315 := n1_
         have BK300 := n2_
         have BK301 := n3_
         have BK310 := n4_
         have BK317 := n5_
         have HB := n6_
         clear n0_ n1_ n2_ n3_ n4_ n5_ n6_
         have n0_ := Aside0.mk (Kd.R_drew HO308.out)
         have n1_ := Aside0.mk (Kd.R_drew HO315.out)
         have n2_ := Aside0.mk (blk_drew BK300.out)
         have n3_ := Aside0.mk (blk_drew BK301.out)
         have n4_ := Aside0.mk (blk_drew BK310.out)
         have n5_ := Aside0.mk (blk_drew BK317.out)
         have n6_ := Aside0.mk (below_drew1 HB.out)
         clear HO308
         clear HO315
         clear BK300
         clear BK301
         clear BK310
         clear BK317
         clear HB
         have HO308 := n0_
         have HO315 := n1_
         have BK300 := n2_
         have BK301 := n3_
         have BK310 := n4_
         have BK317 := n5_
         have HB := n6_
         clear n0_ n1_ n2_ n3_ n4_ n5_ n6_
         refine start_ (n := 18) (S := fun w' => w'.cell? ⟨gb300, 0, none⟩ = some (.int .i64 a1_0) ∧ w'.cell? ⟨gb300, 1, none⟩ = some (.bool a1_1) ∧ w'.cell? ⟨gb300, 2, none⟩ = some (.slice A1_2 l1_2.length c1_2) ∧ w'.cell? ⟨gb310, 0, none⟩ = some (.int .i64 t304) ∧ w'.cell? ⟨gb310, 1, none⟩ = some (.bool t305) ∧ w'.cell? ⟨gb310, 2, none⟩ = some (.slice Ao28 t306.length co28) ∧ w'.cell? ⟨gb317, 0, none⟩ = some (.int .i64 t311) ∧ w'.cell? ⟨gb317, 1, none⟩ = some (.bool t312) ∧ w'.cell? ⟨gb317, 2, none⟩ = some (.slice Ao37 t313.length co37)) (ds := []) #[false, false, false, false, false, false, false, false, false, false, false, false, false, false, false, false, false, false] (by kernel_rfl) rfl rfl ⟨(blk_cell BK300.out 0).trans rfl, (blk_cell BK300.out 1).trans rfl, (blk_cell BK300.out 2).trans rfl, (blk_cell BK310.out 0).trans rfl, (blk_cell BK310.out 1).trans rfl, (blk_cell BK310.out 2).trans rfl, (blk_cell BK317.out 0).trans rfl, (blk_cell BK317.out 1).trans rfl, (blk_cell BK317.out 2).trans rfl⟩ (fun hHeld => ?_); refine with_tabW masterdisclaw14_TocOperations.tab7 masterdisclaw14_TocOperations.bits7 (fun HT_ HW_ => ?_)
         generalize w38.drew = w39 at HO308 HO315 BK300 BK301 BK310 BK317 HB hHeld ⊢
         refine pure_ (i := 0) (N := some 30) (v := ?_) (a' := ?_) #[true, false, false, false, false, false, false, false, false, false, false, false, false, false, false, false, false, false] rfl rfl (any_of HT_.out (by kernel_rfl)) (fun _ _ _ h => h) (Or.inl ⟨by rfl, ?_⟩) ?_ ?_
         rotate_left
         · intro w'
           go_simp
           with_reducible rfl
         rotate_left
         · simp only [Act.put, List.setIfInBounds_toArray, List.set_cons_zero, List.set_cons_succ, i64_w, i32_w]
           rfl
         refine pure_ (i := 3) (N := some 33) (v := ?_) (a' := ?_) #[true, false, false, true, false, false, false, false, false, false, false, false, false, false, false, false, false, false] rfl rfl (any_of HT_.out (by kernel_rfl)) (fun _ _ _ h => h) (Or.inl ⟨by rfl, ?_⟩) ?_ ?_
         rotate_left
         · intro w'
           go_simp
           with_reducible rfl
         rotate_left
         · simp only [Act.put, List.setIfInBounds_toArray, List.set_cons_zero, List.set_cons_succ, i64_w, i32_w]
           rfl
         refine take_ (i := 1) (N := some 31) (v := ?_) (a' := ?_) #[true, true, false, true, false, false, false, false, false, false, false, false, false, false, false, false, false, false] rfl rfl (take_ofW HT_.out HW_.out (by kernel_rfl)) (fun _ _ _ h => h) (Or.inl ⟨by rfl, ?_⟩) hHeld ?_ ?_
         rotate_left
         · rintro w' ⟨s0, s1, s2, s3, s4, s5, s6, s7, s8⟩
           go_simp
           with_reducible rfl
         rotate_left
         · simp only [Act.put, List.setIfInBounds_toArray, List.set_cons_zero, List.set_cons_succ, i64_w, i32_w]
           rfl
         refine take_ (i := 4) (N := some 34) (v := ?_) (a' := ?_) #[true, true, false, true, true, false, false, false, false, false, false, false, false, false, false, false, false, false] rfl rfl (take_ofW HT_.out HW_.out (by kernel_rfl)) (fun _ _ _ h => h) (Or.inl ⟨by rfl, ?_⟩) hHeld ?_ ?_
         rotate_left
         · rintro w' ⟨s0, s1, s2, s3, s4, s5, s6, s7, s8⟩
           go_simp
           with_reducible rfl
         rotate_left
         · simp only [Act.put, List.setIfInBounds_toArray, List.set_cons_zero, List.set_cons_succ, i64_w, i32_w]
           rfl
         refine one_ (i := 2) (N := some 32) #[true, true, true, true, true, false, false, false, false, false, false, false, false, false, false, false, false, false] rfl rfl (one_of HT_.out (by kernel_rfl)) (by decide) (fun K hK => ?_)
         refine goes_ Try.func10 (by kernel_rfl) rfl #[.int .i64 a0, .agg #[.int .i64 a1_0, .bool a1_1, .slice A1_2 l1_2.length c1_2]] (by rfl) rfl rfl (by (try simp only [List.map_toArray, List.map_cons, List.map_nil]); first | done | rfl | (simp only [List.length_drop, List.length_take]; rfl)) ?_
         with_reducible refine (toc_Valid.calls a0 a1_0 a1_1 _ _ l1_2 t318 _ ?side1 ?side2 A10.out).mono ?_
         (case side1 => repeat (first | exact (Kd.C_below HR1_2.out HB.out) | (with_reducible refine Kd.C_alloc ?_ _) | (with_reducible refine Kd.C_drewN ?_ _) | (with_reducible refine Kd.C_drew ?_)))
         (case side2 => exact HC1_2.out)
         rintro e w40 ⟨rfl, hb⟩
         refine ⟨_, rfl, ?_⟩
         have n0_ := Aside0.mk (Kd.R_below (by (with_reducible repeat (first | apply Kd.R_alloc | apply Kd.R_drewN | apply Kd.R_drew)); exact HO308.out) hb)
         have n1_ := Aside0.mk (Kd.R_below (by (with_reducible repeat (first | apply Kd.R_alloc | apply Kd.R_drewN | apply Kd.R_drew)); exact HO315.out) hb)
         have n2_ := Aside0.mk (blk_below (g := gb300) (o := .cells #[.int .i64 a1_0, .bool a1_1, .slice A1_2 l1_2.length c1_2] 24 (0, 0)) (by (with_reducible repeat (first | refine blk_drewN ?_ _ | refine blk_drew ?_ | refine blk_alloc ?_ _)); exact BK300.out) hb)
         have n3_ := Aside0.mk (blk_below (g := gb301) (o := .cells #[.int .i64 a2_0, .int .i64 a2_1, .int .i64 a2_2, .bool a2_3] 26 (0, 0)) (by (with_reducible repeat (first | refine blk_drewN ?_ _ | refine blk_drew ?_ | refine blk_alloc ?_ _)); exact BK301.out) hb)
         have n4_ := Aside0.mk (blk_below (g := gb310) (o := .cells #[.int .i64 t304, .bool t305, .slice Ao28 t306.length co28] 24 (0, 0)) (by (with_reducible repeat (first | refine blk_drewN ?_ _ | refine blk_drew ?_ | refine blk_alloc ?_ _)); exact BK310.out) hb)
         have n5_ := Aside0.mk (blk_below (g := gb317) (o := .cells #[.int .i64 t311, .bool t312, .slice Ao37 t313.length co37] 24 (0, 0)) (by (with_reducible repeat (first | refine blk_drewN ?_ _ | refine blk_drew ?_ | refine blk_alloc ?_ _)); exact BK317.out) hb)
         have n6_ := Aside0.mk (below_step (by repeat (first | (with_reducible first | exact HB.out | apply below_alloc | apply pw_below_drewN | apply below_drew1 | refine below_set ?_ GE300.out | refine below_set ?_ GE301.out | refine below_set ?_ GE310.out | refine below_set ?_ GE317.out) | exact HB.out)) hb)
         clear HO308
         clear HO315
         clear BK300
         clear BK301
         clear BK310
         clear BK317
         clear HB
         have HO308 := n0_
         have HO315 := n1_
         have BK300 := n2_
         have BK301 := n3_
         have BK310 := n4_
         have BK317 := n5_
         have HB := n6_
         clear n0_ n1_ n2_ n3_ n4_ n5_ n6_
         (try clear hb)
         (try clear hb2)
         (try clear hk)
         (try clear hi)
         refine hK.out _ _ ⟨(blk_cell BK300.out 0).trans rfl, (blk_cell BK300.out 1).trans rfl, (blk_cell BK300.out 2).trans rfl, (blk_cell BK310.out 0).trans rfl, (blk_cell BK310.out 1).trans rfl, (blk_cell BK310.out 2).trans rfl, (blk_cell BK317.out 0).trans rfl, (blk_cell BK317.out 1).trans rfl, (blk_cell BK317.out 2).trans rfl⟩ (fun hHeld => ?_)
         clear hK K
         refine norm_ (a' := ?_) ?_ ?_
         rotate_left
         · show Act.put _ (some 32) _ = _
           simp only [Act.put, List.setIfInBounds_toArray, List.set_cons_zero, List.set_cons_succ, i64_w, i32_w]
           rfl
         refine one_ (i := 5) (N := some 35) #[true, true, true, true, true, true, false, false, false, false, false, false, false, false, false, false, false, false] rfl rfl (one_of HT_.out (by kernel_rfl)) (by decide) (fun K hK => ?_)
         refine goes_ Try.func11 (by kernel_rfl) rfl #[.int .i64 a0, .agg #[.int .i64 a1_0, .bool a1_1, .slice A1_2 l1_2.length c1_2]] (by rfl) rfl rfl (by (try simp only [List.map_toArray, List.map_cons, List.map_nil]); first | done | rfl | (simp only [List.length_drop, List.length_take]; rfl)) ?_
         with_reducible refine (masterdiscref14_Valid.calls a0 a1_0 a1_1 _ _ l1_2 t319 _ ?side1 ?side2 A11.out).mono ?_
         (case side1 => repeat (first | exact (Kd.C_below HR1_2.out HB.out) | (with_reducible refine Kd.C_alloc ?_ _) | (with_reducible refine Kd.C_drewN ?_ _) | (with_reducible refine Kd.C_drew ?_)))
         (case side2 => exact HC1_2.out)
         rintro e w41 ⟨rfl, hb⟩
         refine ⟨_, rfl, ?_⟩
         have n0_ := Aside0.mk (Kd.R_below (by (with_reducible repeat (first | apply Kd.R_alloc | apply Kd.R_drewN | apply Kd.R_drew)); exact HO308.out) hb)
         have n1_ := Aside0.mk (Kd.R_below (by (with_reducible repeat (first | apply Kd.R_alloc | apply Kd.R_drewN | apply Kd.R_drew)); exact HO315.out) hb)
         have n2_ := Aside0.mk (blk_below (g := gb300) (o := .cells #[.int .i64 a1_0, .bool a1_1, .slice A1_2 l1_2.length c1_2] 24 (0, 0)) (by (with_reducible repeat (first | refine blk_drewN ?_ _ | refine blk_drew ?_ | refine blk_alloc ?_ _)); exact BK300.out) hb)
         have n3_ := Aside0.mk (blk_below (g := gb301) (o := .cells #[.int .i64 a2_0, .int .i64 a2_1, .int .i64 a2_2, .bool a2_3] 26 (0, 0)) (by (with_reducible repeat (first | refine blk_drewN ?_ _ | refine blk_drew ?_ | refine blk_alloc ?_ _)); exact BK301.out) hb)
         have n4_ := Aside0.mk (blk_below (g := gb310) (o := .cells #[.int .i64 t304, .bool t305, .slice Ao28 t306.length co28] 24 (0, 0)) (by (with_reducible repeat (first | refine blk_drewN ?_ _ | refine blk_drew ?_ | refine blk_alloc ?_ _)); exact BK310.out) hb)
         have n5_ := Aside0.mk (blk_below (g := gb317) (o := .cells #[.int .i64 t311, .bool t312, .slice Ao37 t313.length co37] 24 (0, 0)) (by (with_reducible repeat (first | refine blk_drewN ?_ _ | refine blk_drew ?_ | refine blk_alloc ?_ _)); exact BK317.out) hb)
         have n6_ := Aside0.mk (below_step (by repeat (first | (with_reducible first | exact HB.out | apply below_alloc | apply pw_below_drewN | apply below_drew1 | refine below_set ?_ GE300.out | refine below_set ?_ GE301.out | refine below_set ?_ GE310.out | refine below_set ?_ GE317.out) | exact HB.out)) hb)
         clear HO308
         clear HO315
         clear BK300
         clear BK301
         clear BK310
         clear BK317
         clear HB
         have HO308 := n0_
         have HO315 := n1_
         have BK300 := n2_
         have BK301 := n3_
         have BK310 := n4_
         have BK317 := n5_
         have HB := n6_
         clear n0_ n1_ n2_ n3_ n4_ n5_ n6_
         (try clear hb)
         (try clear hb2)
         (try clear hk)
         (try clear hi)
         refine hK.out _ _ ⟨(blk_cell BK300.out 0).trans rfl, (blk_cell BK300.out 1).trans rfl, (blk_cell BK300.out 2).trans rfl, (blk_cell BK310.out 0).trans rfl, (blk_cell BK310.out 1).trans rfl, (blk_cell BK310.out 2).trans rfl, (blk_cell BK317.out 0).trans rfl, (blk_cell BK317.out 1).trans rfl, (blk_cell BK317.out 2).trans rfl⟩ (fun hHeld => ?_)
         clear hK K
         refine norm_ (a' := ?_) ?_ ?_
         rotate_left
         · show Act.put _ (some 35) _ = _
           simp only [Act.put, List.setIfInBounds_toArray, List.set_cons_zero, List.set_cons_succ, i64_w, i32_w]
           rfl
         refine pure_ (i := 6) (N := some 36) (v := ?_) (a' := ?_) #[true, true, true, true, true, true, true, false, false, false, false, false, false, false, false, false, false, false] rfl rfl (any_of HT_.out (by kernel_rfl)) (fun _ _ _ h => h) (Or.inl ⟨by rfl, ?_⟩) ?_ ?_
         rotate_left
         · intro w'
           go_simp
           with_reducible rfl
         rotate_left
         · simp only [Act.put, List.setIfInBounds_toArray, List.set_cons_zero, List.set_cons_succ, i64_w, i32_w]
           rfl
         refine pure_ (i := 7) (N := some 37) (v := ?_) (a' := ?_) #[true, true, true, true, true, true, true, true, false, false, false, false, false, false, false, false, false, false] rfl rfl (any_of HT_.out (by kernel_rfl)) (fun _ _ _ h => h) (Or.inl ⟨by rfl, ?_⟩) ?_ ?_
         rotate_left
         · intro w'
           go_simp
           with_reducible rfl
         rotate_left
         · simp only [Act.put, List.setIfInBounds_toArray, List.set_cons_zero, List.set_cons_succ, i64_w, i32_w]
           rfl
         refine take_ (i := 8) (N := some 38) (v := ?_) (a' := ?_) #[true, true, true, true, true, true, true, true, true, false, false, false, false, false, false, false, false, false] rfl rfl (take_ofW HT_.out HW_.out (by kernel_rfl)) (fun _ _ _ h => h) (Or.inl ⟨by rfl, ?_⟩) hHeld ?_ ?_
         rotate_left
         · rintro w' ⟨s0, s1, s2, s3, s4, s5, s6, s7, s8⟩
           go_simp
           with_reducible rfl
         rotate_left
         · simp only [Act.put, List.setIfInBounds_toArray, List.set_cons_zero, List.set_cons_succ, i64_w, i32_w]
           rfl
         refine take_ (i := 9) (N := some 39) (v := ?_) (a' := ?_) #[true, true, true, true, true, true, true, true, true, true, false, false, false, false, false, false, false, false] rfl rfl (take_ofW HT_.out HW_.out (by kernel_rfl)) (fun _ _ _ h => h) (Or.inl ⟨by rfl, ?_⟩) hHeld ?_ ?_
         rotate_left
         · rintro w' ⟨s0, s1, s2, s3, s4, s5, s6, s7, s8⟩
           go_simp
           with_reducible rfl
         rotate_left
         · simp only [Act.put, List.setIfInBounds_toArray, List.set_cons_zero, List.set_cons_succ, i64_w, i32_w]
           rfl
         refine one_ (i := 10) (N := some 40) #[true, true, true, true, true, true, true, true, true, true, true, false, false, false, false, false, false, false] rfl rfl (one_of HT_.out (by kernel_rfl)) (by decide) (fun K hK => ?_)
         refine goes_ Try.func12 (by kernel_rfl) rfl #[.agg #[.int .i64 t304, .bool t305, .slice Ao28 t306.length co28], .agg #[.int .i64 t311, .bool t312, .slice Ao37 t313.length co37]] (by rfl) rfl rfl (by (try simp only [List.map_toArray, List.map_cons, List.map_nil]); first | done | rfl | (simp only [List.length_drop, List.length_take]; rfl)) ?_
         with_reducible refine (masterdiscref14_Same.calls k t304 t305 _ _ t306 t311 t312 _ _ t313 true _ ?side1 ?side2 ?side3 ?side4 A13.out).mono ?_
         (case side1 => repeat (first | exact (Kd.R_reads' HO308.out).2.2 | (with_reducible refine Kd.C_alloc ?_ _) | (with_reducible refine Kd.C_drewN ?_ _) | (with_reducible refine Kd.C_drew ?_)))
         (case side2 => exact (Kd.R_reads' HO308.out).2.1)
         (case side3 => repeat (first | exact (Kd.R_reads' HO315.out).2.2 | (with_reducible refine Kd.C_alloc ?_ _) | (with_reducible refine Kd.C_drewN ?_ _) | (with_reducible refine Kd.C_drew ?_)))
         (case side4 => exact (Kd.R_reads' HO315.out).2.1)
         rintro e w42 ⟨rfl, hb⟩
         refine ⟨_, rfl, ?_⟩
         have n0_ := Aside0.mk (Kd.R_below (by (with_reducible repeat (first | apply Kd.R_alloc | apply Kd.R_drewN | apply Kd.R_drew)); exact HO308.out) hb)
         have n1_ := Aside0.mk (Kd.R_below (by (with_reducible repeat (first | apply Kd.R_alloc | apply Kd.R_drewN | apply Kd.R_drew)); exact HO315.out) hb)
         have n2_ := Aside0.mk (blk_below (g := gb300) (o := .cells #[.int .i64 a1_0, .bool a1_1, .slice A1_2 l1_2.length c1_2] 24 (0, 0)) (by (with_reducible repeat (first | refine blk_drewN ?_ _ | refine blk_drew ?_ | refine blk_alloc ?_ _)); exact BK300.out) hb)
         have n3_ := Aside0.mk (blk_below (g := gb301) (o := .cells #[.int .i64 a2_0, .int .i64 a2_1, .int .i64 a2_2, .bool a2_3] 26 (0, 0)) (by (with_reducible repeat (first | refine blk_drewN ?_ _ | refine blk_drew ?_ | refine blk_alloc ?_ _)); exact BK301.out) hb)
         have n4_ := Aside0.mk (blk_below (g := gb310) (o := .cells #[.int .i64 t304, .bool t305, .slice Ao28 t306.length co28] 24 (0, 0)) (by (with_reducible repeat (first | refine blk_drewN ?_ _ | refine blk_drew ?_ | refine blk_alloc ?_ _)); exact BK310.out) hb)
         have n5_ := Aside0.mk (blk_below (g := gb317) (o := .cells #[.int .i64 t311, .bool t312, .slice Ao37 t313.length co37] 24 (0, 0)) (by (with_reducible repeat (first | refine blk_drewN ?_ _ | refine blk_drew ?_ | refine blk_alloc ?_ _)); exact BK317.out) hb)
         have n6_ := Aside0.mk (below_step (by repeat (first | (with_reducible first | exact HB.out | apply below_alloc | apply pw_below_drewN | apply below_drew1 | refine below_set ?_ GE300.out | refine below_set ?_ GE301.out | refine below_set ?_ GE310.out | refine below_set ?_ GE317.out) | exact HB.out)) hb)
         clear HO308
         clear HO315
         clear BK300
         clear BK301
         clear BK310
         clear BK317
         clear HB
         have HO308 := n0_
         have HO315 := n1_
         have BK300 := n2_
         have BK301 := n3_
         have BK310 := n4_
         have BK317 := n5_
         have HB := n6_
         clear n0_ n1_ n2_ n3_ n4_ n5_ n6_
         (try clear hb)
         (try clear hb2)
         (try clear hk)
         (try clear hi)
         refine hK.out _ _ ⟨(blk_cell BK300.out 0).trans rfl, (blk_cell BK300.out 1).trans rfl, (blk_cell BK300.out 2).trans rfl, (blk_cell BK310.out 0).trans rfl, (blk_cell BK310.out 1).trans rfl, (blk_cell BK310.out 2).trans rfl, (blk_cell BK317.out 0).trans rfl, (blk_cell BK317.out 1).trans rfl, (blk_cell BK317.out 2).trans rfl⟩ (fun hHeld => ?_)
         clear hK K
         refine norm_ (a' := ?_) ?_ ?_
         rotate_left
         · show Act.put _ (some 40) _ = _
           simp only [Act.put, List.setIfInBounds_toArray, List.set_cons_zero, List.set_cons_succ, i64_w, i32_w]
           rfl
         refine pure_ (i := 11) (N := some 41) (v := ?_) (a' := ?_) #[true, true, true, true, true, true, true, true, true, true, true, true, false, false, false, false, false, false] rfl rfl (any_of HT_.out (by kernel_rfl)) (fun _ _ _ h => h) (Or.inl ⟨by rfl, ?_⟩) ?_ ?_
         rotate_left
         · intro w'
           go_simp
           with_reducible rfl
         rotate_left
         · simp only [Act.put, List.setIfInBounds_toArray, List.set_cons_zero, List.set_cons_succ, i64_w, i32_w]
           rfl
         refine pure_ (i := 12) (N := some 42) (v := ?_) (a' := ?_) #[true, true, true, true, true, true, true, true, true, true, true, true, true, false, false, false, false, false] rfl rfl (any_of HT_.out (by kernel_rfl)) (fun _ _ _ h => h) (Or.inl ⟨by rfl, ?_⟩) ?_ ?_
         rotate_left
         · intro w'
           go_simp
           with_reducible rfl
         rotate_left
         · simp only [Act.put, List.setIfInBounds_toArray, List.set_cons_zero, List.set_cons_succ, i64_w, i32_w]
           rfl
         refine pure_ (i := 13) (N := some 43) (v := ?_) (a' := ?_) #[true, true, true, true, true, true, true, true, true, true, true, true, true, true, false, false, false, false] rfl rfl (any_of HT_.out (by kernel_rfl)) (fun _ _ _ h => h) (Or.inl ⟨by rfl, ?_⟩) ?_ ?_
         rotate_left
         · intro w'
           go_simp
           with_reducible rfl
         rotate_left
         · simp only [Act.put, List.setIfInBounds_toArray, List.set_cons_zero, List.set_cons_succ, i64_w, i32_w]
           rfl
         refine pure_ (i := 14) (N := some 44) (v := ?_) (a' := ?_) #[true, true, true, true, true, true, true, true, true, true, true, true, true, true, true, false, false, false] rfl rfl (any_of HT_.out (by kernel_rfl)) (fun _ _ _ h => h) (Or.inl ⟨by rfl, ?_⟩) ?_ ?_
         rotate_left
         · intro w'
           go_simp
           with_reducible rfl
         rotate_left
         · simp only [Act.put, List.setIfInBounds_toArray, List.set_cons_zero, List.set_cons_succ, i64_w, i32_w]
           rfl
         refine pure_ (i := 15) (N := some 45) (v := ?_) (a' := ?_) #[true, true, true, true, true, true, true, true, true, true, true, true, true, true, true, true, false, false] rfl rfl (any_of HT_.out (by kernel_rfl)) (fun _ _ _ h => h) (Or.inl ⟨by rfl, ?_⟩) ?_ ?_
         rotate_left
         · intro w'
           go_simp
           with_reducible rfl
         rotate_left
         · simp only [Act.put, List.setIfInBounds_toArray, List.set_cons_zero, List.set_cons_succ, i64_w, i32_w]
           rfl
         refine pure_ (i := 16) (N := some 46) (v := ?_) (a' := ?_) #[true, true, true, true, true, true, true, true, true, true, true, true, true, true, true, true, true, false] rfl rfl (any_of HT_.out (by kernel_rfl)) (fun _ _ _ h => h) (Or.inl ⟨by rfl, ?_⟩) ?_ ?_
         rotate_left
         · intro w'
           go_simp
           with_reducible rfl
         rotate_left
         · simp only [Act.put, List.setIfInBounds_toArray, List.set_cons_zero, List.set_cons_succ, i64_w, i32_w]
           rfl
         refine pure_ (i := 17) (N := some 6) (v := ?_) (a' := ?_) #[true, true, true, true, true, true, true, true, true, true, true, true, true, true, true, true, true, true] rfl rfl (any_of HT_.out (by kernel_rfl)) (fun _ _ _ h => h) (Or.inl ⟨by rfl, ?_⟩) ?_ ?_
         rotate_left
         · intro w'
           go_simp
           with_reducible rfl
         rotate_left
         · simp only [Act.put, List.setIfInBounds_toArray, List.set_cons_zero, List.set_cons_succ, i64_w, i32_w]
           rfl
         refine done_ (done_of HT_.out (by kernel_rfl)) ?_
         try go_wp2
         go_ret
         exact ⟨by first | rfl | (simp [errW_none, errW_some] <;> rfl) | (simp [*, errW_none, errW_some] <;> rfl), by repeat (first | (with_reducible first | exact HB.out | apply below_alloc | apply pw_below_drewN | apply below_drew1 | refine below_set ?_ GE300.out | refine below_set ?_ GE301.out | refine below_set ?_ GE310.out | refine below_set ?_ GE317.out) | exact HB.out)⟩
       · replace c14 := Bool.eq_false_iff.mpr c14
         subst c14
         have H1 : (none) = some r := by rw [if_neg (show ¬ (false = true) by decide)] at H; exact H
         clear H
         have H := H1
         clear H1
         exact absurd H (by simp)
     · rw [if_neg c12] at H
       have c12b0 : (t318 == t319) = false := by simpa using c12
       (try (have c12b1 : decide (t318 = t319) = false := by simpa using c12))
       (try (have c12b2 : (t318 == t319) = false := by simpa using c12))
       (try (have c12b3 : ¬ (t318 = t319) := by simpa using c12))
       clear c12
       exact absurd H (by simp)
   · replace c7 := Bool.eq_false_iff.mpr c7
     subst c7
     have H1 : (some true) = some r := by rw [if_neg (show ¬ (false = true) by decide)] at H; exact H
     clear H
     have H := H1
     clear H1
     obtain rfl := Option.some.inj H
     go_enter Try.func3, Try.ntmps3
     go_wp2_with (first | ((with_reducible refine gate_dst (N := 4) rfl ?_); refine box_event ?hg (N := 4) ?hd (cs := #[.int .i64 a1_0, .bool a1_1, .slice A1_2 l1_2.length c1_2]) (t := 24) ?hr ?_; (case hd => rfl); (case hg => rfl); (case hr => first | (go_simp; done) | (go_simp; rfl)); intro gb300 hg w43 hbox hb; have n0_ := Aside0.mk (below_step (by repeat (first | (with_reducible first | exact HB.out | apply below_alloc | apply pw_below_drewN | apply below_drew1) | exact HB.out)) hb); have n1_ := Aside0.mk (hbox); have n2_ := Aside0.mk ((by rw [hg]; exact (below_size (by repeat (first | (with_reducible first | exact HB.out | apply below_alloc | apply pw_below_drewN | apply below_drew1) | exact HB.out))) : w.heap.size ≤ gb300)); have n3_ := Aside0.mk ((by rw [hg]; exact (below_size (by repeat (first | (with_reducible first | exact HB.out | apply below_alloc | apply pw_below_drewN | apply below_drew1) | exact HB.out))) : w.heap.size ≤ gb300)); clear HB; have HB := n0_; have BK300 := n1_; have GW300 := n2_; have GE300 := n3_; clear n0_ n1_ n2_ n3_; clear hb hbox hg) | ((with_reducible refine gate_dst (N := 5) rfl ?_); refine box_event ?hg (N := 5) ?hd (cs := #[.int .i64 a2_0, .int .i64 a2_1, .int .i64 a2_2, .bool a2_3]) (t := 26) ?hr ?_; (case hd => rfl); (case hg => rfl); (case hr => first | (go_simp; done) | (go_simp; rfl)); intro gb301 hg w44 hbox hb; have n0_ := Aside0.mk (blk_below (g := gb300) (o := .cells #[.int .i64 a1_0, .bool a1_1, .slice A1_2 l1_2.length c1_2] 24 (0, 0)) (by (with_reducible repeat (first | refine blk_drewN ?_ _ | refine blk_drew ?_ | refine blk_alloc ?_ _)); exact BK300.out) hb); have n1_ := Aside0.mk (below_step (by repeat (first | (with_reducible first | exact HB.out | apply below_alloc | apply pw_below_drewN | apply below_drew1 | refine below_set ?_ GE300.out) | exact HB.out)) hb); have n2_ := Aside0.mk (hbox); have n3_ := Aside0.mk ((by rw [hg]; exact (below_size (by repeat (first | (with_reducible first | exact HB.out | apply below_alloc | apply pw_below_drewN | apply below_drew1 | refine below_set ?_ GE300.out) | exact HB.out))) : w.heap.size ≤ gb301)); have n4_ := Aside0.mk ((by rw [hg]; exact (below_size (by repeat (first | (with_reducible first | exact HB.out | apply below_alloc | apply pw_below_drewN | apply below_drew1 | refine below_set ?_ GE300.out) | exact HB.out))) : w.heap.size ≤ gb301)); have n5_ := Aside0.mk ((by rw [hg]; exact Nat.ne_of_lt (blk_lt (g := gb300) (o := .cells #[.int .i64 a1_0, .bool a1_1, .slice A1_2 l1_2.length c1_2] 24 (0, 0)) (by (with_reducible repeat (first | refine blk_drewN ?_ _ | refine blk_drew ?_ | refine blk_alloc ?_ _)); exact BK300.out)) : gb300 ≠ gb301)); have n6_ := Aside0.mk ((by rw [hg]; exact Nat.ne_of_gt (blk_lt (g := gb300) (o := .cells #[.int .i64 a1_0, .bool a1_1, .slice A1_2 l1_2.length c1_2] 24 (0, 0)) (by (with_reducible repeat (first | refine blk_drewN ?_ _ | refine blk_drew ?_ | refine blk_alloc ?_ _)); exact BK300.out)) : gb301 ≠ gb300)); clear BK300; clear HB; have BK300 := n0_; have HB := n1_; have BK301 := n2_; have GW301 := n3_; have GE301 := n4_; have NB300_301 := n5_; have NB301_300 := n6_; clear n0_ n1_ n2_ n3_ n4_ n5_ n6_; clear hb hbox hg) | ((with_reducible refine gate_callee (f := 6) rfl ?_); refine goesL_ (some 11) rfl rfl Try.func6 (by kernel_rfl) rfl #[] rfl (by (try simp only [List.map_toArray, List.map_cons, List.map_nil]); first | done | rfl | (simp only [List.length_drop, List.length_take]; rfl)) ?_; (with_reducible refine (masterdisclaw14_awake.calls k  true _ A4.out).mono ?_); rintro e w45 ⟨rfl, hb⟩; refine ⟨_, rfl, ?_⟩; have n0_ := Aside0.mk (blk_below (g := gb300) (o := .cells #[.int .i64 a1_0, .bool a1_1, .slice A1_2 l1_2.length c1_2] 24 (0, 0)) (by (with_reducible repeat (first | refine blk_drewN ?_ _ | refine blk_drew ?_ | refine blk_alloc ?_ _)); exact BK300.out) hb); have n1_ := Aside0.mk (blk_below (g := gb301) (o := .cells #[.int .i64 a2_0, .int .i64 a2_1, .int .i64 a2_2, .bool a2_3] 26 (0, 0)) (by (with_reducible repeat (first | refine blk_drewN ?_ _ | refine blk_drew ?_ | refine blk_alloc ?_ _)); exact BK301.out) hb); have n2_ := Aside0.mk (below_step (by repeat (first | (with_reducible first | exact HB.out | apply below_alloc | apply pw_below_drewN | apply below_drew1 | refine below_set ?_ GE300.out | refine below_set ?_ GE301.out) | exact HB.out)) hb); clear BK300; clear BK301; clear HB; have BK300 := n0_; have BK301 := n1_; have HB := n2_; clear n0_ n1_ n2_; (try clear hb); (try clear hb2); (try clear hk); (try clear hi); have hnb46 := NB300_301.out; have hnc46 := NB301_300.out; obtain ⟨hcz47_0, hcz47_1, hcz47_2⟩ := cel3 BK300.out; obtain ⟨hfz47_0, hfz47_1, hfz47_2⟩ := frz3 BK300.out) | ((with_reducible refine gate_callee (f := 7) rfl ?_); refine goesL_ (some 14) rfl rfl Try.func7 (by kernel_rfl) rfl #[.agg #[.int .i64 a1_0, .bool a1_1, .slice A1_2 l1_2.length c1_2]] rfl (by (try simp only [List.map_toArray, List.map_cons, List.map_nil]); first | done | rfl | (simp only [List.length_drop, List.length_take]; rfl)) ?_; (with_reducible refine (masterdiscref14_Few.calls k a1_0 a1_1 _ _ l1_2 false _ ?side1 ?side2 A6.out).mono ?_); (case side1 => repeat (first | exact (Kd.C_below HR1_2.out HB.out) | (with_reducible refine Kd.C_alloc ?_ _) | (with_reducible refine Kd.C_drewN ?_ _) | (with_reducible refine Kd.C_drew ?_))); (case side2 => exact HC1_2.out); rintro e w48 ⟨rfl, hb⟩; refine ⟨_, rfl, ?_⟩; have n0_ := Aside0.mk (blk_below (g := gb300) (o := .cells #[.int .i64 a1_0, .bool a1_1, .slice A1_2 l1_2.length c1_2] 24 (0, 0)) (by (with_reducible repeat (first | refine blk_drewN ?_ _ | refine blk_drew ?_ | refine blk_alloc ?_ _)); exact BK300.out) hb); have n1_ := Aside0.mk (blk_below (g := gb301) (o := .cells #[.int .i64 a2_0, .int .i64 a2_1, .int .i64 a2_2, .bool a2_3] 26 (0, 0)) (by (with_reducible repeat (first | refine blk_drewN ?_ _ | refine blk_drew ?_ | refine blk_alloc ?_ _)); exact BK301.out) hb); have n2_ := Aside0.mk (below_step (by repeat (first | (with_reducible first | exact HB.out | apply below_alloc | apply pw_below_drewN | apply below_drew1 | refine below_set ?_ GE300.out | refine below_set ?_ GE301.out) | exact HB.out)) hb); clear BK300; clear BK301; clear HB; have BK300 := n0_; have BK301 := n1_; have HB := n2_; clear n0_ n1_ n2_; (try clear hb); (try clear hb2); (try clear hk); (try clear hi)))
     go_ret
     exact ⟨by first | rfl | (simp [errW_none, errW_some] <;> rfl) | (simp [*, errW_none, errW_some] <;> rfl), by repeat (first | (with_reducible first | exact HB.out | apply below_alloc | apply pw_below_drewN | apply below_drew1 | refine below_set ?_ GE300.out | refine below_set ?_ GE301.out) | exact HB.out)⟩
 · replace c5 := Bool.eq_false_iff.mpr c5
   subst c5
   have H1 : (none) = some r := by rw [if_neg (show ¬ (false = true) by decide)] at H; exact H
   clear H
   have H := H1
   clear H1
   exact absurd H (by simp)
end Go.Proofs.Ytjhepdcdhabcjaa.G
namespace Go.Proofs.Ytjhepdcdhabcjaa.G
open Go.RowKit Go.Proofs.YtjhepdcdhabcjaaW.PrintWords Go.Proofs.YtjhepdcdhabcjaaW.PrintLast Go.Proofs.YtjhepdcdhabcjaaW.PrintMore
set_option linter.unusedVariables false
set_option linter.unusedSimpArgs false
theorem do_ref (k : Nat) (cap cl : Int) (fin : Bool) (l : List S40) (kind a b : Int) (fz : Bool) : masterdiscref14_Do.f (k + 2 * l.length + 4) cap cl fin l kind a b fz = some (opDo cap cl fin l kind a b fz) := by
 unfold masterdiscref14_Do.f opDo
 obtain ⟨v, hv⟩ := valid_some cap cl fin l
 cases v with
 | false =>
  rw [if_neg (show ¬ masterdiscref14_Valid.f cap cl fin l = some true from fun h => by rw [hv] at h; cases h)]
  have h1 : masterdiscref14_Reserve.f (k + 2 * l.length + 4) cap cl fin l a b = some (0, false, [], 1) := by unfold masterdiscref14_Reserve.f; rw [hv]; rfl
  have h2 : masterdiscref14_Append.f (k + 2 * l.length + 4) cap cl fin l a b = some (0, false, [], 1) := by unfold masterdiscref14_Append.f; rw [hv]; rfl
  have h3 : masterdiscref14_CloseTrack.f (k + 2 * l.length + 4) cap cl fin l a = some (0, false, [], 1) := by unfold masterdiscref14_CloseTrack.f; rw [hv]; rfl
  have h4 : masterdiscref14_CloseSession.f (k + 2 * l.length + 4) cap cl fin l fz = some (0, false, [], 1) := by unfold masterdiscref14_CloseSession.f; rw [hv]; rfl
  rw [h1, h2, h3, h4]
  simp only [Option.bind]
  split
  · rfl
  · split
    · rfl
    · split <;> rfl
 | true =>
  rw [if_pos hv]
  have h1 : masterdiscref14_Reserve.f (k + 2 * l.length + 4) cap cl fin l a b = _ := reserve_ref (k + 2 * l.length) cap cl fin l a b hv
  have h2 : masterdiscref14_Append.f (k + 2 * l.length + 4) cap cl fin l a b = some (opAppend cl fin l a b) := by
   have := append_ref (k + 1) cap cl fin l a b hv
   rwa [show k + 1 + 2 * l.length + 3 = k + 2 * l.length + 4 by omega] at this
  have h3 : masterdiscref14_CloseTrack.f (k + 2 * l.length + 4) cap cl fin l a = some (opCloseT cl fin l a) := closeT_ref (k + 2 * l.length + 2) cap cl fin l a hv
  have h4 : masterdiscref14_CloseSession.f (k + 2 * l.length + 4) cap cl fin l fz = some (opCloseS cl fin l fz) := by
   have := closeS_ref (k + l.length + 1) cap cl fin l fz hv
   rwa [show k + l.length + 1 + l.length + 3 = k + 2 * l.length + 4 by omega] at this
  rw [h1, h2, h3, h4]
  simp only [Option.bind]
  split
  · rfl
  · split
    · rfl
    · split <;> rfl
theorem opDo_len (cap cl : Int) (fin : Bool) (l : List S40) (kind a b : Int) (fz : Bool) (hl : l.length ≤ 110) : (opDo cap cl fin l kind a b fz).2.2.1.length ≤ 111 := by
 unfold opDo opReserve opAppend apRes opCloseT opCloseS
 repeat' split
 all_goals (simp only [List.length_nil, List.length_append, List.length_set, List.length_cons]; omega)
theorem pure_TocOperations (cap cl : Int) (fin : Bool) (l : List S40) (kind a b : Int) (fz : Bool) (hl : l.length ≤ 9223372036854775807) : ∃ k, masterdisclaw14_TocOperations.f k cap cl fin l kind a b fz = some true := by
 obtain ⟨q, hq, hqt⟩ := few_some cl fin l hl
 refine ⟨9 * l.length + 200, ?_⟩
 unfold masterdisclaw14_TocOperations.f
 have e1 : masterdisclaw14_awake.f (9 * l.length + 200) = some true := lift_le masterdisclaw14_awake.mono awake_true (by omega)
 have e2 : masterdiscref14_Few.f (9 * l.length + 200) cl fin l = some q := lift_le (f := fun k => masterdiscref14_Few.f k cl fin l) (masterdiscref14_Few.mono cl fin l) hq (by omega)
 rw [e1, e2]
 simp only [Option.bind, if_true]
 cases q with
 | false => rfl
 | true =>
  obtain ⟨hB, hn, -⟩ := hqt rfl
  have e3 : masterdisclaw14_do.f (9 * l.length + 200) cap cl fin l kind a b fz = some (opDo cap cl fin l kind a b fz) := by
   have := do_toc (8 * l.length + 196) cap cl fin l kind a b fz hB
   rwa [show 8 * l.length + 196 + l.length + 4 = 9 * l.length + 200 by omega] at this
  have e4 : masterdiscref14_Do.f (9 * l.length + 200) cap cl fin l kind a b fz = some (opDo cap cl fin l kind a b fz) := by
   have := do_ref (7 * l.length + 196) cap cl fin l kind a b fz
   rwa [show 7 * l.length + 196 + 2 * l.length + 4 = 9 * l.length + 200 by omega] at this
  obtain ⟨v, hv⟩ := valid_some cap cl fin l
  have hlen := opDo_len cap cl fin l kind a b fz hn
  rw [e3, e4, valid_eq _ _ _ _ hB, hv]
  simp only [Option.bind, if_true, beq_self_eq_true]
  generalize opDo cap cl fin l kind a b fz = r at hlen
  have e5 : masterdiscref14_Same.f (9 * l.length + 200) r.1 r.2.1 r.2.2.1 r.1 r.2.1 r.2.2.1 = some true := by
   have := same_refl (9 * l.length + 198 - r.2.2.1.length) r.1 r.2.1 r.2.2.1 (by omega)
   rwa [show 9 * l.length + 198 - r.2.2.1.length + r.2.2.1.length + 2 = 9 * l.length + 200 by omega] at this
  rw [e5]
  rfl
end Go.Proofs.Ytjhepdcdhabcjaa.G
namespace Go.Proofs.Ytjhepdcdhabcjaa.G
open Go.RowKit Go.Proofs.YtjhepdcdhabcjaaW.PrintWords Go.Proofs.YtjhepdcdhabcjaaW.PrintLast Go.Proofs.YtjhepdcdhabcjaaW.PrintMore
open Go.ChangeShapes Go.WideShapes Go.Deep
set_option linter.unusedVariables false
theorem track_cells {H : Type} {enc : TypeId × Value → H} {W : World} {base n : Nat} {spare : Nat → Bool} {held : Bool} {a : Addr} {cs : List Value} {x : DataW H × List MemPlace}
 (hc : W.cells? base a (Try.prog.cellsOf 40) = some cs) (h : DataW.trod enc Try.prog W base spare held n 40 cs = some x) :
 ∃ s : S40, ∀ (q : Nat) (v : Value), [Value.int .i64 s.f0, .int .i64 s.f1, .int .i64 s.f2, .int .i64 s.f3, .int .i64 s.f4, .int .i64 s.f5, .int .i64 s.f6][q]? = some v → W.cell? (a.add q) = some v := by
 have h7 : Try.prog.cellsOf 40 = 7 := by kernel_rfl
 have h1 : Try.prog.cellsOf 3 = 1 := by kernel_rfl
 obtain ⟨-, hl, hat⟩ := World.cells?_some hc
 obtain ⟨xs, m, -, -, -, hx, hf⟩ := DataW.trod_struct Try.underlying40 h
 rw [h7] at hl hat
 match cs, hl, xs, hx with
 | [c0, c1, c2, c3, c4, c5, c6], _, [y0, y1, y2, y3, y4, y5, y6], _ =>
  have t0 : DataW.trod enc Try.prog W base spare held m 3 (([c0, c1, c2, c3, c4, c5, c6].drop 0).take (Try.prog.cellsOf 3)) = some y0 := hf 0 _ rfl
  have t1 : DataW.trod enc Try.prog W base spare held m 3 (([c0, c1, c2, c3, c4, c5, c6].drop 1).take (Try.prog.cellsOf 3)) = some y1 := hf 1 _ rfl
  have t2 : DataW.trod enc Try.prog W base spare held m 3 (([c0, c1, c2, c3, c4, c5, c6].drop 2).take (Try.prog.cellsOf 3)) = some y2 := hf 2 _ rfl
  have t3 : DataW.trod enc Try.prog W base spare held m 3 (([c0, c1, c2, c3, c4, c5, c6].drop 3).take (Try.prog.cellsOf 3)) = some y3 := hf 3 _ rfl
  have t4 : DataW.trod enc Try.prog W base spare held m 3 (([c0, c1, c2, c3, c4, c5, c6].drop 4).take (Try.prog.cellsOf 3)) = some y4 := hf 4 _ rfl
  have t5 : DataW.trod enc Try.prog W base spare held m 3 (([c0, c1, c2, c3, c4, c5, c6].drop 5).take (Try.prog.cellsOf 3)) = some y5 := hf 5 _ rfl
  have t6 : DataW.trod enc Try.prog W base spare held m 3 (([c0, c1, c2, c3, c4, c5, c6].drop 6).take (Try.prog.cellsOf 3)) = some y6 := hf 6 _ rfl
  rw [h1] at t0
  obtain ⟨n0, e0, -, -⟩ := DataW.trod_int Try.underlying3 t0
  rw [h1] at t1
  obtain ⟨n1, e1, -, -⟩ := DataW.trod_int Try.underlying3 t1
  rw [h1] at t2
  obtain ⟨n2, e2, -, -⟩ := DataW.trod_int Try.underlying3 t2
  rw [h1] at t3
  obtain ⟨n3, e3, -, -⟩ := DataW.trod_int Try.underlying3 t3
  rw [h1] at t4
  obtain ⟨n4, e4, -, -⟩ := DataW.trod_int Try.underlying3 t4
  rw [h1] at t5
  obtain ⟨n5, e5, -, -⟩ := DataW.trod_int Try.underlying3 t5
  rw [h1] at t6
  obtain ⟨n6, e6, -, -⟩ := DataW.trod_int Try.underlying3 t6
  obtain rfl : c0 = .int .i64 n0 := by injection e0
  obtain rfl : c1 = .int .i64 n1 := by injection e1
  obtain rfl : c2 = .int .i64 n2 := by injection e2
  obtain rfl : c3 = .int .i64 n3 := by injection e3
  obtain rfl : c4 = .int .i64 n4 := by injection e4
  obtain rfl : c5 = .int .i64 n5 := by injection e5
  obtain rfl : c6 = .int .i64 n6 := by injection e6
  refine ⟨⟨n0, n1, n2, n3, n4, n5, n6⟩, fun q v hq => ?_⟩
  have hq7 : q < 7 := by
   have := (List.getElem?_eq_some_iff.1 hq).1
   simpa using this
  rw [hat q hq7]
  exact hq
theorem open_tracks {H : Type} {enc : TypeId × Value → H} {W : World} {base : Nat} {spare : Nat → Bool} {held : Bool} {n : Nat} {u : Value} {y : DataW H × List MemPlace} (h : DataW.trod enc Try.prog W base spare held n 22 [u] = some y) :
 ∃ (A : Option Addr) (c : Nat) (l : List S40), u = .slice A l.length c ∧ l.length ≤ c ∧ l.length ≤ 9223372036854775807 ∧ Kd.C k40 W A l.length l := by
 rcases open_slice Try.underlying22 h with ⟨hc, -⟩ | ⟨a, len, cap, m, n, D, Pl, hc, -, hl, hm, hmm, -, hi⟩
 · obtain rfl : u = .slice none 0 0 := by injection hc
   exact ⟨none, 0, [], rfl, Nat.le_refl _, Nat.zero_le _, rfl, Nat.zero_le _, fun h => absurd h (Nat.lt_irrefl _)⟩
 · obtain rfl : u = .slice (some a) len cap := by injection hc
   have hlm : len ≤ m := by rw [hmm]; split <;> omega
   have h7 : Try.prog.cellsOf 40 = 7 := by kernel_rfl
   have hx : ∀ i, ∃ s : S40, i < len → ∀ (q : Nat) (v : Value), [Value.int .i64 s.f0, .int .i64 s.f1, .int .i64 s.f2, .int .i64 s.f3, .int .i64 s.f4, .int .i64 s.f5, .int .i64 s.f6][q]? = some v → W.cell? (a.add (i * 7 + q)) = some v := by
    intro i
    by_cases hlt : i < len
    · obtain ⟨cs, hcs, ht⟩ := hi i (by omega)
      obtain ⟨s, hs⟩ := track_cells hcs ht
      refine ⟨s, fun _ q v hq => ?_⟩
      have := hs q v hq
      rwa [h7, Go.Deep.add_add] at this
    · exact ⟨z40, fun h => absurd h hlt⟩
   obtain ⟨g, hg⟩ := Classical.axiomOfChoice hx
   have hlen : ((List.range len).map g).length = len := by simp
   have hml : len ≤ 9223372036854775807 := by unfold maxLen at hm; omega
   refine ⟨some a, cap, (List.range len).map g, by rw [hlen], by rw [hlen]; exact hl, by rw [hlen]; exact hml, ?_⟩
   rw [hlen]
   refine ⟨hlen, hml, fun _ => ⟨a, rfl, fun j p hj => ?_⟩⟩
   rw [List.getElem?_map] at hj
   by_cases hjl : j < len
   · rw [List.getElem?_range hjl] at hj
     cases hj
     exact ⟨_, rfl, k40_mk W (g j), hg j hjl⟩
   · rw [List.getElem?_eq_none (by simpa using hjl)] at hj
     cases hj
end Go.Proofs.Ytjhepdcdhabcjaa.G
