/- Texts of one claim, merged by a program of this session; what is proved stands in the last of them. -/
import Derived.StillTailTactics
import Derived.Test.YtjhepdcdhabcjaaKc1
namespace Go.Proofs.Ytjhepdcdhabcjaa.G
open Go.RowKit Go.Proofs.YtjhepdcdhabcjaaW.PrintWords Go.Proofs.YtjhepdcdhabcjaaW.PrintLast Go.Proofs.YtjhepdcdhabcjaaW.PrintMore
attribute [local go_sem] max2_int min2_int max_two min_two max_three min_three max_four min_four   -- for this text's walks alone
set_option linter.unusedVariables false
set_option linter.unusedSimpArgs false
def toc_Reserve.j0 : Nat → Int → Int → Int → Bool → Int → Bool → List (S40) → Option (Int × Bool × (List (S40)) × Int)
 | 0, _, _, _, _, _, _, _ => none
 | k + 1, x0, x2, x3, x27, x112000, x112001, x112002 => if x27 = true then (some (0, false, ([] : List (S40)), 7)) else ((toc_start.f x112002 (wrap64 (x112000 + 1))).bind fun t115 => (if x2 > (wrap64 (x0 - t115)) then (some (0, false, ([] : List (S40)), 12)) else ((toc_clone.f x112000 x112001 x112002).bind fun bt116 => (if bt116.2.2.length < 2513169434916 then (some (bt116.1, bt116.2.1, (bt116.2.2 ++ [(⟨wrap64 ((bt116.2.2.length : Int) + 1), wrap64 (bt116.1 + 1), t115, x2, t115, 0, x3⟩ : S40)]), 0)) else (none)))))
def toc_Reserve.f (k : Nat) (a0 : Int) (a1_0 : Int) (a1_1 : Bool) (l1_2 : List (S40)) (a2 : Int) (a3 : Int) : Option (Int × Bool × (List (S40)) × Int) := (toc_Valid.f a0 a1_0 a1_1 l1_2).bind fun t113 => (if t113 = true then (if a1_1 = true then (some (0, false, ([] : List (S40)), 15)) else ((toc_packets.f a2 a3).bind fun t114 => (if t114 = true then (if (l1_2.length : Int) = 99 then (toc_Reserve.j0 k a0 a2 a3 true a1_0 a1_1 l1_2) else (toc_Reserve.j0 k a0 a2 a3 (a1_0 == 16) a1_0 a1_1 l1_2)) else (some (0, false, ([] : List (S40)), 1))))) else (some (0, false, ([] : List (S40)), 1)))
theorem toc_Reserve.mono_l : ∀ k, (∀ y0 y1 y2 y3 y4 y5 y6, LeO (toc_Reserve.j0 k y0 y1 y2 y3 y4 y5 y6) (toc_Reserve.j0 (k + 1) y0 y1 y2 y3 y4 y5 y6))
 | 0 => fun _ _ _ _ _ _ _ r h => by simp [toc_Reserve.j0] at h
 | k + 1 => by
  have ih0 := toc_Reserve.mono_l k
  · intro y0 y1 y2 y3 y4 y5 y6
    unfold toc_Reserve.j0
    repeat' first
    | (with_reducible exact ih0 _ _ _ _ _ _ _)
    | (with_reducible exact LeO.refl _)
    | (with_reducible exact LeO.none _)
    | (with_reducible refine LeO.ite ?_ ?_)
    | (with_reducible refine LeO.bind ?_ (fun _ => ?_))
    | exact ih0 _ _ _ _ _ _ _
    | exact LeO.none _
    | refine LeO.ite ?_ ?_
    | refine LeO.bind ?_ (fun _ => ?_)
theorem toc_Reserve.mono : ∀ a0 a1 a2 a3 a4 a5 k, LeO (toc_Reserve.f k a0 a1 a2 a3 a4 a5) (toc_Reserve.f (k + 1) a0 a1 a2 a3 a4 a5) := by
 intro a0 a1 a2 a3 a4 a5 k
 have ih0 := toc_Reserve.mono_l k
 unfold toc_Reserve.f
 repeat' first
  | (with_reducible exact ih0 _ _ _ _ _ _ _)
  | (with_reducible exact LeO.refl _)
  | (with_reducible exact LeO.none _)
  | (with_reducible refine LeO.ite ?_ ?_)
  | (with_reducible refine LeO.bind ?_ (fun _ => ?_))
  | exact ih0 _ _ _ _ _ _ _
  | exact LeO.none _
  | refine LeO.ite ?_ ?_
  | refine LeO.bind ?_ (fun _ => ?_)
set_option maxHeartbeats 8000000 in
set_option maxRecDepth 100000 in
theorem toc_Reserve.calls (k : Nat) (a0 : Int) (a1_0 : Int) (a1_1 : Bool) (A1_2 : Option Addr) (c1_2 : Nat) (l1_2 : List (S40)) (a2 : Int) (a3 : Int) (r1 : Int) (r2 : Bool) (r3 : List (S40)) (r4 : Int) (w : World) (hr1_2 : Kd.C k40 w A1_2 l1_2.length l1_2) (hc1_2 : l1_2.length ≤ c1_2) (h : toc_Reserve.f k a0 a1_0 a1_1 l1_2 a2 a3 = some (r1, r2, r3, r4)) :
 Calls Try.prog 16 #[.int .i64 a0, .agg #[.int .i64 a1_0, .bool a1_1, .slice A1_2 l1_2.length c1_2], .int .i64 a2, .int .i64 a3] w fun e w' => ∃ v2_ : Value, e = .returned (.tuple #[.agg #[.int .i64 r1, .bool r2, v2_], .int .i64 r4]) ∧ Kd.R k40 40 w' w.heap.size (fun _ => True) v2_ r3 ∧ Below w.heap.size w w' := by
 have hu24 := Try.underlying24
 have hu40 := Try.underlying40
 have HR1_2 := Aside0.mk hr1_2
 have HC1_2 := Aside0.mk hc1_2
 clear hr1_2 hc1_2
 have HB := Aside0.mk (Below.refl w.heap.size w)
 have H : ((toc_Valid.f a0 a1_0 a1_1 l1_2).bind fun t113 => (if t113 = true then (if a1_1 = true then (some (0, false, ([] : List (S40)), 15)) else ((toc_packets.f a2 a3).bind fun t114 => (if t114 = true then (if (l1_2.length : Int) = 99 then (toc_Reserve.j0 k a0 a2 a3 true a1_0 a1_1 l1_2) else (toc_Reserve.j0 k a0 a2 a3 (a1_0 == 16) a1_0 a1_1 l1_2)) else (some (0, false, ([] : List (S40)), 1))))) else (some (0, false, ([] : List (S40)), 1)))) = some (r1, r2, r3, r4) := h
 clear h
 replace H := Option.bind_eq_some_iff.mp H
 obtain ⟨t113, A50, H⟩ := H
 replace H : (if t113 = true then (if a1_1 = true then (some (0, false, ([] : List (S40)), 15)) else ((toc_packets.f a2 a3).bind fun t114 => (if t114 = true then (if (l1_2.length : Int) = 99 then (toc_Reserve.j0 k a0 a2 a3 true a1_0 a1_1 l1_2) else (toc_Reserve.j0 k a0 a2 a3 (a1_0 == 16) a1_0 a1_1 l1_2)) else (some (0, false, ([] : List (S40)), 1))))) else (some (0, false, ([] : List (S40)), 1))) = some (r1, r2, r3, r4) := H
 have A5 := Aside0.mk A50
 clear A50
 by_cases c6 : t113 = true
 · subst c6
   have H1 : (if a1_1 = true then (some (0, false, ([] : List (S40)), 15)) else ((toc_packets.f a2 a3).bind fun t114 => (if t114 = true then (if (l1_2.length : Int) = 99 then (toc_Reserve.j0 k a0 a2 a3 true a1_0 a1_1 l1_2) else (toc_Reserve.j0 k a0 a2 a3 (a1_0 == 16) a1_0 a1_1 l1_2)) else (some (0, false, ([] : List (S40)), 1))))) = some (r1, r2, r3, r4) := by rw [if_pos rfl] at H; exact H
   clear H
   have H := H1
   clear H1
   by_cases c7 : a1_1 = true
   · subst c7
     have H1 : (some (0, false, ([] : List (S40)), 15)) = some (r1, r2, r3, r4) := by rw [if_pos rfl] at H; exact H
     clear H
     have H := H1
     clear H1
     simp only [Option.some.injEq, Prod.mk.injEq] at H
     obtain ⟨rfl, rfl, rfl, rfl⟩ := H
     go_enter Try.func16, Try.ntmps16
     go_wp2_with (first | ((with_reducible refine gate_dst (N := 5) rfl ?_); refine box_event ?hg (N := 5) ?hd (cs := #[.int .i64 a1_0, .bool true, .slice A1_2 l1_2.length c1_2]) (t := 24) ?hr ?_; (case hd => rfl); (case hg => rfl); (case hr => first | (go_simp; done) | (go_simp; rfl)); intro gb111 hg w8 hbox hb; have n0_ := Aside0.mk (below_step (by repeat (first | (with_reducible first | exact HB.out | apply below_alloc | apply pw_below_drewN | apply below_drew1) | exact HB.out)) hb); have n1_ := Aside0.mk (hbox); have n2_ := Aside0.mk ((by rw [hg]; exact (below_size (by repeat (first | (with_reducible first | exact HB.out | apply below_alloc | apply pw_below_drewN | apply below_drew1) | exact HB.out))) : w.heap.size ≤ gb111)); have n3_ := Aside0.mk ((by rw [hg]; exact (below_size (by repeat (first | (with_reducible first | exact HB.out | apply below_alloc | apply pw_below_drewN | apply below_drew1) | exact HB.out))) : w.heap.size ≤ gb111)); clear HB; have HB := n0_; have BK111 := n1_; have GW111 := n2_; have GE111 := n3_; clear n0_ n1_ n2_ n3_; clear hb hbox hg) | ((with_reducible refine gate_dst (N := 8) rfl ?_); refine box_event ?hg (N := 8) ?hd (cs := #[.int .i64 0, .bool false, .slice none 0 0]) (t := 24) ?hr ?_; (case hd => rfl); (case hg => rfl); (case hr => first | (go_simp; done) | (go_simp; rfl)); intro gb112 hg w9 hbox hb; have n0_ := Aside0.mk (blk_below (g := gb111) (o := .cells #[.int .i64 a1_0, .bool true, .slice A1_2 l1_2.length c1_2] 24 (0, 0)) (by (with_reducible repeat (first | refine blk_drewN ?_ _ | refine blk_drew ?_ | refine blk_alloc ?_ _)); exact BK111.out) hb); have n1_ := Aside0.mk (below_step (by repeat (first | (with_reducible first | exact HB.out | apply below_alloc | apply pw_below_drewN | apply below_drew1 | refine below_set ?_ GE111.out) | exact HB.out)) hb); have n2_ := Aside0.mk (hbox); have n3_ := Aside0.mk ((by rw [hg]; exact (below_size (by repeat (first | (with_reducible first | exact HB.out | apply below_alloc | apply pw_below_drewN | apply below_drew1 | refine below_set ?_ GE111.out) | exact HB.out))) : w.heap.size ≤ gb112)); have n4_ := Aside0.mk ((by rw [hg]; exact (below_size (by repeat (first | (with_reducible first | exact HB.out | apply below_alloc | apply pw_below_drewN | apply below_drew1 | refine below_set ?_ GE111.out) | exact HB.out))) : w.heap.size ≤ gb112)); have n5_ := Aside0.mk ((by rw [hg]; exact Nat.ne_of_lt (blk_lt (g := gb111) (o := .cells #[.int .i64 a1_0, .bool true, .slice A1_2 l1_2.length c1_2] 24 (0, 0)) (by (with_reducible repeat (first | refine blk_drewN ?_ _ | refine blk_drew ?_ | refine blk_alloc ?_ _)); exact BK111.out)) : gb111 ≠ gb112)); have n6_ := Aside0.mk ((by rw [hg]; exact Nat.ne_of_gt (blk_lt (g := gb111) (o := .cells #[.int .i64 a1_0, .bool true, .slice A1_2 l1_2.length c1_2] 24 (0, 0)) (by (with_reducible repeat (first | refine blk_drewN ?_ _ | refine blk_drew ?_ | refine blk_alloc ?_ _)); exact BK111.out)) : gb112 ≠ gb111)); clear BK111; clear HB; have BK111 := n0_; have HB := n1_; have BK112 := n2_; have GW112 := n3_; have GE112 := n4_; have NB111_112 := n5_; have NB112_111 := n6_; clear n0_ n1_ n2_ n3_ n4_ n5_ n6_; clear hb hbox hg; have hnb10 := NB111_112.out; have hnc10 := NB112_111.out; obtain ⟨hcz11_0, hcz11_1, hcz11_2⟩ := cel3 BK111.out; obtain ⟨hfz11_0, hfz11_1, hfz11_2⟩ := frz3 BK111.out) | ((with_reducible refine gate_callee (f := 10) rfl ?_); refine goesL_ (some 14) rfl rfl Try.func10 (by kernel_rfl) rfl #[.int .i64 a0, .agg #[.int .i64 a1_0, .bool true, .slice A1_2 l1_2.length c1_2]] rfl (by (try simp only [List.map_toArray, List.map_cons, List.map_nil]); first | done | rfl | (simp only [List.length_drop, List.length_take]; rfl)) ?_; (with_reducible refine (toc_Valid.calls a0 a1_0 true _ _ l1_2 true _ ?side1 ?side2 A5.out).mono ?_); (case side1 => repeat (first | exact (Kd.C_below HR1_2.out HB.out) | (with_reducible refine Kd.C_alloc ?_ _) | (with_reducible refine Kd.C_drewN ?_ _) | (with_reducible refine Kd.C_drew ?_))); (case side2 => exact HC1_2.out); rintro e w12 ⟨rfl, hb⟩; refine ⟨_, rfl, ?_⟩; have n0_ := Aside0.mk (blk_below (g := gb111) (o := .cells #[.int .i64 a1_0, .bool true, .slice A1_2 l1_2.length c1_2] 24 (0, 0)) (by (with_reducible repeat (first | refine blk_drewN ?_ _ | refine blk_drew ?_ | refine blk_alloc ?_ _)); exact BK111.out) hb); have n1_ := Aside0.mk (blk_below (g := gb112) (o := .cells #[.int .i64 0, .bool false, .slice none 0 0] 24 (0, 0)) (by (with_reducible repeat (first | refine blk_drewN ?_ _ | refine blk_drew ?_ | refine blk_alloc ?_ _)); exact BK112.out) hb); have n2_ := Aside0.mk (below_step (by repeat (first | (with_reducible first | exact HB.out | apply below_alloc | apply pw_below_drewN | apply below_drew1 | refine below_set ?_ GE111.out | refine below_set ?_ GE112.out) | exact HB.out)) hb); clear BK111; clear BK112; clear HB; have BK111 := n0_; have BK112 := n1_; have HB := n2_; clear n0_ n1_ n2_; (try clear hb); (try clear hb2); (try clear hk); (try clear hi); obtain ⟨hcz13_0, hcz13_1, hcz13_2⟩ := cel3 BK111.out; obtain ⟨hfz13_0, hfz13_1, hfz13_2⟩ := frz3 BK111.out; obtain ⟨hcz14_0, hcz14_1, hcz14_2⟩ := cel3 BK112.out; obtain ⟨hfz14_0, hfz14_1, hfz14_2⟩ := frz3 BK112.out))
     refine bodyPost_ret (results_ct rfl _ _ gb112 24 #[.int .i64 0, .bool false, .slice none 0 0] (0, 0) _ rfl (by (with_reducible repeat (first | refine blk_drewN ?_ _ | refine blk_drew ?_ | refine blk_alloc ?_ _)); refine blk_put (cs := #[.int .i64 0, .bool false, .slice none 0 0]) ?_ 2 _ rfl; (with_reducible repeat (first | refine blk_drewN ?_ _ | refine blk_drew ?_ | refine blk_alloc ?_ _)); refine blk_put (cs := #[.int .i64 0, .bool false, .slice none 0 0]) ?_ 1 _ rfl; (with_reducible repeat (first | refine blk_drewN ?_ _ | refine blk_drew ?_ | refine blk_alloc ?_ _)); refine blk_put (cs := #[.int .i64 0, .bool false, .slice none 0 0]) ?_ 0 _ rfl; (with_reducible repeat (first | refine blk_drewN ?_ _ | refine blk_drew ?_ | refine blk_alloc ?_ _)); exact BK112.out) Try.underlying24 rfl (by kernel_rfl)) rfl ?_
     exact ⟨_, by first | rfl | (simp [errW_none, errW_some] <;> rfl) | (simp [*, errW_none, errW_some] <;> rfl), by first | exact Kd.R_nil _ _ _ _ _ | exact Kd.N_nil _ _ _ _ _ | exact Kd.V_nil _ _ _ _ _ | exact Kd.Q_nil _ _ _ _ _ | exact Kd.S_nil _ _ _ _ _, by repeat (first | (with_reducible first | exact HB.out | apply below_alloc | apply pw_below_drewN | apply below_drew1 | refine below_set ?_ GE111.out | refine below_set ?_ GE112.out) | exact HB.out)⟩
   · replace c7 := Bool.eq_false_iff.mpr c7
     subst c7
     have H1 : ((toc_packets.f a2 a3).bind fun t114 => (if t114 = true then (if (l1_2.length : Int) = 99 then (toc_Reserve.j0 k a0 a2 a3 true a1_0 false l1_2) else (toc_Reserve.j0 k a0 a2 a3 (a1_0 == 16) a1_0 false l1_2)) else (some (0, false, ([] : List (S40)), 1)))) = some (r1, r2, r3, r4) := by rw [if_neg (show ¬ (false = true) by decide)] at H; exact H
     clear H
     have H := H1
     clear H1
     replace H := Option.bind_eq_some_iff.mp H
     obtain ⟨t114, A150, H⟩ := H
     replace H : (if t114 = true then (if (l1_2.length : Int) = 99 then (toc_Reserve.j0 k a0 a2 a3 true a1_0 false l1_2) else (toc_Reserve.j0 k a0 a2 a3 (a1_0 == 16) a1_0 false l1_2)) else (some (0, false, ([] : List (S40)), 1))) = some (r1, r2, r3, r4) := H
     have A15 := Aside0.mk A150
     clear A150
     by_cases c16 : t114 = true
     · subst c16
       have H1 : (if (l1_2.length : Int) = 99 then (toc_Reserve.j0 k a0 a2 a3 true a1_0 false l1_2) else (toc_Reserve.j0 k a0 a2 a3 (a1_0 == 16) a1_0 false l1_2)) = some (r1, r2, r3, r4) := by rw [if_pos rfl] at H; exact H
       clear H
       have H := H1
       clear H1
       have HC17 := Aside0.mk H
       clear H
       go_enter Try.func16, Try.ntmps16
       go_upto_region 7 with (first | ((with_reducible refine gate_dst (N := 5) rfl ?_); refine box_event ?hg (N := 5) ?hd (cs := #[.int .i64 a1_0, .bool false, .slice A1_2 l1_2.length c1_2]) (t := 24) ?hr ?_; (case hd => rfl); (case hg => rfl); (case hr => first | (go_simp; done) | (go_simp; rfl)); intro gb111 hg w18 hbox hb; have n0_ := Aside0.mk (below_step (by repeat (first | (with_reducible first | exact HB.out | apply below_alloc | apply pw_below_drewN | apply below_drew1) | exact HB.out)) hb); have n1_ := Aside0.mk (hbox); have n2_ := Aside0.mk ((by rw [hg]; exact (below_size (by repeat (first | (with_reducible first | exact HB.out | apply below_alloc | apply pw_below_drewN | apply below_drew1) | exact HB.out))) : w.heap.size ≤ gb111)); have n3_ := Aside0.mk ((by rw [hg]; exact (below_size (by repeat (first | (with_reducible first | exact HB.out | apply below_alloc | apply pw_below_drewN | apply below_drew1) | exact HB.out))) : w.heap.size ≤ gb111)); clear HB; have HB := n0_; have BK111 := n1_; have GW111 := n2_; have GE111 := n3_; clear n0_ n1_ n2_ n3_; clear hb hbox hg) | ((with_reducible refine gate_dst (N := 8) rfl ?_); refine box_event ?hg (N := 8) ?hd (cs := #[.int .i64 0, .bool false, .slice none 0 0]) (t := 24) ?hr ?_; (case hd => rfl); (case hg => rfl); (case hr => first | (go_simp; done) | (go_simp; rfl)); intro gb112 hg w19 hbox hb; have n0_ := Aside0.mk (blk_below (g := gb111) (o := .cells #[.int .i64 a1_0, .bool false, .slice A1_2 l1_2.length c1_2] 24 (0, 0)) (by (with_reducible repeat (first | refine blk_drewN ?_ _ | refine blk_drew ?_ | refine blk_alloc ?_ _)); exact BK111.out) hb); have n1_ := Aside0.mk (below_step (by repeat (first | (with_reducible first | exact HB.out | apply below_alloc | apply pw_below_drewN | apply below_drew1 | refine below_set ?_ GE111.out) | exact HB.out)) hb); have n2_ := Aside0.mk (hbox); have n3_ := Aside0.mk ((by rw [hg]; exact (below_size (by repeat (first | (with_reducible first | exact HB.out | apply below_alloc | apply pw_below_drewN | apply below_drew1 | refine below_set ?_ GE111.out) | exact HB.out))) : w.heap.size ≤ gb112)); have n4_ := Aside0.mk ((by rw [hg]; exact (below_size (by repeat (first | (with_reducible first | exact HB.out | apply below_alloc | apply pw_below_drewN | apply below_drew1 | refine below_set ?_ GE111.out) | exact HB.out))) : w.heap.size ≤ gb112)); have n5_ := Aside0.mk ((by rw [hg]; exact Nat.ne_of_lt (blk_lt (g := gb111) (o := .cells #[.int .i64 a1_0, .bool false, .slice A1_2 l1_2.length c1_2] 24 (0, 0)) (by (with_reducible repeat (first | refine blk_drewN ?_ _ | refine blk_drew ?_ | refine blk_alloc ?_ _)); exact BK111.out)) : gb111 ≠ gb112)); have n6_ := Aside0.mk ((by rw [hg]; exact Nat.ne_of_gt (blk_lt (g := gb111) (o := .cells #[.int .i64 a1_0, .bool false, .slice A1_2 l1_2.length c1_2] 24 (0, 0)) (by (with_reducible repeat (first | refine blk_drewN ?_ _ | refine blk_drew ?_ | refine blk_alloc ?_ _)); exact BK111.out)) : gb112 ≠ gb111)); clear BK111; clear HB; have BK111 := n0_; have HB := n1_; have BK112 := n2_; have GW112 := n3_; have GE112 := n4_; have NB111_112 := n5_; have NB112_111 := n6_; clear n0_ n1_ n2_ n3_ n4_ n5_ n6_; clear hb hbox hg; have hnb20 := NB111_112.out; have hnc20 := NB112_111.out; obtain ⟨hcz21_0, hcz21_1, hcz21_2⟩ := cel3 BK111.out; obtain ⟨hfz21_0, hfz21_1, hfz21_2⟩ := frz3 BK111.out) | ((with_reducible refine gate_callee (f := 10) rfl ?_); refine goesL_ (some 14) rfl rfl Try.func10 (by kernel_rfl) rfl #[.int .i64 a0, .agg #[.int .i64 a1_0, .bool false, .slice A1_2 l1_2.length c1_2]] rfl (by (try simp only [List.map_toArray, List.map_cons, List.map_nil]); first | done | rfl | (simp only [List.length_drop, List.length_take]; rfl)) ?_; (with_reducible refine (toc_Valid.calls a0 a1_0 false _ _ l1_2 true _ ?side1 ?side2 A5.out).mono ?_); (case side1 => repeat (first | exact (Kd.C_below HR1_2.out HB.out) | (with_reducible refine Kd.C_alloc ?_ _) | (with_reducible refine Kd.C_drewN ?_ _) | (with_reducible refine Kd.C_drew ?_))); (case side2 => exact HC1_2.out); rintro e w22 ⟨rfl, hb⟩; refine ⟨_, rfl, ?_⟩; have n0_ := Aside0.mk (blk_below (g := gb111) (o := .cells #[.int .i64 a1_0, .bool false, .slice A1_2 l1_2.length c1_2] 24 (0, 0)) (by (with_reducible repeat (first | refine blk_drewN ?_ _ | refine blk_drew ?_ | refine blk_alloc ?_ _)); exact BK111.out) hb); have n1_ := Aside0.mk (blk_below (g := gb112) (o := .cells #[.int .i64 0, .bool false, .slice none 0 0] 24 (0, 0)) (by (with_reducible repeat (first | refine blk_drewN ?_ _ | refine blk_drew ?_ | refine blk_alloc ?_ _)); exact BK112.out) hb); have n2_ := Aside0.mk (below_step (by repeat (first | (with_reducible first | exact HB.out | apply below_alloc | apply pw_below_drewN | apply below_drew1 | refine below_set ?_ GE111.out | refine below_set ?_ GE112.out) | exact HB.out)) hb); clear BK111; clear BK112; clear HB; have BK111 := n0_; have BK112 := n1_; have HB := n2_; clear n0_ n1_ n2_; (try clear hb); (try clear hb2); (try clear hk); (try clear hi); obtain ⟨hcz23_0, hcz23_1, hcz23_2⟩ := cel3 BK111.out; obtain ⟨hfz23_0, hfz23_1, hfz23_2⟩ := frz3 BK111.out) | ((with_reducible refine gate_callee (f := 27) rfl ?_); refine goesL_ (some 24) rfl rfl Try.func27 (by kernel_rfl) rfl #[.int .i64 a2, .int .i64 a3] rfl (by (try simp only [List.map_toArray, List.map_cons, List.map_nil]); first | done | rfl | (simp only [List.length_drop, List.length_take]; rfl)) ?_; (with_reducible refine (toc_packets.calls a2 a3 true _ A15.out).mono ?_); rintro e w' ⟨rfl, ⟨nd, rfl⟩⟩; refine ⟨_, rfl, ?_⟩))
       (try simp only [Act.put, List.setIfInBounds_toArray, List.set_cons_zero, List.set_cons_succ])
       go_cut [27] (fun v27 wc => ∃ (kq : Nat) (x27_16 : Bool), v27 = .bool x27_16 ∧ Aside0 (toc_Reserve.j0 kq a0 a2 a3 x27_16 a1_0 false l1_2 = some (r1, r2, r3, r4)) ∧ Aside0 (kq ≤ k) ∧ Aside0 (wc.heap[gb111]? = some (.cells #[.int .i64 a1_0, .bool false, (.slice A1_2 l1_2.length c1_2)] 24 (0, 0))) ∧ Aside0 (wc.heap[gb112]? = some (.cells #[.int .i64 0, .bool false, (.slice none 0 0)] 24 (0, 0))) ∧ Aside0 (Below w.heap.size w wc))
       case first =>
        have H := HC17.out
        clear HC17
        by_cases c24 : (l1_2.length : Int) = 99
        · rw [if_pos c24] at H
          have c24b0 : ((l1_2.length : Int) == 99) = true := beq_iff_eq.mpr c24
          have c24b1 : ((l1_2.length : Int) != 99) = false := bne_eq_false_iff_eq.mpr c24
          clear c24
          (first | rw [c24b0] | (simp only [i64_w, i32_w]; rw [c24b0]) | skip)
          have H' := Aside0.mk H
          clear H
          have hnb25 := NB111_112.out
          have hnc25 := NB112_111.out
          obtain ⟨hcz26_0, hcz26_1, hcz26_2⟩ := cel3 BK111.out
          obtain ⟨hfz26_0, hfz26_1, hfz26_2⟩ := frz3 BK111.out
          go_wp2
          go_meet
          case rel => exact ⟨_, (true), (by first | rfl | (simp; done) | (simp [*]; done)), H', ⟨by first | omega | exact Nat.le_refl _⟩, ⟨by (with_reducible repeat (first | refine blk_drewN ?_ _ | refine blk_drew ?_ | refine blk_alloc ?_ _)); exact BK111.out⟩, ⟨by (with_reducible repeat (first | refine blk_drewN ?_ _ | refine blk_drew ?_ | refine blk_alloc ?_ _)); exact BK112.out⟩, ⟨by repeat (first | (with_reducible first | exact HB.out | apply below_alloc | apply pw_below_drewN | apply below_drew1 | refine below_set ?_ GE111.out | refine below_set ?_ GE112.out) | exact HB.out)⟩⟩
        · rw [if_neg c24] at H
          have c24b0 : ((l1_2.length : Int) == 99) = false := beq_eq_false_iff_ne.mpr c24
          have c24b1 : ((l1_2.length : Int) != 99) = true := bne_iff_ne.mpr c24
          (first | rw [c24b0] | (simp only [i64_w, i32_w]; rw [c24b0]) | skip)
          have H' := Aside0.mk H
          clear H
          have hnb27 := NB111_112.out
          have hnc27 := NB112_111.out
          obtain ⟨hcz28_0, hcz28_1, hcz28_2⟩ := cel3 BK111.out
          obtain ⟨hfz28_0, hfz28_1, hfz28_2⟩ := frz3 BK111.out
          go_wp2
          go_meet
          case rel => exact ⟨_, ((a1_0 == 16)), (by first | rfl | (simp; done) | (simp [*]; done)), H', ⟨by first | omega | exact Nat.le_refl _⟩, ⟨by (with_reducible repeat (first | refine blk_drewN ?_ _ | refine blk_drew ?_ | refine blk_alloc ?_ _)); exact BK111.out⟩, ⟨by (with_reducible repeat (first | refine blk_drewN ?_ _ | refine blk_drew ?_ | refine blk_alloc ?_ _)); exact BK112.out⟩, ⟨by repeat (first | (with_reducible first | exact HB.out | apply below_alloc | apply pw_below_drewN | apply below_drew1 | refine below_set ?_ GE111.out | refine below_set ?_ GE112.out) | exact HB.out)⟩⟩
       case rest =>
        clear HC17
        try clear c1
        try clear c2
        try clear p2
        try clear c6
        try clear c7
        try clear c10
        try clear c16
        try clear c20
        try clear c24
        try clear c24b0
        try clear c24b1
        try clear c25
        try clear c27
        try clear hcz11_0
        try clear hcz11_1
        try clear hcz11_2
        try clear hcz13_0
        try clear hcz13_1
        try clear hcz13_2
        try clear hcz14_0
        try clear hcz14_1
        try clear hcz14_2
        try clear hcz21_0
        try clear hcz21_1
        try clear hcz21_2
        try clear hcz23_0
        try clear hcz23_1
        try clear hcz23_2
        try clear hcz26_0
        try clear hcz26_1
        try clear hcz26_2
        try clear hcz28_0
        try clear hcz28_1
        try clear hcz28_2
        try clear hfz11_0
        try clear hfz11_1
        try clear hfz11_2
        try clear hfz13_0
        try clear hfz13_1
        try clear hfz13_2
        try clear hfz14_0
        try clear hfz14_1
        try clear hfz14_2
        try clear hfz21_0
        try clear hfz21_1
        try clear hfz21_2
        try clear hfz23_0
        try clear hfz23_1
        try clear hfz23_2
        try clear hfz26_0
        try clear hfz26_1
        try clear hfz26_2
        try clear hfz28_0
        try clear hfz28_1
        try clear hfz28_2
        obtain ⟨kq, x27_16, rfl, HA, HJ16, BK111, BK112, HB⟩ := hcut
        cases kq with
        | zero => exact absurd HA.out (by simp [toc_Reserve.j0])
        | succ kj16 =>
         have H := HA.out
         clear HA
         simp only [toc_Reserve.j0] at H
         by_cases c29 : x27_16 = true
         · subst c29
           have H1 : (some (0, false, ([] : List (S40)), 7)) = some (r1, r2, r3, r4) := by rw [if_pos rfl] at H; exact H
           clear H
           have H := H1
           clear H1
           simp only [Option.some.injEq, Prod.mk.injEq] at H
           obtain ⟨rfl, rfl, rfl, rfl⟩ := H
           have hnb30 := NB112_111.out
           have hnc30 := NB111_112.out
           obtain ⟨hcz31_0, hcz31_1, hcz31_2⟩ := cel3 BK112.out
           obtain ⟨hfz31_0, hfz31_1, hfz31_2⟩ := frz3 BK112.out
           go_wp2
           refine bodyPost_ret (results_ct rfl _ _ gb112 24 #[.int .i64 0, .bool false, .slice none 0 0] (0, 0) _ rfl (by (with_reducible repeat (first | refine blk_drewN ?_ _ | refine blk_drew ?_ | refine blk_alloc ?_ _)); refine blk_put (cs := #[.int .i64 0, .bool false, .slice none 0 0]) ?_ 2 _ rfl; (with_reducible repeat (first | refine blk_drewN ?_ _ | refine blk_drew ?_ | refine blk_alloc ?_ _)); refine blk_put (cs := #[.int .i64 0, .bool false, .slice none 0 0]) ?_ 1 _ rfl; (with_reducible repeat (first | refine blk_drewN ?_ _ | refine blk_drew ?_ | refine blk_alloc ?_ _)); refine blk_put (cs := #[.int .i64 0, .bool false, .slice none 0 0]) ?_ 0 _ rfl; (with_reducible repeat (first | refine blk_drewN ?_ _ | refine blk_drew ?_ | refine blk_alloc ?_ _)); exact BK112.out) Try.underlying24 rfl (by kernel_rfl)) rfl ?_
           exact ⟨_, by first | rfl | (simp [errW_none, errW_some] <;> rfl) | (simp [*, errW_none, errW_some] <;> rfl), by first | exact Kd.R_nil _ _ _ _ _ | exact Kd.N_nil _ _ _ _ _ | exact Kd.V_nil _ _ _ _ _ | exact Kd.Q_nil _ _ _ _ _ | exact Kd.S_nil _ _ _ _ _, by repeat (first | (with_reducible first | exact HB.out | apply below_alloc | apply pw_below_drewN | apply below_drew1 | refine below_set ?_ GE111.out | refine below_set ?_ GE112.out) | exact HB.out)⟩
         · replace c29 := Bool.eq_false_iff.mpr c29
           subst c29
           have H1 : ((toc_start.f l1_2 (wrap64 (a1_0 + 1))).bind fun t115 => (if a2 > (wrap64 (a0 - t115)) then (some (0, false, ([] : List (S40)), 12)) else ((toc_clone.f a1_0 false l1_2).bind fun bt116 => (if bt116.2.2.length < 2513169434916 then (some (bt116.1, bt116.2.1, (bt116.2.2 ++ [(⟨wrap64 ((bt116.2.2.length : Int) + 1), wrap64 (bt116.1 + 1), t115, a2, t115, 0, a3⟩ : S40)]), 0)) else (none))))) = some (r1, r2, r3, r4) := by rw [if_neg (show ¬ (false = true) by decide)] at H; exact H
           clear H
           have H := H1
           clear H1
           replace H := Option.bind_eq_some_iff.mp H
           obtain ⟨t115, A320, H⟩ := H
           replace H : (if a2 > (wrap64 (a0 - t115)) then (some (0, false, ([] : List (S40)), 12)) else ((toc_clone.f a1_0 false l1_2).bind fun bt116 => (if bt116.2.2.length < 2513169434916 then (some (bt116.1, bt116.2.1, (bt116.2.2 ++ [(⟨wrap64 ((bt116.2.2.length : Int) + 1), wrap64 (bt116.1 + 1), t115, a2, t115, 0, a3⟩ : S40)]), 0)) else (none)))) = some (r1, r2, r3, r4) := H
           have A32 := Aside0.mk A320
           clear A320
           by_cases c33 : a2 > (wrap64 (a0 - t115))
           · rw [if_pos c33] at H
             have c33b0 : decide ((wrap64 (a0 - t115)) < a2) = true := decide_eq_true c33
             clear c33
             simp only [Option.some.injEq, Prod.mk.injEq] at H
             obtain ⟨rfl, rfl, rfl, rfl⟩ := H
             have hnb34 := NB111_112.out
             have hnc34 := NB112_111.out
             obtain ⟨hcz35_0, hcz35_1, hcz35_2⟩ := cel3 BK111.out
             obtain ⟨hfz35_0, hfz35_1, hfz35_2⟩ := frz3 BK111.out
             go_wp2_with (first | ((with_reducible refine gate_callee (f := 28) rfl ?_); refine goesL_ (some 43) rfl rfl Try.func28 (by kernel_rfl) rfl #[.slice A1_2 l1_2.length c1_2, .int .i64 (wrap64 (a1_0 + 1))] rfl (by (try simp only [List.map_toArray, List.map_cons, List.map_nil]); first | done | rfl | (simp only [List.length_drop, List.length_take]; rfl)) ?_; (with_reducible refine (toc_start.calls _ _ l1_2 (wrap64 (a1_0 + 1)) t115 _ ?side1 ?side2 A32.out).mono ?_); (case side1 => repeat (first | exact (Kd.C_below HR1_2.out HB.out) | (with_reducible refine Kd.C_alloc ?_ _) | (with_reducible refine Kd.C_drewN ?_ _) | (with_reducible refine Kd.C_drew ?_))); (case side2 => exact HC1_2.out); rintro e w36 ⟨rfl, hb⟩; refine ⟨_, rfl, ?_⟩; have n0_ := Aside0.mk (blk_below (g := gb111) (o := .cells #[.int .i64 a1_0, .bool false, .slice A1_2 l1_2.length c1_2] 24 (0, 0)) (by (with_reducible repeat (first | refine blk_drewN ?_ _ | refine blk_drew ?_ | refine blk_alloc ?_ _)); exact BK111.out) hb); have n1_ := Aside0.mk (blk_below (g := gb112) (o := .cells #[.int .i64 0, .bool false, .slice none 0 0] 24 (0, 0)) (by (with_reducible repeat (first | refine blk_drewN ?_ _ | refine blk_drew ?_ | refine blk_alloc ?_ _)); exact BK112.out) hb); have n2_ := Aside0.mk (below_step (by repeat (first | (with_reducible first | exact HB.out | apply below_alloc | apply pw_below_drewN | apply below_drew1 | refine below_set ?_ GE111.out | refine below_set ?_ GE112.out) | exact HB.out)) hb); clear BK111; clear BK112; clear HB; have BK111 := n0_; have BK112 := n1_; have HB := n2_; clear n0_ n1_ n2_; (try clear hb); (try clear hb2); (try clear hk); (try clear hi); obtain ⟨hcz37_0, hcz37_1, hcz37_2⟩ := cel3 BK112.out; obtain ⟨hfz37_0, hfz37_1, hfz37_2⟩ := frz3 BK112.out))
             refine bodyPost_ret (results_ct rfl _ _ gb112 24 #[.int .i64 0, .bool false, .slice none 0 0] (0, 0) _ rfl (by (with_reducible repeat (first | refine blk_drewN ?_ _ | refine blk_drew ?_ | refine blk_alloc ?_ _)); refine blk_put (cs := #[.int .i64 0, .bool false, .slice none 0 0]) ?_ 2 _ rfl; (with_reducible repeat (first | refine blk_drewN ?_ _ | refine blk_drew ?_ | refine blk_alloc ?_ _)); refine blk_put (cs := #[.int .i64 0, .bool false, .slice none 0 0]) ?_ 1 _ rfl; (with_reducible repeat (first | refine blk_drewN ?_ _ | refine blk_drew ?_ | refine blk_alloc ?_ _)); refine blk_put (cs := #[.int .i64 0, .bool false, .slice none 0 0]) ?_ 0 _ rfl; (with_reducible repeat (first | refine blk_drewN ?_ _ | refine blk_drew ?_ | refine blk_alloc ?_ _)); exact BK112.out) Try.underlying24 rfl (by kernel_rfl)) rfl ?_
             exact ⟨_, by first | rfl | (simp [errW_none, errW_some] <;> rfl) | (simp [*, errW_none, errW_some] <;> rfl), by first | exact Kd.R_nil _ _ _ _ _ | exact Kd.N_nil _ _ _ _ _ | exact Kd.V_nil _ _ _ _ _ | exact Kd.Q_nil _ _ _ _ _ | exact Kd.S_nil _ _ _ _ _, by repeat (first | (with_reducible first | exact HB.out | apply below_alloc | apply pw_below_drewN | apply below_drew1 | refine below_set ?_ GE111.out | refine below_set ?_ GE112.out) | exact HB.out)⟩
           · rw [if_neg c33] at H
             have c33b0 : decide ((wrap64 (a0 - t115)) < a2) = false := decide_eq_false c33
             clear c33
             replace H := Option.bind_eq_some_iff.mp H
             obtain ⟨⟨t116, t117, t118⟩, A380, H⟩ := H
             replace H : (if t118.length < 2513169434916 then (some (t116, t117, (t118 ++ [(⟨wrap64 ((t118.length : Int) + 1), wrap64 (t116 + 1), t115, a2, t115, 0, a3⟩ : S40)]), 0)) else (none)) = some (r1, r2, r3, r4) := H
             have A38 := Aside0.mk A380
             clear A380
             by_cases c39 : t118.length < 2513169434916
             · rw [if_pos c39] at H
               have LMc39 := Aside0.mk c39
               clear c39
               obtain ⟨y121, hy121⟩ : ∃ y_ : List (S40), y_ = (t118 ++ [(⟨wrap64 ((t118.length : Int) + 1), wrap64 (t116 + 1), t115, a2, t115, 0, a3⟩ : S40)]) := ⟨_, rfl⟩
               replace H : (some (t116, t117, y121, 0)) = some (r1, r2, r3, r4) := by first | (rw [hy121]; with_reducible exact H) | (have H2_ := (Option.bind_some _ _).symm.trans H; rw [hy121]; with_reducible exact H2_) | (have H2_ := (Option.bind_some _ _).symm.trans H; with_reducible exact H2_) | with_reducible exact H | (rw [hy121]; exact H) | exact H
               have Ny121 := Aside0.mk hy121
               clear hy121
               simp only [Option.some.injEq, Prod.mk.injEq] at H
               obtain ⟨rfl, rfl, rfl, rfl⟩ := H
               have hnb40 := NB111_112.out
               have hnc40 := NB112_111.out
               obtain ⟨hcz41_0, hcz41_1, hcz41_2⟩ := cel3 BK111.out
               obtain ⟨hfz41_0, hfz41_1, hfz41_2⟩ := frz3 BK111.out
               go_wp2_with (first | ((with_reducible refine gate_callee (f := 28) rfl ?_); refine goesL_ (some 43) rfl rfl Try.func28 (by kernel_rfl) rfl #[.slice A1_2 l1_2.length c1_2, .int .i64 (wrap64 (a1_0 + 1))] rfl (by (try simp only [List.map_toArray, List.map_cons, List.map_nil]); first | done | rfl | (simp only [List.length_drop, List.length_take]; rfl)) ?_; (with_reducible refine (toc_start.calls _ _ l1_2 (wrap64 (a1_0 + 1)) t115 _ ?side1 ?side2 A32.out).mono ?_); (case side1 => repeat (first | exact (Kd.C_below HR1_2.out HB.out) | (with_reducible refine Kd.C_alloc ?_ _) | (with_reducible refine Kd.C_drewN ?_ _) | (with_reducible refine Kd.C_drew ?_))); (case side2 => exact HC1_2.out); rintro e w42 ⟨rfl, hb⟩; refine ⟨_, rfl, ?_⟩; have n0_ := Aside0.mk (blk_below (g := gb111) (o := .cells #[.int .i64 a1_0, .bool false, .slice A1_2 l1_2.length c1_2] 24 (0, 0)) (by (with_reducible repeat (first | refine blk_drewN ?_ _ | refine blk_drew ?_ | refine blk_alloc ?_ _)); exact BK111.out) hb); have n1_ := Aside0.mk (blk_below (g := gb112) (o := .cells #[.int .i64 0, .bool false, .slice none 0 0] 24 (0, 0)) (by (with_reducible repeat (first | refine blk_drewN ?_ _ | refine blk_drew ?_ | refine blk_alloc ?_ _)); exact BK112.out) hb); have n2_ := Aside0.mk (below_step (by repeat (first | (with_reducible first | exact HB.out | apply below_alloc | apply pw_below_drewN | apply below_drew1 | refine below_set ?_ GE111.out | refine below_set ?_ GE112.out) | exact HB.out)) hb); clear BK111; clear BK112; clear HB; have BK111 := n0_; have BK112 := n1_; have HB := n2_; clear n0_ n1_ n2_; (try clear hb); (try clear hb2); (try clear hk); (try clear hi); obtain ⟨hcz43_0, hcz43_1, hcz43_2⟩ := cel3 BK111.out; obtain ⟨hfz43_0, hfz43_1, hfz43_2⟩ := frz3 BK111.out) | ((with_reducible refine gate_callee (f := 29) rfl ?_); refine goesL_ (some 51) rfl rfl Try.func29 (by kernel_rfl) rfl #[.agg #[.int .i64 a1_0, .bool false, .slice A1_2 l1_2.length c1_2]] rfl (by (try simp only [List.map_toArray, List.map_cons, List.map_nil]); first | done | rfl | (simp only [List.length_drop, List.length_take]; rfl)) ?_; (with_reducible refine (toc_clone.calls a1_0 false _ _ l1_2 t116 t117 t118 _ ?side1 ?side2 A38.out).mono ?_); (case side1 => repeat (first | exact (Kd.C_below HR1_2.out HB.out) | (with_reducible refine Kd.C_alloc ?_ _) | (with_reducible refine Kd.C_drewN ?_ _) | (with_reducible refine Kd.C_drew ?_))); (case side2 => exact HC1_2.out); rintro e w44 ⟨v119, rfl, ho0, hb⟩; refine ⟨_, rfl, ?_⟩; have n0_ := Aside0.mk (Kd.R_lower ho0 (below_size (by repeat (first | (with_reducible first | exact HB.out | apply below_alloc | apply pw_below_drewN | apply below_drew1 | refine below_set ?_ GE111.out | refine below_set ?_ GE112.out) | exact HB.out)))); have n1_ := Aside0.mk (blk_below (g := gb111) (o := .cells #[.int .i64 a1_0, .bool false, .slice A1_2 l1_2.length c1_2] 24 (0, 0)) (by (with_reducible repeat (first | refine blk_drewN ?_ _ | refine blk_drew ?_ | refine blk_alloc ?_ _)); exact BK111.out) hb); have n2_ := Aside0.mk (blk_below (g := gb112) (o := .cells #[.int .i64 0, .bool false, .slice none 0 0] 24 (0, 0)) (by (with_reducible repeat (first | refine blk_drewN ?_ _ | refine blk_drew ?_ | refine blk_alloc ?_ _)); exact BK112.out) hb); have n3_ := Aside0.mk (below_step (by repeat (first | (with_reducible first | exact HB.out | apply below_alloc | apply pw_below_drewN | apply below_drew1 | refine below_set ?_ GE111.out | refine below_set ?_ GE112.out) | exact HB.out)) hb); clear BK111; clear BK112; clear HB; have HO120 := n0_; have BK111 := n1_; have BK112 := n2_; have HB := n3_; clear n0_ n1_ n2_ n3_; (try clear hb); (try clear hb2); (try clear hk); (try clear hi); (try clear ho0); obtain ⟨hcz45_0, hcz45_1, hcz45_2⟩ := cel3 BK111.out; obtain ⟨hfz45_0, hfz45_1, hfz45_2⟩ := frz3 BK111.out; obtain ⟨Ao46, co46, eo46⟩ := Kd.R_slice HO120.out; subst eo46) | ((with_reducible refine gate_builtin (b := .append) (xs := #[.tmp 53, .tmp 66]) rfl ?_); at_builtin; refine Kd.R_append k40 (w0 := w) w.heap.size rfl (.tmp 53) (.tmp 66) 22 40 (.agg #[(.int .i64 0), (.int .i64 0), (.int .i64 0), (.int .i64 0), (.int .i64 0), (.int .i64 0), (.int .i64 0)]) 56 rfl Try.underlying22 info40 rfl (by decide) (by omega) (.slice Ao46 t118.length co46) t118 (⟨wrap64 ((t118.length : Int) + 1), wrap64 (t116 + 1), t115, a2, t115, 0, a3⟩ : S40) [.int .i64 (wrap64 ((t118.length : Int) + 1)), .int .i64 (wrap64 (t116 + 1)), .int .i64 t115, .int .i64 a2, .int .i64 t115, .int .i64 0, .int .i64 a3] (fun _ => True) (fun _ => False) rfl (by first | (go_simp; done) | (go_simp; rfl)) ?aP (fun _ hk => hk.elim) ?aF ?aO ?aB ?aS ?aL ?_; (case aP => exact k40_mkM _ _ _ (⟨wrap64 ((t118.length : Int) + 1), wrap64 (t116 + 1), t115, a2, t115, 0, a3⟩ : S40)); (case aB => exact (by repeat (first | (with_reducible first | exact HB.out | apply below_alloc | apply pw_below_drewN | apply below_drew1 | refine below_set ?_ GE111.out | refine below_set ?_ GE112.out) | exact HB.out))); (case aF => exact (fun _ _ => trivial)); (case aO => exact (by (with_reducible repeat (first | apply Kd.R_alloc | apply Kd.R_drewN | apply Kd.R_drew)); exact Kd.R_mono (Kd.R_far (p := ⟨gb111, 2, none⟩) (Kd.R_far (p := ⟨gb111, 1, none⟩) (Kd.R_far (p := ⟨gb111, 0, none⟩) (Kd.R_types HO120.out BK111.out (by decide)) (fun _ hk => hk.2) (.int .i64 t116)) (fun _ hk => hk.2) (.bool t117)) (fun _ hk => hk.2) (.slice Ao46 t118.length co46)) (fun _ hk => trivial))); (case aS => exact (below_size (by repeat (first | (with_reducible first | exact HB.out | apply below_alloc | apply pw_below_drewN | apply below_drew1 | refine below_set ?_ GE111.out | refine below_set ?_ GE112.out) | exact HB.out)))); (case aL => have := LMc39.out; omega); intro v122 w47 ho hb hg hat; rw [← Ny121.out] at ho; have n0_ := Aside0.mk (blk_grown (g := gb111) (o := .cells #[.int .i64 t116, .bool t117, .slice Ao46 t118.length co46] 24 (0, 0)) (by (with_reducible repeat (first | refine blk_drewN ?_ _ | refine blk_drew ?_ | refine blk_alloc ?_ _)); refine blk_put (cs := #[.int .i64 t116, .bool t117, .slice A1_2 l1_2.length c1_2]) ?_ 2 _ rfl; (with_reducible repeat (first | refine blk_drewN ?_ _ | refine blk_drew ?_ | refine blk_alloc ?_ _)); refine blk_put (cs := #[.int .i64 t116, .bool false, .slice A1_2 l1_2.length c1_2]) ?_ 1 _ rfl; (with_reducible repeat (first | refine blk_drewN ?_ _ | refine blk_drew ?_ | refine blk_alloc ?_ _)); refine blk_put (cs := #[.int .i64 a1_0, .bool false, .slice A1_2 l1_2.length c1_2]) ?_ 0 _ rfl; (with_reducible repeat (first | refine blk_drewN ?_ _ | refine blk_drew ?_ | refine blk_alloc ?_ _)); exact BK111.out) hg (Kd.R_ne HO120.out BK111.out (by decide))); have n1_ := Aside0.mk (blk_grown (g := gb112) (o := .cells #[.int .i64 0, .bool false, .slice none 0 0] 24 (0, 0)) (by (with_reducible repeat (first | refine blk_drewN ?_ _ | refine blk_drew ?_ | refine blk_alloc ?_ _)); refine blk_far ?_ NB112_111.out _; (with_reducible repeat (first | refine blk_drewN ?_ _ | refine blk_drew ?_ | refine blk_alloc ?_ _)); refine blk_far ?_ NB112_111.out _; (with_reducible repeat (first | refine blk_drewN ?_ _ | refine blk_drew ?_ | refine blk_alloc ?_ _)); refine blk_far ?_ NB112_111.out _; (with_reducible repeat (first | refine blk_drewN ?_ _ | refine blk_drew ?_ | refine blk_alloc ?_ _)); exact BK112.out) hg (Kd.R_ne HO120.out BK112.out (by decide))); have n2_ := Aside0.mk (hb); have n3_ := Aside0.mk (ho); clear BK111; clear BK112; clear HB; clear HO120; have BK111 := n0_; have BK112 := n1_; have HB := n2_; have HO123 := n3_; clear n0_ n1_ n2_ n3_; clear ho hb hg hat; obtain ⟨Ao48, co48, eo48⟩ := Kd.R_slice HO123.out; subst eo48; obtain ⟨hcz49_0, hcz49_1, hcz49_2⟩ := cel3 BK111.out; obtain ⟨hfz49_0, hfz49_1, hfz49_2⟩ := frz3 BK111.out; obtain ⟨hcz50_0, hcz50_1, hcz50_2⟩ := cel3 BK112.out; obtain ⟨hfz50_0, hfz50_1, hfz50_2⟩ := frz3 BK112.out))
               refine bodyPost_ret (results_ct rfl _ _ gb112 24 #[.int .i64 t116, .bool t117, .slice Ao48 y121.length co48] (0, 0) _ rfl (by (with_reducible repeat (first | refine blk_drewN ?_ _ | refine blk_drew ?_ | refine blk_alloc ?_ _)); refine blk_put (cs := #[.int .i64 t116, .bool t117, .slice none 0 0]) ?_ 2 _ rfl; (with_reducible repeat (first | refine blk_drewN ?_ _ | refine blk_drew ?_ | refine blk_alloc ?_ _)); refine blk_put (cs := #[.int .i64 t116, .bool false, .slice none 0 0]) ?_ 1 _ rfl; (with_reducible repeat (first | refine blk_drewN ?_ _ | refine blk_drew ?_ | refine blk_alloc ?_ _)); refine blk_put (cs := #[.int .i64 0, .bool false, .slice none 0 0]) ?_ 0 _ rfl; (with_reducible repeat (first | refine blk_drewN ?_ _ | refine blk_drew ?_ | refine blk_alloc ?_ _)); refine blk_far ?_ NB112_111.out _; (with_reducible repeat (first | refine blk_drewN ?_ _ | refine blk_drew ?_ | refine blk_alloc ?_ _)); exact BK112.out) Try.underlying24 rfl (by kernel_rfl)) rfl ?_
               exact ⟨_, by first | rfl | (simp [errW_none, errW_some] <;> rfl) | (simp [*, errW_none, errW_some] <;> rfl), by (with_reducible repeat (first | apply Kd.R_alloc | apply Kd.R_drewN | apply Kd.R_drew)); exact Kd.R_mono (Kd.R_far (p := ⟨gb112, 2, none⟩) (Kd.R_far (p := ⟨gb112, 1, none⟩) (Kd.R_far (p := ⟨gb112, 0, none⟩) (Kd.R_far (p := ⟨gb111, 2, none⟩) (Kd.R_types (Kd.R_types HO123.out BK111.out (by decide)) BK112.out (by decide)) (fun _ hk => hk.1.2) (.slice Ao48 y121.length co48)) (fun _ hk => hk.2) (.int .i64 t116)) (fun _ hk => hk.2) (.bool t117)) (fun _ hk => hk.2) (.slice Ao48 y121.length co48)) (fun _ hk => trivial), by repeat (first | (with_reducible first | exact HB.out | apply below_alloc | apply pw_below_drewN | apply below_drew1 | refine below_set ?_ GE111.out | refine below_set ?_ GE112.out) | exact HB.out)⟩
             · rw [if_neg c39] at H
               exact absurd H (by simp)
     · replace c16 := Bool.eq_false_iff.mpr c16
       subst c16
       have H1 : (some (0, false, ([] : List (S40)), 1)) = some (r1, r2, r3, r4) := by rw [if_neg (show ¬ (false = true) by decide)] at H; exact H
       clear H
       have H := H1
       clear H1
       simp only [Option.some.injEq, Prod.mk.injEq] at H
       obtain ⟨rfl, rfl, rfl, rfl⟩ := H
       go_enter Try.func16, Try.ntmps16
       go_wp2_with (first | ((with_reducible refine gate_dst (N := 5) rfl ?_); refine box_event ?hg (N := 5) ?hd (cs := #[.int .i64 a1_0, .bool false, .slice A1_2 l1_2.length c1_2]) (t := 24) ?hr ?_; (case hd => rfl); (case hg => rfl); (case hr => first | (go_simp; done) | (go_simp; rfl)); intro gb111 hg w51 hbox hb; have n0_ := Aside0.mk (below_step (by repeat (first | (with_reducible first | exact HB.out | apply below_alloc | apply pw_below_drewN | apply below_drew1) | exact HB.out)) hb); have n1_ := Aside0.mk (hbox); have n2_ := Aside0.mk ((by rw [hg]; exact (below_size (by repeat (first | (with_reducible first | exact HB.out | apply below_alloc | apply pw_below_drewN | apply below_drew1) | exact HB.out))) : w.heap.size ≤ gb111)); have n3_ := Aside0.mk ((by rw [hg]; exact (below_size (by repeat (first | (with_reducible first | exact HB.out | apply below_alloc | apply pw_below_drewN | apply below_drew1) | exact HB.out))) : w.heap.size ≤ gb111)); clear HB; have HB := n0_; have BK111 := n1_; have GW111 := n2_; have GE111 := n3_; clear n0_ n1_ n2_ n3_; clear hb hbox hg) | ((with_reducible refine gate_dst (N := 8) rfl ?_); refine box_event ?hg (N := 8) ?hd (cs := #[.int .i64 0, .bool false, .slice none 0 0]) (t := 24) ?hr ?_; (case hd => rfl); (case hg => rfl); (case hr => first | (go_simp; done) | (go_simp; rfl)); intro gb112 hg w52 hbox hb; have n0_ := Aside0.mk (blk_below (g := gb111) (o := .cells #[.int .i64 a1_0, .bool false, .slice A1_2 l1_2.length c1_2] 24 (0, 0)) (by (with_reducible repeat (first | refine blk_drewN ?_ _ | refine blk_drew ?_ | refine blk_alloc ?_ _)); exact BK111.out) hb); have n1_ := Aside0.mk (below_step (by repeat (first | (with_reducible first | exact HB.out | apply below_alloc | apply pw_below_drewN | apply below_drew1 | refine below_set ?_ GE111.out) | exact HB.out)) hb); have n2_ := Aside0.mk (hbox); have n3_ := Aside0.mk ((by rw [hg]; exact (below_size (by repeat (first | (with_reducible first | exact HB.out | apply below_alloc | apply pw_below_drewN | apply below_drew1 | refine below_set ?_ GE111.out) | exact HB.out))) : w.heap.size ≤ gb112)); have n4_ := Aside0.mk ((by rw [hg]; exact (below_size (by repeat (first | (with_reducible first | exact HB.out | apply below_alloc | apply pw_below_drewN | apply below_drew1 | refine below_set ?_ GE111.out) | exact HB.out))) : w.heap.size ≤ gb112)); have n5_ := Aside0.mk ((by rw [hg]; exact Nat.ne_of_lt (blk_lt (g := gb111) (o := .cells #[.int .i64 a1_0, .bool false, .slice A1_2 l1_2.length c1_2] 24 (0, 0)) (by (with_reducible repeat (first | refine blk_drewN ?_ _ | refine blk_drew ?_ | refine blk_alloc ?_ _)); exact BK111.out)) : gb111 ≠ gb112)); have n6_ := Aside0.mk ((by rw [hg]; exact Nat.ne_of_gt (blk_lt (g := gb111) (o := .cells #[.int .i64 a1_0, .bool false, .slice A1_2 l1_2.length c1_2] 24 (0, 0)) (by (with_reducible repeat (first | refine blk_drewN ?_ _ | refine blk_drew ?_ | refine blk_alloc ?_ _)); exact BK111.out)) : gb112 ≠ gb111)); clear BK111; clear HB; have BK111 := n0_; have HB := n1_; have BK112 := n2_; have GW112 := n3_; have GE112 := n4_; have NB111_112 := n5_; have NB112_111 := n6_; clear n0_ n1_ n2_ n3_ n4_ n5_ n6_; clear hb hbox hg; have hnb53 := NB111_112.out; have hnc53 := NB112_111.out; obtain ⟨hcz54_0, hcz54_1, hcz54_2⟩ := cel3 BK111.out; obtain ⟨hfz54_0, hfz54_1, hfz54_2⟩ := frz3 BK111.out) | ((with_reducible refine gate_callee (f := 10) rfl ?_); refine goesL_ (some 14) rfl rfl Try.func10 (by kernel_rfl) rfl #[.int .i64 a0, .agg #[.int .i64 a1_0, .bool false, .slice A1_2 l1_2.length c1_2]] rfl (by (try simp only [List.map_toArray, List.map_cons, List.map_nil]); first | done | rfl | (simp only [List.length_drop, List.length_take]; rfl)) ?_; (with_reducible refine (toc_Valid.calls a0 a1_0 false _ _ l1_2 true _ ?side1 ?side2 A5.out).mono ?_); (case side1 => repeat (first | exact (Kd.C_below HR1_2.out HB.out) | (with_reducible refine Kd.C_alloc ?_ _) | (with_reducible refine Kd.C_drewN ?_ _) | (with_reducible refine Kd.C_drew ?_))); (case side2 => exact HC1_2.out); rintro e w55 ⟨rfl, hb⟩; refine ⟨_, rfl, ?_⟩; have n0_ := Aside0.mk (blk_below (g := gb111) (o := .cells #[.int .i64 a1_0, .bool false, .slice A1_2 l1_2.length c1_2] 24 (0, 0)) (by (with_reducible repeat (first | refine blk_drewN ?_ _ | refine blk_drew ?_ | refine blk_alloc ?_ _)); exact BK111.out) hb); have n1_ := Aside0.mk (blk_below (g := gb112) (o := .cells #[.int .i64 0, .bool false, .slice none 0 0] 24 (0, 0)) (by (with_reducible repeat (first | refine blk_drewN ?_ _ | refine blk_drew ?_ | refine blk_alloc ?_ _)); exact BK112.out) hb); have n2_ := Aside0.mk (below_step (by repeat (first | (with_reducible first | exact HB.out | apply below_alloc | apply pw_below_drewN | apply below_drew1 | refine below_set ?_ GE111.out | refine below_set ?_ GE112.out) | exact HB.out)) hb); clear BK111; clear BK112; clear HB; have BK111 := n0_; have BK112 := n1_; have HB := n2_; clear n0_ n1_ n2_; (try clear hb); (try clear hb2); (try clear hk); (try clear hi); obtain ⟨hcz56_0, hcz56_1, hcz56_2⟩ := cel3 BK111.out; obtain ⟨hfz56_0, hfz56_1, hfz56_2⟩ := frz3 BK111.out) | ((with_reducible refine gate_callee (f := 27) rfl ?_); refine goesL_ (some 24) rfl rfl Try.func27 (by kernel_rfl) rfl #[.int .i64 a2, .int .i64 a3] rfl (by (try simp only [List.map_toArray, List.map_cons, List.map_nil]); first | done | rfl | (simp only [List.length_drop, List.length_take]; rfl)) ?_; (with_reducible refine (toc_packets.calls a2 a3 false _ A15.out).mono ?_); rintro e w' ⟨rfl, ⟨nd, rfl⟩⟩; refine ⟨_, rfl, ?_⟩; (try (rw [drewN_self w55]; generalize hq_ : World.drewN w55 _ = w55; have n0_ : Aside0 (w55.heap[gb111]? = some (.cells #[.int .i64 a1_0, .bool false, .slice A1_2 l1_2.length c1_2] 24 (0, 0))) := ⟨by rw [← hq_]; exact (by (with_reducible repeat (first | refine blk_drewN ?_ _ | refine blk_drew ?_ | refine blk_alloc ?_ _)); exact BK111.out)⟩; have n1_ : Aside0 (w55.heap[gb112]? = some (.cells #[.int .i64 0, .bool false, .slice none 0 0] 24 (0, 0))) := ⟨by rw [← hq_]; exact (by (with_reducible repeat (first | refine blk_drewN ?_ _ | refine blk_drew ?_ | refine blk_alloc ?_ _)); exact BK112.out)⟩; have n2_ : Aside0 (Below w.heap.size w w55) := ⟨by rw [← hq_]; exact (by repeat (first | (with_reducible first | exact HB.out | apply below_alloc | apply pw_below_drewN | apply below_drew1 | refine below_set ?_ GE111.out | refine below_set ?_ GE112.out) | exact HB.out))⟩; clear BK111 BK112 HB hq_; have BK111 := n0_; have BK112 := n1_; have HB := n2_; clear n0_ n1_ n2_)); obtain ⟨hcz57_0, hcz57_1, hcz57_2⟩ := cel3 BK112.out; obtain ⟨hfz57_0, hfz57_1, hfz57_2⟩ := frz3 BK112.out))
       refine bodyPost_ret (results_ct rfl _ _ gb112 24 #[.int .i64 0, .bool false, .slice none 0 0] (0, 0) _ rfl (by (with_reducible repeat (first | refine blk_drewN ?_ _ | refine blk_drew ?_ | refine blk_alloc ?_ _)); refine blk_put (cs := #[.int .i64 0, .bool false, .slice none 0 0]) ?_ 2 _ rfl; (with_reducible repeat (first | refine blk_drewN ?_ _ | refine blk_drew ?_ | refine blk_alloc ?_ _)); refine blk_put (cs := #[.int .i64 0, .bool false, .slice none 0 0]) ?_ 1 _ rfl; (with_reducible repeat (first | refine blk_drewN ?_ _ | refine blk_drew ?_ | refine blk_alloc ?_ _)); refine blk_put (cs := #[.int .i64 0, .bool false, .slice none 0 0]) ?_ 0 _ rfl; (with_reducible repeat (first | refine blk_drewN ?_ _ | refine blk_drew ?_ | refine blk_alloc ?_ _)); exact BK112.out) Try.underlying24 rfl (by kernel_rfl)) rfl ?_
       exact ⟨_, by first | rfl | (simp [errW_none, errW_some] <;> rfl) | (simp [*, errW_none, errW_some] <;> rfl), by first | exact Kd.R_nil _ _ _ _ _ | exact Kd.N_nil _ _ _ _ _ | exact Kd.V_nil _ _ _ _ _ | exact Kd.Q_nil _ _ _ _ _ | exact Kd.S_nil _ _ _ _ _, by repeat (first | (with_reducible first | exact HB.out | apply below_alloc | apply pw_below_drewN | apply below_drew1 | refine below_set ?_ GE111.out | refine below_set ?_ GE112.out) | exact HB.out)⟩
 · replace c6 := Bool.eq_false_iff.mpr c6
   subst c6
   have H1 : (some (0, false, ([] : List (S40)), 1)) = some (r1, r2, r3, r4) := by rw [if_neg (show ¬ (false = true) by decide)] at H; exact H
   clear H
   have H := H1
   clear H1
   simp only [Option.some.injEq, Prod.mk.injEq] at H
   obtain ⟨rfl, rfl, rfl, rfl⟩ := H
   go_enter Try.func16, Try.ntmps16
   go_wp2_with (first | ((with_reducible refine gate_dst (N := 5) rfl ?_); refine box_event ?hg (N := 5) ?hd (cs := #[.int .i64 a1_0, .bool a1_1, .slice A1_2 l1_2.length c1_2]) (t := 24) ?hr ?_; (case hd => rfl); (case hg => rfl); (case hr => first | (go_simp; done) | (go_simp; rfl)); intro gb111 hg w58 hbox hb; have n0_ := Aside0.mk (below_step (by repeat (first | (with_reducible first | exact HB.out | apply below_alloc | apply pw_below_drewN | apply below_drew1) | exact HB.out)) hb); have n1_ := Aside0.mk (hbox); have n2_ := Aside0.mk ((by rw [hg]; exact (below_size (by repeat (first | (with_reducible first | exact HB.out | apply below_alloc | apply pw_below_drewN | apply below_drew1) | exact HB.out))) : w.heap.size ≤ gb111)); have n3_ := Aside0.mk ((by rw [hg]; exact (below_size (by repeat (first | (with_reducible first | exact HB.out | apply below_alloc | apply pw_below_drewN | apply below_drew1) | exact HB.out))) : w.heap.size ≤ gb111)); clear HB; have HB := n0_; have BK111 := n1_; have GW111 := n2_; have GE111 := n3_; clear n0_ n1_ n2_ n3_; clear hb hbox hg) | ((with_reducible refine gate_dst (N := 8) rfl ?_); refine box_event ?hg (N := 8) ?hd (cs := #[.int .i64 0, .bool false, .slice none 0 0]) (t := 24) ?hr ?_; (case hd => rfl); (case hg => rfl); (case hr => first | (go_simp; done) | (go_simp; rfl)); intro gb112 hg w59 hbox hb; have n0_ := Aside0.mk (blk_below (g := gb111) (o := .cells #[.int .i64 a1_0, .bool a1_1, .slice A1_2 l1_2.length c1_2] 24 (0, 0)) (by (with_reducible repeat (first | refine blk_drewN ?_ _ | refine blk_drew ?_ | refine blk_alloc ?_ _)); exact BK111.out) hb); have n1_ := Aside0.mk (below_step (by repeat (first | (with_reducible first | exact HB.out | apply below_alloc | apply pw_below_drewN | apply below_drew1 | refine below_set ?_ GE111.out) | exact HB.out)) hb); have n2_ := Aside0.mk (hbox); have n3_ := Aside0.mk ((by rw [hg]; exact (below_size (by repeat (first | (with_reducible first | exact HB.out | apply below_alloc | apply pw_below_drewN | apply below_drew1 | refine below_set ?_ GE111.out) | exact HB.out))) : w.heap.size ≤ gb112)); have n4_ := Aside0.mk ((by rw [hg]; exact (below_size (by repeat (first | (with_reducible first | exact HB.out | apply below_alloc | apply pw_below_drewN | apply below_drew1 | refine below_set ?_ GE111.out) | exact HB.out))) : w.heap.size ≤ gb112)); have n5_ := Aside0.mk ((by rw [hg]; exact Nat.ne_of_lt (blk_lt (g := gb111) (o := .cells #[.int .i64 a1_0, .bool a1_1, .slice A1_2 l1_2.length c1_2] 24 (0, 0)) (by (with_reducible repeat (first | refine blk_drewN ?_ _ | refine blk_drew ?_ | refine blk_alloc ?_ _)); exact BK111.out)) : gb111 ≠ gb112)); have n6_ := Aside0.mk ((by rw [hg]; exact Nat.ne_of_gt (blk_lt (g := gb111) (o := .cells #[.int .i64 a1_0, .bool a1_1, .slice A1_2 l1_2.length c1_2] 24 (0, 0)) (by (with_reducible repeat (first | refine blk_drewN ?_ _ | refine blk_drew ?_ | refine blk_alloc ?_ _)); exact BK111.out)) : gb112 ≠ gb111)); clear BK111; clear HB; have BK111 := n0_; have HB := n1_; have BK112 := n2_; have GW112 := n3_; have GE112 := n4_; have NB111_112 := n5_; have NB112_111 := n6_; clear n0_ n1_ n2_ n3_ n4_ n5_ n6_; clear hb hbox hg; have hnb60 := NB111_112.out; have hnc60 := NB112_111.out; obtain ⟨hcz61_0, hcz61_1, hcz61_2⟩ := cel3 BK111.out; obtain ⟨hfz61_0, hfz61_1, hfz61_2⟩ := frz3 BK111.out) | ((with_reducible refine gate_callee (f := 10) rfl ?_); refine goesL_ (some 14) rfl rfl Try.func10 (by kernel_rfl) rfl #[.int .i64 a0, .agg #[.int .i64 a1_0, .bool a1_1, .slice A1_2 l1_2.length c1_2]] rfl (by (try simp only [List.map_toArray, List.map_cons, List.map_nil]); first | done | rfl | (simp only [List.length_drop, List.length_take]; rfl)) ?_; (with_reducible refine (toc_Valid.calls a0 a1_0 a1_1 _ _ l1_2 false _ ?side1 ?side2 A5.out).mono ?_); (case side1 => repeat (first | exact (Kd.C_below HR1_2.out HB.out) | (with_reducible refine Kd.C_alloc ?_ _) | (with_reducible refine Kd.C_drewN ?_ _) | (with_reducible refine Kd.C_drew ?_))); (case side2 => exact HC1_2.out); rintro e w62 ⟨rfl, hb⟩; refine ⟨_, rfl, ?_⟩; have n0_ := Aside0.mk (blk_below (g := gb111) (o := .cells #[.int .i64 a1_0, .bool a1_1, .slice A1_2 l1_2.length c1_2] 24 (0, 0)) (by (with_reducible repeat (first | refine blk_drewN ?_ _ | refine blk_drew ?_ | refine blk_alloc ?_ _)); exact BK111.out) hb); have n1_ := Aside0.mk (blk_below (g := gb112) (o := .cells #[.int .i64 0, .bool false, .slice none 0 0] 24 (0, 0)) (by (with_reducible repeat (first | refine blk_drewN ?_ _ | refine blk_drew ?_ | refine blk_alloc ?_ _)); exact BK112.out) hb); have n2_ := Aside0.mk (below_step (by repeat (first | (with_reducible first | exact HB.out | apply below_alloc | apply pw_below_drewN | apply below_drew1 | refine below_set ?_ GE111.out | refine below_set ?_ GE112.out) | exact HB.out)) hb); clear BK111; clear BK112; clear HB; have BK111 := n0_; have BK112 := n1_; have HB := n2_; clear n0_ n1_ n2_; (try clear hb); (try clear hb2); (try clear hk); (try clear hi); obtain ⟨hcz63_0, hcz63_1, hcz63_2⟩ := cel3 BK112.out; obtain ⟨hfz63_0, hfz63_1, hfz63_2⟩ := frz3 BK112.out))
   refine bodyPost_ret (results_ct rfl _ _ gb112 24 #[.int .i64 0, .bool false, .slice none 0 0] (0, 0) _ rfl (by (with_reducible repeat (first | refine blk_drewN ?_ _ | refine blk_drew ?_ | refine blk_alloc ?_ _)); refine blk_put (cs := #[.int .i64 0, .bool false, .slice none 0 0]) ?_ 2 _ rfl; (with_reducible repeat (first | refine blk_drewN ?_ _ | refine blk_drew ?_ | refine blk_alloc ?_ _)); refine blk_put (cs := #[.int .i64 0, .bool false, .slice none 0 0]) ?_ 1 _ rfl; (with_reducible repeat (first | refine blk_drewN ?_ _ | refine blk_drew ?_ | refine blk_alloc ?_ _)); refine blk_put (cs := #[.int .i64 0, .bool false, .slice none 0 0]) ?_ 0 _ rfl; (with_reducible repeat (first | refine blk_drewN ?_ _ | refine blk_drew ?_ | refine blk_alloc ?_ _)); exact BK112.out) Try.underlying24 rfl (by kernel_rfl)) rfl ?_
   exact ⟨_, by first | rfl | (simp [errW_none, errW_some] <;> rfl) | (simp [*, errW_none, errW_some] <;> rfl), by first | exact Kd.R_nil _ _ _ _ _ | exact Kd.N_nil _ _ _ _ _ | exact Kd.V_nil _ _ _ _ _ | exact Kd.Q_nil _ _ _ _ _ | exact Kd.S_nil _ _ _ _ _, by repeat (first | (with_reducible first | exact HB.out | apply below_alloc | apply pw_below_drewN | apply below_drew1 | refine below_set ?_ GE111.out | refine below_set ?_ GE112.out) | exact HB.out)⟩
end Go.Proofs.Ytjhepdcdhabcjaa.G
namespace Go.Proofs.Ytjhepdcdhabcjaa.G
open Go.RowKit Go.Proofs.YtjhepdcdhabcjaaW.PrintWords Go.Proofs.YtjhepdcdhabcjaaW.PrintLast Go.Proofs.YtjhepdcdhabcjaaW.PrintMore
attribute [local go_sem] max2_int min2_int max_two min_two max_three min_three max_four min_four   -- for this text's walks alone
set_option linter.unusedVariables false
set_option linter.unusedSimpArgs false
mutual
def toc_Append.j1 : Nat → Int → Int → Int → Int → Bool → List (S40) → Option (Int × Bool × (List (S40)) × Int)
 | 0, _, _, _, _, _, _ => none
 | k + 1, x2, x3, x10, x125000, x125001, x125002 => if x10 < 0 then (some (0, false, ([] : List (S40)), 2)) else (if 0 ≤ x10 then (if x10 < (x125002.length : Int) then ((toc_packets.f x3 ((rd_T40 x125002 x10).f6)).bind fun t130 => (if t130 = true then ((toc_end.f ((rd_T40 x125002 x10).f0) ((rd_T40 x125002 x10).f1) ((rd_T40 x125002 x10).f2) ((rd_T40 x125002 x10).f3) ((rd_T40 x125002 x10).f4) ((rd_T40 x125002 x10).f5) ((rd_T40 x125002 x10).f6)).bind fun t132 => (if x3 > (wrap64 (t132 - x2)) then (some (0, false, ([] : List (S40)), 12)) else ((toc_clone.f x125000 x125001 x125002).bind fun bt133 => (if x10 < (bt133.2.2.length : Int) then ((some (bt133.2.2.set (x10 : Int).toNat (⟨(rd_T40 bt133.2.2 x10).f0, (rd_T40 bt133.2.2 x10).f1, (rd_T40 bt133.2.2 x10).f2, (rd_T40 bt133.2.2 x10).f3, wrap64 (((rd_T40 bt133.2.2 x10).f4) + x3), (rd_T40 bt133.2.2 x10).f5, (rd_T40 bt133.2.2 x10).f6⟩ : S40) : List (S40))).bind fun y139 => (some (bt133.1, bt133.2.1, (y139.set (x10 : Int).toNat (⟨(rd_T40 y139 x10).f0, (rd_T40 y139 x10).f1, (rd_T40 y139 x10).f2, (rd_T40 y139 x10).f3, (rd_T40 y139 x10).f4, 1, (rd_T40 y139 x10).f6⟩ : S40)), 0))) else (none))))) else (some (0, false, ([] : List (S40)), 1)))) else (none)) else (none))
def toc_Append.l0 : Nat → Int → Int → Int → Int → Bool → List (S40) → Option (Int × Bool × (List (S40)) × Int)
 | 0, _, _, _, _, _, _ => none
 | k + 1, x2, x3, x10, x125000, x125001, x125002 => if x10 ≥ 0 then (if 0 ≤ x10 then (if x10 < (x125002.length : Int) then (if ((rd_T40 x125002 x10).f5) = 2 then (toc_Append.l0 k x2 x3 (wrap64 (x10 - 1)) x125000 x125001 x125002) else (if ((rd_T40 x125002 x10).f4) = x2 then (toc_Append.j1 k x2 x3 x10 x125000 x125001 x125002) else (toc_Append.l0 k x2 x3 (wrap64 (x10 - 1)) x125000 x125001 x125002))) else (none)) else (none)) else (toc_Append.j1 k x2 x3 x10 x125000 x125001 x125002)
end
def toc_Append.f (k : Nat) (a0 : Int) (a1_0 : Int) (a1_1 : Bool) (l1_2 : List (S40)) (a2 : Int) (a3 : Int) : Option (Int × Bool × (List (S40)) × Int) := (toc_Valid.f a0 a1_0 a1_1 l1_2).bind fun t126 => (if t126 = true then (toc_Append.l0 k a2 a3 (wrap64 ((l1_2.length : Int) - 1)) a1_0 a1_1 l1_2) else (some (0, false, ([] : List (S40)), 1)))
theorem toc_Append.mono_l : ∀ k, (∀ y0 y1 y2 y3 y4 y5, LeO (toc_Append.j1 k y0 y1 y2 y3 y4 y5) (toc_Append.j1 (k + 1) y0 y1 y2 y3 y4 y5)) ∧ (∀ y0 y1 y2 y3 y4 y5, LeO (toc_Append.l0 k y0 y1 y2 y3 y4 y5) (toc_Append.l0 (k + 1) y0 y1 y2 y3 y4 y5))
 | 0 => ⟨fun _ _ _ _ _ _ r h => by simp [toc_Append.j1] at h, fun _ _ _ _ _ _ r h => by simp [toc_Append.l0] at h⟩
 | k + 1 => by
  obtain ⟨ih0, ih1⟩ := toc_Append.mono_l k
  refine ⟨?_, ?_⟩
  · intro y0 y1 y2 y3 y4 y5
    unfold toc_Append.j1
    repeat' first
    | (with_reducible exact ih0 _ _ _ _ _ _)
    | (with_reducible exact ih1 _ _ _ _ _ _)
    | (with_reducible exact LeO.refl _)
    | (with_reducible exact LeO.none _)
    | (with_reducible refine LeO.ite ?_ ?_)
    | (with_reducible refine LeO.bind ?_ (fun _ => ?_))
    | exact ih0 _ _ _ _ _ _
    | exact ih1 _ _ _ _ _ _
    | exact LeO.none _
    | refine LeO.ite ?_ ?_
    | refine LeO.bind ?_ (fun _ => ?_)
  · intro y0 y1 y2 y3 y4 y5
    unfold toc_Append.l0
    repeat' first
    | (with_reducible exact ih0 _ _ _ _ _ _)
    | (with_reducible exact ih1 _ _ _ _ _ _)
    | (with_reducible exact LeO.refl _)
    | (with_reducible exact LeO.none _)
    | (with_reducible refine LeO.ite ?_ ?_)
    | (with_reducible refine LeO.bind ?_ (fun _ => ?_))
    | exact ih0 _ _ _ _ _ _
    | exact ih1 _ _ _ _ _ _
    | exact LeO.none _
    | refine LeO.ite ?_ ?_
    | refine LeO.bind ?_ (fun _ => ?_)
theorem toc_Append.mono : ∀ a0 a1 a2 a3 a4 a5 k, LeO (toc_Append.f k a0 a1 a2 a3 a4 a5) (toc_Append.f (k + 1) a0 a1 a2 a3 a4 a5) := by
 intro a0 a1 a2 a3 a4 a5 k
 obtain ⟨ih0, ih1⟩ := toc_Append.mono_l k
 unfold toc_Append.f
 repeat' first
  | (with_reducible exact ih0 _ _ _ _ _ _)
  | (with_reducible exact ih1 _ _ _ _ _ _)
  | (with_reducible exact LeO.refl _)
  | (with_reducible exact LeO.none _)
  | (with_reducible refine LeO.ite ?_ ?_)
  | (with_reducible refine LeO.bind ?_ (fun _ => ?_))
  | exact ih0 _ _ _ _ _ _
  | exact ih1 _ _ _ _ _ _
  | exact LeO.none _
  | refine LeO.ite ?_ ?_
  | refine LeO.bind ?_ (fun _ => ?_)
set_option maxHeartbeats 8000000 in
set_option maxRecDepth 100000 in
theorem toc_Append.calls (k : Nat) (a0 : Int) (a1_0 : Int) (a1_1 : Bool) (A1_2 : Option Addr) (c1_2 : Nat) (l1_2 : List (S40)) (a2 : Int) (a3 : Int) (r1 : Int) (r2 : Bool) (r3 : List (S40)) (r4 : Int) (w : World) (hr1_2 : Kd.C k40 w A1_2 l1_2.length l1_2) (hc1_2 : l1_2.length ≤ c1_2) (h : toc_Append.f k a0 a1_0 a1_1 l1_2 a2 a3 = some (r1, r2, r3, r4)) :
 Calls Try.prog 17 #[.int .i64 a0, .agg #[.int .i64 a1_0, .bool a1_1, .slice A1_2 l1_2.length c1_2], .int .i64 a2, .int .i64 a3] w fun e w' => ∃ v2_ : Value, e = .returned (.tuple #[.agg #[.int .i64 r1, .bool r2, v2_], .int .i64 r4]) ∧ Kd.R k40 40 w' w.heap.size (fun _ => True) v2_ r3 ∧ Below w.heap.size w w' := by
 have hu24 := Try.underlying24
 have hu40 := Try.underlying40
 have HR1_2 := Aside0.mk hr1_2
 have HC1_2 := Aside0.mk hc1_2
 clear hr1_2 hc1_2
 have HB := Aside0.mk (Below.refl w.heap.size w)
 have H : ((toc_Valid.f a0 a1_0 a1_1 l1_2).bind fun t126 => (if t126 = true then (toc_Append.l0 k a2 a3 (wrap64 ((l1_2.length : Int) - 1)) a1_0 a1_1 l1_2) else (some (0, false, ([] : List (S40)), 1)))) = some (r1, r2, r3, r4) := h
 clear h
 replace H := Option.bind_eq_some_iff.mp H
 obtain ⟨t126, A50, H⟩ := H
 replace H : (if t126 = true then (toc_Append.l0 k a2 a3 (wrap64 ((l1_2.length : Int) - 1)) a1_0 a1_1 l1_2) else (some (0, false, ([] : List (S40)), 1))) = some (r1, r2, r3, r4) := H
 have A5 := Aside0.mk A50
 clear A50
 by_cases c6 : t126 = true
 · subst c6
   have H1 : (toc_Append.l0 k a2 a3 (wrap64 ((l1_2.length : Int) - 1)) a1_0 a1_1 l1_2) = some (r1, r2, r3, r4) := by rw [if_pos rfl] at H; exact H
   clear H
   have H := H1
   clear H1
   have HC7 := Aside0.mk H
   clear H
   go_enter Try.func17, Try.ntmps17
   go_upto_block 0 with (first | ((with_reducible refine gate_dst (N := 5) rfl ?_); refine box_event ?hg (N := 5) ?hd (cs := #[.int .i64 a1_0, .bool a1_1, .slice A1_2 l1_2.length c1_2]) (t := 24) ?hr ?_; (case hd => rfl); (case hg => rfl); (case hr => first | (go_simp; done) | (go_simp; rfl)); intro gb124 hg w8 hbox hb; have n0_ := Aside0.mk (below_step (by repeat (first | (with_reducible first | exact HB.out | apply below_alloc | apply pw_below_drewN | apply below_drew1) | exact HB.out)) hb); have n1_ := Aside0.mk (hbox); have n2_ := Aside0.mk ((by rw [hg]; exact (below_size (by repeat (first | (with_reducible first | exact HB.out | apply below_alloc | apply pw_below_drewN | apply below_drew1) | exact HB.out))) : w.heap.size ≤ gb124)); have n3_ := Aside0.mk ((by rw [hg]; exact (below_size (by repeat (first | (with_reducible first | exact HB.out | apply below_alloc | apply pw_below_drewN | apply below_drew1) | exact HB.out))) : w.heap.size ≤ gb124)); clear HB; have HB := n0_; have BK124 := n1_; have GW124 := n2_; have GE124 := n3_; clear n0_ n1_ n2_ n3_; clear hb hbox hg) | ((with_reducible refine gate_dst (N := 8) rfl ?_); refine box_event ?hg (N := 8) ?hd (cs := #[.int .i64 0, .bool false, .slice none 0 0]) (t := 24) ?hr ?_; (case hd => rfl); (case hg => rfl); (case hr => first | (go_simp; done) | (go_simp; rfl)); intro gb125 hg w9 hbox hb; have n0_ := Aside0.mk (blk_below (g := gb124) (o := .cells #[.int .i64 a1_0, .bool a1_1, .slice A1_2 l1_2.length c1_2] 24 (0, 0)) (by (with_reducible repeat (first | refine blk_drewN ?_ _ | refine blk_drew ?_ | refine blk_alloc ?_ _)); exact BK124.out) hb); have n1_ := Aside0.mk (below_step (by repeat (first | (with_reducible first | exact HB.out | apply below_alloc | apply pw_below_drewN | apply below_drew1 | refine below_set ?_ GE124.out) | exact HB.out)) hb); have n2_ := Aside0.mk (hbox); have n3_ := Aside0.mk ((by rw [hg]; exact (below_size (by repeat (first | (with_reducible first | exact HB.out | apply below_alloc | apply pw_below_drewN | apply below_drew1 | refine below_set ?_ GE124.out) | exact HB.out))) : w.heap.size ≤ gb125)); have n4_ := Aside0.mk ((by rw [hg]; exact (below_size (by repeat (first | (with_reducible first | exact HB.out | apply below_alloc | apply pw_below_drewN | apply below_drew1 | refine below_set ?_ GE124.out) | exact HB.out))) : w.heap.size ≤ gb125)); have n5_ := Aside0.mk ((by rw [hg]; exact Nat.ne_of_lt (blk_lt (g := gb124) (o := .cells #[.int .i64 a1_0, .bool a1_1, .slice A1_2 l1_2.length c1_2] 24 (0, 0)) (by (with_reducible repeat (first | refine blk_drewN ?_ _ | refine blk_drew ?_ | refine blk_alloc ?_ _)); exact BK124.out)) : gb124 ≠ gb125)); have n6_ := Aside0.mk ((by rw [hg]; exact Nat.ne_of_gt (blk_lt (g := gb124) (o := .cells #[.int .i64 a1_0, .bool a1_1, .slice A1_2 l1_2.length c1_2] 24 (0, 0)) (by (with_reducible repeat (first | refine blk_drewN ?_ _ | refine blk_drew ?_ | refine blk_alloc ?_ _)); exact BK124.out)) : gb125 ≠ gb124)); clear BK124; clear HB; have BK124 := n0_; have HB := n1_; have BK125 := n2_; have GW125 := n3_; have GE125 := n4_; have NB124_125 := n5_; have NB125_124 := n6_; clear n0_ n1_ n2_ n3_ n4_ n5_ n6_; clear hb hbox hg; have hnb10 := NB124_125.out; have hnc10 := NB125_124.out; obtain ⟨hcz11_0, hcz11_1, hcz11_2⟩ := cel3 BK124.out; obtain ⟨hfz11_0, hfz11_1, hfz11_2⟩ := frz3 BK124.out) | ((with_reducible refine gate_callee (f := 10) rfl ?_); refine goesL_ (some 13) rfl rfl Try.func10 (by kernel_rfl) rfl #[.int .i64 a0, .agg #[.int .i64 a1_0, .bool a1_1, .slice A1_2 l1_2.length c1_2]] rfl (by (try simp only [List.map_toArray, List.map_cons, List.map_nil]); first | done | rfl | (simp only [List.length_drop, List.length_take]; rfl)) ?_; (with_reducible refine (toc_Valid.calls a0 a1_0 a1_1 _ _ l1_2 true _ ?side1 ?side2 A5.out).mono ?_); (case side1 => repeat (first | exact (Kd.C_below HR1_2.out HB.out) | (with_reducible refine Kd.C_alloc ?_ _) | (with_reducible refine Kd.C_drewN ?_ _) | (with_reducible refine Kd.C_drew ?_))); (case side2 => exact HC1_2.out); rintro e w12 ⟨rfl, hb⟩; refine ⟨_, rfl, ?_⟩; have n0_ := Aside0.mk (blk_below (g := gb124) (o := .cells #[.int .i64 a1_0, .bool a1_1, .slice A1_2 l1_2.length c1_2] 24 (0, 0)) (by (with_reducible repeat (first | refine blk_drewN ?_ _ | refine blk_drew ?_ | refine blk_alloc ?_ _)); exact BK124.out) hb); have n1_ := Aside0.mk (blk_below (g := gb125) (o := .cells #[.int .i64 0, .bool false, .slice none 0 0] 24 (0, 0)) (by (with_reducible repeat (first | refine blk_drewN ?_ _ | refine blk_drew ?_ | refine blk_alloc ?_ _)); exact BK125.out) hb); have n2_ := Aside0.mk (below_step (by repeat (first | (with_reducible first | exact HB.out | apply below_alloc | apply pw_below_drewN | apply below_drew1 | refine below_set ?_ GE124.out | refine below_set ?_ GE125.out) | exact HB.out)) hb); clear BK124; clear BK125; clear HB; have BK124 := n0_; have BK125 := n1_; have HB := n2_; clear n0_ n1_ n2_; (try clear hb); (try clear hb2); (try clear hk); (try clear hi); obtain ⟨hcz13_0, hcz13_1, hcz13_2⟩ := cel3 BK124.out; obtain ⟨hfz13_0, hfz13_1, hfz13_2⟩ := frz3 BK124.out))
   (try simp only [Act.put, List.setIfInBounds_toArray, List.set_cons_zero, List.set_cons_succ])
   go_cut [10] (fun v10 wc => ∃ (kq : Nat) (x10_6 : Int), v10 = .int .i64 x10_6 ∧ Aside0 (toc_Append.j1 kq a2 a3 x10_6 a1_0 a1_1 l1_2 = some (r1, r2, r3, r4)) ∧ Aside0 (kq ≤ k) ∧ Aside0 (wc.heap[gb124]? = some (.cells #[.int .i64 a1_0, .bool a1_1, (.slice A1_2 l1_2.length c1_2)] 24 (0, 0))) ∧ Aside0 (wc.heap[gb125]? = some (.cells #[.int .i64 0, .bool false, (.slice none 0 0)] 24 (0, 0))) ∧ Aside0 (Below w.heap.size w wc))
   case first =>
    have H := HC7.out
    clear HC7
    have H' := Aside0.mk H
    clear H
    go_wp2
    go_loopg [10] k (fun kq v10 w' => ∃ (x10_1 : Int), v10 = .int .i64 x10_1 ∧ Aside0 (toc_Append.l0 kq a2 a3 x10_1 a1_0 a1_1 l1_2 = some (r1, r2, r3, r4)) ∧ Aside0 (kq ≤ k) ∧ Aside0 (w'.heap[gb124]? = some (.cells #[.int .i64 a1_0, .bool a1_1, (.slice A1_2 l1_2.length c1_2)] 24 (0, 0))) ∧ Aside0 (w'.heap[gb125]? = some (.cells #[.int .i64 0, .bool false, (.slice none 0 0)] 24 (0, 0))) ∧ Aside0 (Below w.heap.size w w'))
    case atStart => exact ⟨(wrap64 ((l1_2.length : Int) - 1)), (by first | rfl | (simp; done) | (simp [*]; done)), H', ⟨Nat.le_refl _⟩, ⟨by (with_reducible repeat (first | refine blk_drewN ?_ _ | refine blk_drew ?_ | refine blk_alloc ?_ _)); exact BK124.out⟩, ⟨by (with_reducible repeat (first | refine blk_drewN ?_ _ | refine blk_drew ?_ | refine blk_alloc ?_ _)); exact BK125.out⟩, ⟨by repeat (first | (with_reducible first | exact HB.out | apply below_alloc | apply pw_below_drewN | apply below_drew1 | refine below_set ?_ GE124.out | refine below_set ?_ GE125.out) | exact HB.out)⟩⟩
    case round =>
     clear H'
     try clear c1
     try clear p2
     try clear c6
     try clear p6
     try clear c10
     try clear hcz11_0
     try clear hcz11_1
     try clear hcz11_2
     try clear hcz13_0
     try clear hcz13_1
     try clear hcz13_2
     try clear hfz11_0
     try clear hfz11_1
     try clear hfz11_2
     try clear hfz13_0
     try clear hfz13_1
     try clear hfz13_2
     obtain ⟨x10_1, rfl, HA, HK1, BK124, BK125, HB⟩ := hrel
     cases gk with
     | zero => exact absurd HA.out (by simp [toc_Append.l0])
     | succ k1 =>
      have H := HA.out
      clear HA
      simp only [toc_Append.l0] at H
      by_cases c14 : x10_1 ≥ 0
      · rw [if_pos c14] at H
        have c14b0 : decide (0 ≤ x10_1) = true := decide_eq_true c14
        clear c14
        (first | rw [c14b0] | (simp only [i64_w, i32_w]; rw [c14b0]) | skip)
        by_cases c15 : 0 ≤ x10_1
        · rw [if_pos c15] at H
          have c15b0 : decide (0 ≤ x10_1) = true := decide_eq_true c15
          clear c15
          by_cases c16 : x10_1 < (l1_2.length : Int)
          · rw [if_pos c16] at H
            have c16b0 : decide (x10_1 < (l1_2.length : Int)) = true := decide_eq_true c16
            clear c16
            by_cases c17 : ((rd_T40 l1_2 x10_1).f5) = 2
            · rw [if_pos c17] at H
              have c17b0 : (((rd_T40 l1_2 x10_1).f5) == 2) = true := beq_iff_eq.mpr c17
              have c17b1 : (((rd_T40 l1_2 x10_1).f5) != 2) = false := bne_eq_false_iff_eq.mpr c17
              clear c17
              have H' := Aside0.mk H
              clear H
              have hnb18 := NB124_125.out
              have hnc18 := NB125_124.out
              obtain ⟨hcz19_0, hcz19_1, hcz19_2⟩ := cel3 BK124.out
              obtain ⟨hfz19_0, hfz19_1, hfz19_2⟩ := frz3 BK124.out
              have p127 : 0 ≤ (x10_1 : Int) := of_decide_eq_true (by first | (with_reducible assumption) | assumption)
              have q127 : x10_1 < (l1_2.length : Int) := of_decide_eq_true (by first | (with_reducible assumption) | assumption)
              obtain ⟨ad127, e127, hx127_0, hx127_1, hx127_2, hx127_3, hx127_4, hx127_5, hx127_6⟩ := at_T40 HR1_2.out x10_1 p127 q127
              cases e127
              replace hx127_0 := upc HB.out hx127_0
              replace hx127_1 := upc HB.out hx127_1
              replace hx127_2 := upc HB.out hx127_2
              replace hx127_3 := upc HB.out hx127_3
              replace hx127_4 := upc HB.out hx127_4
              replace hx127_5 := upc HB.out hx127_5
              replace hx127_6 := upc HB.out hx127_6
              replace p127 := eq_true p127
              replace q127 := eq_true q127
              go_wp2
              go_roundg k1
              case measure => have := HK1.out; omega
              case rel => exact ⟨(wrap64 (x10_1 - 1)), (by first | rfl | (simp; done) | (simp [*]; done)), H', ⟨by have := HK1.out; omega⟩, ⟨by (with_reducible repeat (first | refine blk_drewN ?_ _ | refine blk_drew ?_ | refine blk_alloc ?_ _)); exact BK124.out⟩, ⟨by (with_reducible repeat (first | refine blk_drewN ?_ _ | refine blk_drew ?_ | refine blk_alloc ?_ _)); exact BK125.out⟩, ⟨by repeat (first | (with_reducible first | exact HB.out | apply below_alloc | apply pw_below_drewN | apply below_drew1 | refine below_set ?_ GE124.out | refine below_set ?_ GE125.out) | exact HB.out)⟩⟩
            · rw [if_neg c17] at H
              have c17b0 : (((rd_T40 l1_2 x10_1).f5) == 2) = false := beq_eq_false_iff_ne.mpr c17
              have c17b1 : (((rd_T40 l1_2 x10_1).f5) != 2) = true := bne_iff_ne.mpr c17
              by_cases c20 : ((rd_T40 l1_2 x10_1).f4) = a2
              · rw [if_pos c20] at H
                have c20b0 : (((rd_T40 l1_2 x10_1).f4) == a2) = true := beq_iff_eq.mpr c20
                have c20b1 : (((rd_T40 l1_2 x10_1).f4) != a2) = false := bne_eq_false_iff_eq.mpr c20
                clear c20
                have H' := Aside0.mk H
                clear H
                have hnb21 := NB124_125.out
                have hnc21 := NB125_124.out
                obtain ⟨hcz22_0, hcz22_1, hcz22_2⟩ := cel3 BK124.out
                obtain ⟨hfz22_0, hfz22_1, hfz22_2⟩ := frz3 BK124.out
                have p127 : 0 ≤ (x10_1 : Int) := of_decide_eq_true (by first | (with_reducible assumption) | assumption)
                have q127 : x10_1 < (l1_2.length : Int) := of_decide_eq_true (by first | (with_reducible assumption) | assumption)
                obtain ⟨ad127, e127, hx127_0, hx127_1, hx127_2, hx127_3, hx127_4, hx127_5, hx127_6⟩ := at_T40 HR1_2.out x10_1 p127 q127
                cases e127
                replace hx127_0 := upc HB.out hx127_0
                replace hx127_1 := upc HB.out hx127_1
                replace hx127_2 := upc HB.out hx127_2
                replace hx127_3 := upc HB.out hx127_3
                replace hx127_4 := upc HB.out hx127_4
                replace hx127_5 := upc HB.out hx127_5
                replace hx127_6 := upc HB.out hx127_6
                replace p127 := eq_true p127
                replace q127 := eq_true q127
                have p128 : 0 ≤ (x10_1 : Int) := of_decide_eq_true (by first | (with_reducible assumption) | assumption)
                have q128 : x10_1 < (l1_2.length : Int) := of_decide_eq_true (by first | (with_reducible assumption) | assumption)
                obtain ⟨ad128, e128, hx128_0, hx128_1, hx128_2, hx128_3, hx128_4, hx128_5, hx128_6⟩ := at_T40 HR1_2.out x10_1 p128 q128
                obtain rfl : ad127 = ad128 := (by injection e128)
                replace hx128_0 := upc HB.out hx128_0
                replace hx128_1 := upc HB.out hx128_1
                replace hx128_2 := upc HB.out hx128_2
                replace hx128_3 := upc HB.out hx128_3
                replace hx128_4 := upc HB.out hx128_4
                replace hx128_5 := upc HB.out hx128_5
                replace hx128_6 := upc HB.out hx128_6
                replace p128 := eq_true p128
                replace q128 := eq_true q128
                go_wp2
                go_meet
                case rel => exact ⟨_, (x10_1), (by first | rfl | (simp; done) | (simp [*]; done)), H', ⟨by have := HK1.out; first | omega | exact Nat.le_refl _⟩, ⟨by (with_reducible repeat (first | refine blk_drewN ?_ _ | refine blk_drew ?_ | refine blk_alloc ?_ _)); exact BK124.out⟩, ⟨by (with_reducible repeat (first | refine blk_drewN ?_ _ | refine blk_drew ?_ | refine blk_alloc ?_ _)); exact BK125.out⟩, ⟨by repeat (first | (with_reducible first | exact HB.out | apply below_alloc | apply pw_below_drewN | apply below_drew1 | refine below_set ?_ GE124.out | refine below_set ?_ GE125.out) | exact HB.out)⟩⟩
              · rw [if_neg c20] at H
                have c20b0 : (((rd_T40 l1_2 x10_1).f4) == a2) = false := beq_eq_false_iff_ne.mpr c20
                have c20b1 : (((rd_T40 l1_2 x10_1).f4) != a2) = true := bne_iff_ne.mpr c20
                have H' := Aside0.mk H
                clear H
                have hnb23 := NB124_125.out
                have hnc23 := NB125_124.out
                obtain ⟨hcz24_0, hcz24_1, hcz24_2⟩ := cel3 BK124.out
                obtain ⟨hfz24_0, hfz24_1, hfz24_2⟩ := frz3 BK124.out
                have p127 : 0 ≤ (x10_1 : Int) := of_decide_eq_true (by first | (with_reducible assumption) | assumption)
                have q127 : x10_1 < (l1_2.length : Int) := of_decide_eq_true (by first | (with_reducible assumption) | assumption)
                obtain ⟨ad127, e127, hx127_0, hx127_1, hx127_2, hx127_3, hx127_4, hx127_5, hx127_6⟩ := at_T40 HR1_2.out x10_1 p127 q127
                cases e127
                replace hx127_0 := upc HB.out hx127_0
                replace hx127_1 := upc HB.out hx127_1
                replace hx127_2 := upc HB.out hx127_2
                replace hx127_3 := upc HB.out hx127_3
                replace hx127_4 := upc HB.out hx127_4
                replace hx127_5 := upc HB.out hx127_5
                replace hx127_6 := upc HB.out hx127_6
                replace p127 := eq_true p127
                replace q127 := eq_true q127
                have p128 : 0 ≤ (x10_1 : Int) := of_decide_eq_true (by first | (with_reducible assumption) | assumption)
                have q128 : x10_1 < (l1_2.length : Int) := of_decide_eq_true (by first | (with_reducible assumption) | assumption)
                obtain ⟨ad128, e128, hx128_0, hx128_1, hx128_2, hx128_3, hx128_4, hx128_5, hx128_6⟩ := at_T40 HR1_2.out x10_1 p128 q128
                obtain rfl : ad127 = ad128 := (by injection e128)
                replace hx128_0 := upc HB.out hx128_0
                replace hx128_1 := upc HB.out hx128_1
                replace hx128_2 := upc HB.out hx128_2
                replace hx128_3 := upc HB.out hx128_3
                replace hx128_4 := upc HB.out hx128_4
                replace hx128_5 := upc HB.out hx128_5
                replace hx128_6 := upc HB.out hx128_6
                replace p128 := eq_true p128
                replace q128 := eq_true q128
                go_wp2
                go_roundg k1
                case measure => have := HK1.out; omega
                case rel => exact ⟨(wrap64 (x10_1 - 1)), (by first | rfl | (simp; done) | (simp [*]; done)), H', ⟨by have := HK1.out; omega⟩, ⟨by (with_reducible repeat (first | refine blk_drewN ?_ _ | refine blk_drew ?_ | refine blk_alloc ?_ _)); exact BK124.out⟩, ⟨by (with_reducible repeat (first | refine blk_drewN ?_ _ | refine blk_drew ?_ | refine blk_alloc ?_ _)); exact BK125.out⟩, ⟨by repeat (first | (with_reducible first | exact HB.out | apply below_alloc | apply pw_below_drewN | apply below_drew1 | refine below_set ?_ GE124.out | refine below_set ?_ GE125.out) | exact HB.out)⟩⟩
          · rw [if_neg c16] at H
            exact absurd H (by simp)
        · rw [if_neg c15] at H
          exact absurd H (by simp)
      · rw [if_neg c14] at H
        have c14b0 : decide (0 ≤ x10_1) = false := decide_eq_false c14
        clear c14
        (first | rw [c14b0] | (simp only [i64_w, i32_w]; rw [c14b0]) | skip)
        have H' := Aside0.mk H
        clear H
        go_wp2
        go_meet
        case rel => exact ⟨_, (x10_1), (by first | rfl | (simp; done) | (simp [*]; done)), H', ⟨by have := HK1.out; first | omega | exact Nat.le_refl _⟩, ⟨by (with_reducible repeat (first | refine blk_drewN ?_ _ | refine blk_drew ?_ | refine blk_alloc ?_ _)); exact BK124.out⟩, ⟨by (with_reducible repeat (first | refine blk_drewN ?_ _ | refine blk_drew ?_ | refine blk_alloc ?_ _)); exact BK125.out⟩, ⟨by repeat (first | (with_reducible first | exact HB.out | apply below_alloc | apply pw_below_drewN | apply below_drew1 | refine below_set ?_ GE124.out | refine below_set ?_ GE125.out) | exact HB.out)⟩⟩
   case rest =>
    clear HC7
    try clear c1
    try clear p1
    try clear q1
    try clear hx1
    try clear c2
    try clear p2
    try clear c6
    try clear p6
    try clear c10
    try clear p12
    try clear q12
    try clear hx12
    try clear c14
    try clear c14b0
    try clear c15
    try clear c15b0
    try clear c16
    try clear c16b0
    try clear c17
    try clear c17b0
    try clear c17b1
    try clear c18
    try clear c20
    try clear c20b0
    try clear c20b1
    try clear c21
    try clear c23
    try clear hcz11_0
    try clear hcz11_1
    try clear hcz11_2
    try clear hcz13_0
    try clear hcz13_1
    try clear hcz13_2
    try clear hcz19_0
    try clear hcz19_1
    try clear hcz19_2
    try clear hcz22_0
    try clear hcz22_1
    try clear hcz22_2
    try clear hcz24_0
    try clear hcz24_1
    try clear hcz24_2
    try clear hfz11_0
    try clear hfz11_1
    try clear hfz11_2
    try clear hfz13_0
    try clear hfz13_1
    try clear hfz13_2
    try clear hfz19_0
    try clear hfz19_1
    try clear hfz19_2
    try clear hfz22_0
    try clear hfz22_1
    try clear hfz22_2
    try clear hfz24_0
    try clear hfz24_1
    try clear hfz24_2
    try clear hx127_0
    try clear hx127_1
    try clear hx127_2
    try clear hx127_3
    try clear hx127_4
    try clear hx127_5
    try clear hx127_6
    try clear hx128_0
    try clear hx128_1
    try clear hx128_2
    try clear hx128_3
    try clear hx128_4
    try clear hx128_5
    try clear hx128_6
    try clear p127
    try clear p128
    try clear p2
    try clear p6
    try clear q127
    try clear q128
    obtain ⟨kq, x10_6, rfl, HA, HJ6, BK124, BK125, HB⟩ := hcut
    cases kq with
    | zero => exact absurd HA.out (by simp [toc_Append.j1])
    | succ kj6 =>
     have H := HA.out
     clear HA
     simp only [toc_Append.j1] at H
     by_cases c25 : x10_6 < 0
     · rw [if_pos c25] at H
       have c25b0 : decide (x10_6 < 0) = true := decide_eq_true c25
       clear c25
       simp only [Option.some.injEq, Prod.mk.injEq] at H
       obtain ⟨rfl, rfl, rfl, rfl⟩ := H
       have hnb26 := NB125_124.out
       have hnc26 := NB124_125.out
       obtain ⟨hcz27_0, hcz27_1, hcz27_2⟩ := cel3 BK125.out
       obtain ⟨hfz27_0, hfz27_1, hfz27_2⟩ := frz3 BK125.out
       go_wp2
       refine bodyPost_ret (results_ct rfl _ _ gb125 24 #[.int .i64 0, .bool false, .slice none 0 0] (0, 0) _ rfl (by (with_reducible repeat (first | refine blk_drewN ?_ _ | refine blk_drew ?_ | refine blk_alloc ?_ _)); refine blk_put (cs := #[.int .i64 0, .bool false, .slice none 0 0]) ?_ 2 _ rfl; (with_reducible repeat (first | refine blk_drewN ?_ _ | refine blk_drew ?_ | refine blk_alloc ?_ _)); refine blk_put (cs := #[.int .i64 0, .bool false, .slice none 0 0]) ?_ 1 _ rfl; (with_reducible repeat (first | refine blk_drewN ?_ _ | refine blk_drew ?_ | refine blk_alloc ?_ _)); refine blk_put (cs := #[.int .i64 0, .bool false, .slice none 0 0]) ?_ 0 _ rfl; (with_reducible repeat (first | refine blk_drewN ?_ _ | refine blk_drew ?_ | refine blk_alloc ?_ _)); exact BK125.out) Try.underlying24 rfl (by kernel_rfl)) rfl ?_
       exact ⟨_, by first | rfl | (simp [errW_none, errW_some] <;> rfl) | (simp [*, errW_none, errW_some] <;> rfl), by first | exact Kd.R_nil _ _ _ _ _ | exact Kd.N_nil _ _ _ _ _ | exact Kd.V_nil _ _ _ _ _ | exact Kd.Q_nil _ _ _ _ _ | exact Kd.S_nil _ _ _ _ _, by repeat (first | (with_reducible first | exact HB.out | apply below_alloc | apply pw_below_drewN | apply below_drew1 | refine below_set ?_ GE124.out | refine below_set ?_ GE125.out) | exact HB.out)⟩
     · rw [if_neg c25] at H
       have c25b0 : decide (x10_6 < 0) = false := decide_eq_false c25
       clear c25
       by_cases c28 : 0 ≤ x10_6
       · rw [if_pos c28] at H
         have c28b0 : decide (0 ≤ x10_6) = true := decide_eq_true c28
         clear c28
         by_cases c29 : x10_6 < (l1_2.length : Int)
         · rw [if_pos c29] at H
           have c29b0 : decide (x10_6 < (l1_2.length : Int)) = true := decide_eq_true c29
           clear c29
           replace H := Option.bind_eq_some_iff.mp H
           obtain ⟨t130, A300, H⟩ := H
           replace H : (if t130 = true then ((toc_end.f ((rd_T40 l1_2 x10_6).f0) ((rd_T40 l1_2 x10_6).f1) ((rd_T40 l1_2 x10_6).f2) ((rd_T40 l1_2 x10_6).f3) ((rd_T40 l1_2 x10_6).f4) ((rd_T40 l1_2 x10_6).f5) ((rd_T40 l1_2 x10_6).f6)).bind fun t132 => (if a3 > (wrap64 (t132 - a2)) then (some (0, false, ([] : List (S40)), 12)) else ((toc_clone.f a1_0 a1_1 l1_2).bind fun bt133 => (if x10_6 < (bt133.2.2.length : Int) then ((some (bt133.2.2.set (x10_6 : Int).toNat (⟨(rd_T40 bt133.2.2 x10_6).f0, (rd_T40 bt133.2.2 x10_6).f1, (rd_T40 bt133.2.2 x10_6).f2, (rd_T40 bt133.2.2 x10_6).f3, wrap64 (((rd_T40 bt133.2.2 x10_6).f4) + a3), (rd_T40 bt133.2.2 x10_6).f5, (rd_T40 bt133.2.2 x10_6).f6⟩ : S40) : List (S40))).bind fun y139 => (some (bt133.1, bt133.2.1, (y139.set (x10_6 : Int).toNat (⟨(rd_T40 y139 x10_6).f0, (rd_T40 y139 x10_6).f1, (rd_T40 y139 x10_6).f2, (rd_T40 y139 x10_6).f3, (rd_T40 y139 x10_6).f4, 1, (rd_T40 y139 x10_6).f6⟩ : S40)), 0))) else (none))))) else (some (0, false, ([] : List (S40)), 1))) = some (r1, r2, r3, r4) := H
           have A30 := Aside0.mk A300
           clear A300
           by_cases c31 : t130 = true
           · subst c31
             have H1 : ((toc_end.f ((rd_T40 l1_2 x10_6).f0) ((rd_T40 l1_2 x10_6).f1) ((rd_T40 l1_2 x10_6).f2) ((rd_T40 l1_2 x10_6).f3) ((rd_T40 l1_2 x10_6).f4) ((rd_T40 l1_2 x10_6).f5) ((rd_T40 l1_2 x10_6).f6)).bind fun t132 => (if a3 > (wrap64 (t132 - a2)) then (some (0, false, ([] : List (S40)), 12)) else ((toc_clone.f a1_0 a1_1 l1_2).bind fun bt133 => (if x10_6 < (bt133.2.2.length : Int) then ((some (bt133.2.2.set (x10_6 : Int).toNat (⟨(rd_T40 bt133.2.2 x10_6).f0, (rd_T40 bt133.2.2 x10_6).f1, (rd_T40 bt133.2.2 x10_6).f2, (rd_T40 bt133.2.2 x10_6).f3, wrap64 (((rd_T40 bt133.2.2 x10_6).f4) + a3), (rd_T40 bt133.2.2 x10_6).f5, (rd_T40 bt133.2.2 x10_6).f6⟩ : S40) : List (S40))).bind fun y139 => (some (bt133.1, bt133.2.1, (y139.set (x10_6 : Int).toNat (⟨(rd_T40 y139 x10_6).f0, (rd_T40 y139 x10_6).f1, (rd_T40 y139 x10_6).f2, (rd_T40 y139 x10_6).f3, (rd_T40 y139 x10_6).f4, 1, (rd_T40 y139 x10_6).f6⟩ : S40)), 0))) else (none))))) = some (r1, r2, r3, r4) := by rw [if_pos rfl] at H; exact H
             clear H
             have H := H1
             clear H1
             replace H := Option.bind_eq_some_iff.mp H
             obtain ⟨t132, A320, H⟩ := H
             replace H : (if a3 > (wrap64 (t132 - a2)) then (some (0, false, ([] : List (S40)), 12)) else ((toc_clone.f a1_0 a1_1 l1_2).bind fun bt133 => (if x10_6 < (bt133.2.2.length : Int) then ((some (bt133.2.2.set (x10_6 : Int).toNat (⟨(rd_T40 bt133.2.2 x10_6).f0, (rd_T40 bt133.2.2 x10_6).f1, (rd_T40 bt133.2.2 x10_6).f2, (rd_T40 bt133.2.2 x10_6).f3, wrap64 (((rd_T40 bt133.2.2 x10_6).f4) + a3), (rd_T40 bt133.2.2 x10_6).f5, (rd_T40 bt133.2.2 x10_6).f6⟩ : S40) : List (S40))).bind fun y139 => (some (bt133.1, bt133.2.1, (y139.set (x10_6 : Int).toNat (⟨(rd_T40 y139 x10_6).f0, (rd_T40 y139 x10_6).f1, (rd_T40 y139 x10_6).f2, (rd_T40 y139 x10_6).f3, (rd_T40 y139 x10_6).f4, 1, (rd_T40 y139 x10_6).f6⟩ : S40)), 0))) else (none)))) = some (r1, r2, r3, r4) := H
             have A32 := Aside0.mk A320
             clear A320
             by_cases c33 : a3 > (wrap64 (t132 - a2))
             · rw [if_pos c33] at H
               have c33b0 : decide ((wrap64 (t132 - a2)) < a3) = true := decide_eq_true c33
               clear c33
               simp only [Option.some.injEq, Prod.mk.injEq] at H
               obtain ⟨rfl, rfl, rfl, rfl⟩ := H
               have hnb34 := NB124_125.out
               have hnc34 := NB125_124.out
               obtain ⟨hcz35_0, hcz35_1, hcz35_2⟩ := cel3 BK124.out
               obtain ⟨hfz35_0, hfz35_1, hfz35_2⟩ := frz3 BK124.out
               have p129 : 0 ≤ (x10_6 : Int) := of_decide_eq_true (by first | (with_reducible assumption) | assumption)
               have q129 : x10_6 < (l1_2.length : Int) := of_decide_eq_true (by first | (with_reducible assumption) | assumption)
               obtain ⟨ad129, e129, hx129_0, hx129_1, hx129_2, hx129_3, hx129_4, hx129_5, hx129_6⟩ := at_T40 HR1_2.out x10_6 p129 q129
               cases e129
               replace hx129_0 := upc HB.out hx129_0
               replace hx129_1 := upc HB.out hx129_1
               replace hx129_2 := upc HB.out hx129_2
               replace hx129_3 := upc HB.out hx129_3
               replace hx129_4 := upc HB.out hx129_4
               replace hx129_5 := upc HB.out hx129_5
               replace hx129_6 := upc HB.out hx129_6
               replace p129 := eq_true p129
               replace q129 := eq_true q129
               go_wp2_with (first | ((with_reducible refine gate_callee (f := 27) rfl ?_); refine goesL_ (some 55) rfl rfl Try.func27 (by kernel_rfl) rfl #[.int .i64 a3, .int .i64 ((rd_T40 l1_2 x10_6).f6)] rfl (by (try simp only [List.map_toArray, List.map_cons, List.map_nil]); first | done | rfl | (simp only [List.length_drop, List.length_take]; rfl)) ?_; (with_reducible refine (toc_packets.calls a3 ((rd_T40 l1_2 x10_6).f6) true _ A30.out).mono ?_); rintro e w' ⟨rfl, ⟨nd, rfl⟩⟩; refine ⟨_, rfl, ?_⟩; (try (rw [drewN_self wc]; generalize hq_ : World.drewN wc _ = wc; have n0_ : Aside0 (wc.heap[gb124]? = some (.cells #[.int .i64 a1_0, .bool a1_1, .slice (some ad129) l1_2.length c1_2] 24 (0, 0))) := ⟨by rw [← hq_]; exact (by (with_reducible repeat (first | refine blk_drewN ?_ _ | refine blk_drew ?_ | refine blk_alloc ?_ _)); exact BK124.out)⟩; have n1_ : Aside0 (wc.heap[gb125]? = some (.cells #[.int .i64 0, .bool false, .slice none 0 0] 24 (0, 0))) := ⟨by rw [← hq_]; exact (by (with_reducible repeat (first | refine blk_drewN ?_ _ | refine blk_drew ?_ | refine blk_alloc ?_ _)); exact BK125.out)⟩; have n2_ : Aside0 (Below w.heap.size w wc) := ⟨by rw [← hq_]; exact (by repeat (first | (with_reducible first | exact HB.out | apply below_alloc | apply pw_below_drewN | apply below_drew1 | refine below_set ?_ GE124.out | refine below_set ?_ GE125.out) | exact HB.out))⟩; clear BK124 BK125 HB hq_; have BK124 := n0_; have BK125 := n1_; have HB := n2_; clear n0_ n1_ n2_)); have hcq_0 : wc.cell? ⟨gb124, 0, none⟩ = some (.int .i64 a1_0) := (blk_cell BK124.out 0).trans rfl; have hcq_1 : wc.cell? ⟨gb124, 1, none⟩ = some (.bool a1_1) := (blk_cell BK124.out 1).trans rfl; have hcq_2 : wc.cell? ⟨gb124, 2, none⟩ = some (.slice (some ad129) l1_2.length c1_2) := (blk_cell BK124.out 2).trans rfl; have p131 : 0 ≤ (x10_6 : Int) := of_decide_eq_true (by first | (with_reducible assumption) | assumption); have q131 : x10_6 < (l1_2.length : Int) := of_decide_eq_true (by first | (with_reducible assumption) | assumption); obtain ⟨ad131, e131, hx131_0, hx131_1, hx131_2, hx131_3, hx131_4, hx131_5, hx131_6⟩ := at_T40 HR1_2.out x10_6 p131 q131; obtain rfl : ad129 = ad131 := (by injection e131); replace hx131_0 := upc HB.out hx131_0; replace hx131_1 := upc HB.out hx131_1; replace hx131_2 := upc HB.out hx131_2; replace hx131_3 := upc HB.out hx131_3; replace hx131_4 := upc HB.out hx131_4; replace hx131_5 := upc HB.out hx131_5; replace hx131_6 := upc HB.out hx131_6; replace p131 := eq_true p131; replace q131 := eq_true q131) | ((with_reducible refine gate_callee (f := 26) rfl ?_); refine goesL_ (some 65) rfl rfl Try.func26 (by kernel_rfl) rfl #[.agg #[.int .i64 ((rd_T40 l1_2 x10_6).f0), .int .i64 ((rd_T40 l1_2 x10_6).f1), .int .i64 ((rd_T40 l1_2 x10_6).f2), .int .i64 ((rd_T40 l1_2 x10_6).f3), .int .i64 ((rd_T40 l1_2 x10_6).f4), .int .i64 ((rd_T40 l1_2 x10_6).f5), .int .i64 ((rd_T40 l1_2 x10_6).f6)]] rfl (by (try simp only [List.map_toArray, List.map_cons, List.map_nil]); first | done | rfl | (simp only [List.length_drop, List.length_take]; rfl)) ?_; (with_reducible refine (toc_end.calls ((rd_T40 l1_2 x10_6).f0) ((rd_T40 l1_2 x10_6).f1) ((rd_T40 l1_2 x10_6).f2) ((rd_T40 l1_2 x10_6).f3) ((rd_T40 l1_2 x10_6).f4) ((rd_T40 l1_2 x10_6).f5) ((rd_T40 l1_2 x10_6).f6) t132 _ A32.out).mono ?_); rintro e w36 ⟨rfl, hb⟩; refine ⟨_, rfl, ?_⟩; have n0_ := Aside0.mk (blk_below (g := gb124) (o := .cells #[.int .i64 a1_0, .bool a1_1, .slice (some ad129) l1_2.length c1_2] 24 (0, 0)) (by (with_reducible repeat (first | refine blk_drewN ?_ _ | refine blk_drew ?_ | refine blk_alloc ?_ _)); exact BK124.out) hb); have n1_ := Aside0.mk (blk_below (g := gb125) (o := .cells #[.int .i64 0, .bool false, .slice none 0 0] 24 (0, 0)) (by (with_reducible repeat (first | refine blk_drewN ?_ _ | refine blk_drew ?_ | refine blk_alloc ?_ _)); exact BK125.out) hb); have n2_ := Aside0.mk (below_step (by repeat (first | (with_reducible first | exact HB.out | apply below_alloc | apply pw_below_drewN | apply below_drew1 | refine below_set ?_ GE124.out | refine below_set ?_ GE125.out) | exact HB.out)) hb); clear BK124; clear BK125; clear HB; have BK124 := n0_; have BK125 := n1_; have HB := n2_; clear n0_ n1_ n2_; (try clear hb); (try clear hb2); (try clear hk); (try clear hi); obtain ⟨hcz37_0, hcz37_1, hcz37_2⟩ := cel3 BK125.out; obtain ⟨hfz37_0, hfz37_1, hfz37_2⟩ := frz3 BK125.out))
               refine bodyPost_ret (results_ct rfl _ _ gb125 24 #[.int .i64 0, .bool false, .slice none 0 0] (0, 0) _ rfl (by (with_reducible repeat (first | refine blk_drewN ?_ _ | refine blk_drew ?_ | refine blk_alloc ?_ _)); refine blk_put (cs := #[.int .i64 0, .bool false, .slice none 0 0]) ?_ 2 _ rfl; (with_reducible repeat (first | refine blk_drewN ?_ _ | refine blk_drew ?_ | refine blk_alloc ?_ _)); refine blk_put (cs := #[.int .i64 0, .bool false, .slice none 0 0]) ?_ 1 _ rfl; (with_reducible repeat (first | refine blk_drewN ?_ _ | refine blk_drew ?_ | refine blk_alloc ?_ _)); refine blk_put (cs := #[.int .i64 0, .bool false, .slice none 0 0]) ?_ 0 _ rfl; (with_reducible repeat (first | refine blk_drewN ?_ _ | refine blk_drew ?_ | refine blk_alloc ?_ _)); exact BK125.out) Try.underlying24 rfl (by kernel_rfl)) rfl ?_
               exact ⟨_, by first | rfl | (simp [errW_none, errW_some] <;> rfl) | (simp [*, errW_none, errW_some] <;> rfl), by first | exact Kd.R_nil _ _ _ _ _ | exact Kd.N_nil _ _ _ _ _ | exact Kd.V_nil _ _ _ _ _ | exact Kd.Q_nil _ _ _ _ _ | exact Kd.S_nil _ _ _ _ _, by repeat (first | (with_reducible first | exact HB.out | apply below_alloc | apply pw_below_drewN | apply below_drew1 | refine below_set ?_ GE124.out | refine below_set ?_ GE125.out) | exact HB.out)⟩
             · rw [if_neg c33] at H
               have c33b0 : decide ((wrap64 (t132 - a2)) < a3) = false := decide_eq_false c33
               clear c33
               replace H := Option.bind_eq_some_iff.mp H
               obtain ⟨⟨t133, t134, t135⟩, A380, H⟩ := H
               replace H : (if x10_6 < (t135.length : Int) then ((some (t135.set (x10_6 : Int).toNat (⟨(rd_T40 t135 x10_6).f0, (rd_T40 t135 x10_6).f1, (rd_T40 t135 x10_6).f2, (rd_T40 t135 x10_6).f3, wrap64 (((rd_T40 t135 x10_6).f4) + a3), (rd_T40 t135 x10_6).f5, (rd_T40 t135 x10_6).f6⟩ : S40) : List (S40))).bind fun y139 => (some (t133, t134, (y139.set (x10_6 : Int).toNat (⟨(rd_T40 y139 x10_6).f0, (rd_T40 y139 x10_6).f1, (rd_T40 y139 x10_6).f2, (rd_T40 y139 x10_6).f3, (rd_T40 y139 x10_6).f4, 1, (rd_T40 y139 x10_6).f6⟩ : S40)), 0))) else (none)) = some (r1, r2, r3, r4) := H
               have A38 := Aside0.mk A380
               clear A380
               by_cases c39 : x10_6 < (t135.length : Int)
               · rw [if_pos c39] at H
                 have c39b0 : decide (x10_6 < (t135.length : Int)) = true := decide_eq_true c39
                 clear c39
                 obtain ⟨y139, hy139⟩ : ∃ y_ : List (S40), y_ = (t135.set (x10_6 : Int).toNat (⟨(rd_T40 t135 x10_6).f0, (rd_T40 t135 x10_6).f1, (rd_T40 t135 x10_6).f2, (rd_T40 t135 x10_6).f3, wrap64 (((rd_T40 t135 x10_6).f4) + a3), (rd_T40 t135 x10_6).f5, (rd_T40 t135 x10_6).f6⟩ : S40)) := ⟨_, rfl⟩
                 replace H : (some (t133, t134, (y139.set (x10_6 : Int).toNat (⟨(rd_T40 y139 x10_6).f0, (rd_T40 y139 x10_6).f1, (rd_T40 y139 x10_6).f2, (rd_T40 y139 x10_6).f3, (rd_T40 y139 x10_6).f4, 1, (rd_T40 y139 x10_6).f6⟩ : S40)), 0)) = some (r1, r2, r3, r4) := by first | (rw [hy139]; with_reducible exact H) | (have H2_ := (Option.bind_some _ _).symm.trans H; rw [hy139]; with_reducible exact H2_) | (have H2_ := (Option.bind_some _ _).symm.trans H; with_reducible exact H2_) | with_reducible exact H | (rw [hy139]; exact H) | exact H
                 have Ny139 := Aside0.mk hy139
                 clear hy139
                 obtain ⟨y140, hy140⟩ : ∃ y_ : List (S40), y_ = (y139.set (x10_6 : Int).toNat (⟨(rd_T40 y139 x10_6).f0, (rd_T40 y139 x10_6).f1, (rd_T40 y139 x10_6).f2, (rd_T40 y139 x10_6).f3, (rd_T40 y139 x10_6).f4, 1, (rd_T40 y139 x10_6).f6⟩ : S40)) := ⟨_, rfl⟩
                 replace H : (some (t133, t134, y140, 0)) = some (r1, r2, r3, r4) := by first | (rw [hy140]; with_reducible exact H) | (have H2_ := (Option.bind_some _ _).symm.trans H; rw [hy140]; with_reducible exact H2_) | (have H2_ := (Option.bind_some _ _).symm.trans H; with_reducible exact H2_) | with_reducible exact H | (rw [hy140]; exact H) | exact H
                 have Ny140 := Aside0.mk hy140
                 clear hy140
                 simp only [Option.some.injEq, Prod.mk.injEq] at H
                 obtain ⟨rfl, rfl, rfl, rfl⟩ := H
                 have hnb42 := NB124_125.out
                 have hnc42 := NB125_124.out
                 obtain ⟨hcz43_0, hcz43_1, hcz43_2⟩ := cel3 BK124.out
                 obtain ⟨hfz43_0, hfz43_1, hfz43_2⟩ := frz3 BK124.out
                 have p129 : 0 ≤ (x10_6 : Int) := of_decide_eq_true (by first | (with_reducible assumption) | assumption)
                 have q129 : x10_6 < (l1_2.length : Int) := of_decide_eq_true (by first | (with_reducible assumption) | assumption)
                 obtain ⟨ad129, e129, hx129_0, hx129_1, hx129_2, hx129_3, hx129_4, hx129_5, hx129_6⟩ := at_T40 HR1_2.out x10_6 p129 q129
                 cases e129
                 replace hx129_0 := upc HB.out hx129_0
                 replace hx129_1 := upc HB.out hx129_1
                 replace hx129_2 := upc HB.out hx129_2
                 replace hx129_3 := upc HB.out hx129_3
                 replace hx129_4 := upc HB.out hx129_4
                 replace hx129_5 := upc HB.out hx129_5
                 replace hx129_6 := upc HB.out hx129_6
                 replace p129 := eq_true p129
                 replace q129 := eq_true q129
                 go_wp2_with (first | ((with_reducible refine gate_callee (f := 27) rfl ?_); refine goesL_ (some 55) rfl rfl Try.func27 (by kernel_rfl) rfl #[.int .i64 a3, .int .i64 ((rd_T40 l1_2 x10_6).f6)] rfl (by (try simp only [List.map_toArray, List.map_cons, List.map_nil]); first | done | rfl | (simp only [List.length_drop, List.length_take]; rfl)) ?_; (with_reducible refine (toc_packets.calls a3 ((rd_T40 l1_2 x10_6).f6) true _ A30.out).mono ?_); rintro e w' ⟨rfl, ⟨nd, rfl⟩⟩; refine ⟨_, rfl, ?_⟩; (try (rw [drewN_self wc]; generalize hq_ : World.drewN wc _ = wc; have n0_ : Aside0 (wc.heap[gb124]? = some (.cells #[.int .i64 a1_0, .bool a1_1, .slice (some ad129) l1_2.length c1_2] 24 (0, 0))) := ⟨by rw [← hq_]; exact (by (with_reducible repeat (first | refine blk_drewN ?_ _ | refine blk_drew ?_ | refine blk_alloc ?_ _)); exact BK124.out)⟩; have n1_ : Aside0 (wc.heap[gb125]? = some (.cells #[.int .i64 0, .bool false, .slice none 0 0] 24 (0, 0))) := ⟨by rw [← hq_]; exact (by (with_reducible repeat (first | refine blk_drewN ?_ _ | refine blk_drew ?_ | refine blk_alloc ?_ _)); exact BK125.out)⟩; have n2_ : Aside0 (Below w.heap.size w wc) := ⟨by rw [← hq_]; exact (by repeat (first | (with_reducible first | exact HB.out | apply below_alloc | apply pw_below_drewN | apply below_drew1 | refine below_set ?_ GE124.out | refine below_set ?_ GE125.out) | exact HB.out))⟩; clear BK124 BK125 HB hq_; have BK124 := n0_; have BK125 := n1_; have HB := n2_; clear n0_ n1_ n2_)); have hcq_0 : wc.cell? ⟨gb124, 0, none⟩ = some (.int .i64 a1_0) := (blk_cell BK124.out 0).trans rfl; have hcq_1 : wc.cell? ⟨gb124, 1, none⟩ = some (.bool a1_1) := (blk_cell BK124.out 1).trans rfl; have hcq_2 : wc.cell? ⟨gb124, 2, none⟩ = some (.slice (some ad129) l1_2.length c1_2) := (blk_cell BK124.out 2).trans rfl; have p131 : 0 ≤ (x10_6 : Int) := of_decide_eq_true (by first | (with_reducible assumption) | assumption); have q131 : x10_6 < (l1_2.length : Int) := of_decide_eq_true (by first | (with_reducible assumption) | assumption); obtain ⟨ad131, e131, hx131_0, hx131_1, hx131_2, hx131_3, hx131_4, hx131_5, hx131_6⟩ := at_T40 HR1_2.out x10_6 p131 q131; obtain rfl : ad129 = ad131 := (by injection e131); replace hx131_0 := upc HB.out hx131_0; replace hx131_1 := upc HB.out hx131_1; replace hx131_2 := upc HB.out hx131_2; replace hx131_3 := upc HB.out hx131_3; replace hx131_4 := upc HB.out hx131_4; replace hx131_5 := upc HB.out hx131_5; replace hx131_6 := upc HB.out hx131_6; replace p131 := eq_true p131; replace q131 := eq_true q131) | ((with_reducible refine gate_callee (f := 26) rfl ?_); refine goesL_ (some 65) rfl rfl Try.func26 (by kernel_rfl) rfl #[.agg #[.int .i64 ((rd_T40 l1_2 x10_6).f0), .int .i64 ((rd_T40 l1_2 x10_6).f1), .int .i64 ((rd_T40 l1_2 x10_6).f2), .int .i64 ((rd_T40 l1_2 x10_6).f3), .int .i64 ((rd_T40 l1_2 x10_6).f4), .int .i64 ((rd_T40 l1_2 x10_6).f5), .int .i64 ((rd_T40 l1_2 x10_6).f6)]] rfl (by (try simp only [List.map_toArray, List.map_cons, List.map_nil]); first | done | rfl | (simp only [List.length_drop, List.length_take]; rfl)) ?_; (with_reducible refine (toc_end.calls ((rd_T40 l1_2 x10_6).f0) ((rd_T40 l1_2 x10_6).f1) ((rd_T40 l1_2 x10_6).f2) ((rd_T40 l1_2 x10_6).f3) ((rd_T40 l1_2 x10_6).f4) ((rd_T40 l1_2 x10_6).f5) ((rd_T40 l1_2 x10_6).f6) t132 _ A32.out).mono ?_); rintro e w44 ⟨rfl, hb⟩; refine ⟨_, rfl, ?_⟩; have n0_ := Aside0.mk (blk_below (g := gb124) (o := .cells #[.int .i64 a1_0, .bool a1_1, .slice (some ad129) l1_2.length c1_2] 24 (0, 0)) (by (with_reducible repeat (first | refine blk_drewN ?_ _ | refine blk_drew ?_ | refine blk_alloc ?_ _)); exact BK124.out) hb); have n1_ := Aside0.mk (blk_below (g := gb125) (o := .cells #[.int .i64 0, .bool false, .slice none 0 0] 24 (0, 0)) (by (with_reducible repeat (first | refine blk_drewN ?_ _ | refine blk_drew ?_ | refine blk_alloc ?_ _)); exact BK125.out) hb); have n2_ := Aside0.mk (below_step (by repeat (first | (with_reducible first | exact HB.out | apply below_alloc | apply pw_below_drewN | apply below_drew1 | refine below_set ?_ GE124.out | refine below_set ?_ GE125.out) | exact HB.out)) hb); clear BK124; clear BK125; clear HB; have BK124 := n0_; have BK125 := n1_; have HB := n2_; clear n0_ n1_ n2_; (try clear hb); (try clear hb2); (try clear hk); (try clear hi); obtain ⟨hcz45_0, hcz45_1, hcz45_2⟩ := cel3 BK124.out; obtain ⟨hfz45_0, hfz45_1, hfz45_2⟩ := frz3 BK124.out) | ((with_reducible refine gate_callee (f := 29) rfl ?_); refine goesL_ (some 71) rfl rfl Try.func29 (by kernel_rfl) rfl #[.agg #[.int .i64 a1_0, .bool a1_1, .slice (some ad129) l1_2.length c1_2]] rfl (by (try simp only [List.map_toArray, List.map_cons, List.map_nil]); first | done | rfl | (simp only [List.length_drop, List.length_take]; rfl)) ?_; (with_reducible refine (toc_clone.calls a1_0 a1_1 _ _ l1_2 t133 t134 t135 _ ?side1 ?side2 A38.out).mono ?_); (case side1 => repeat (first | exact (Kd.C_below HR1_2.out HB.out) | (with_reducible refine Kd.C_alloc ?_ _) | (with_reducible refine Kd.C_drewN ?_ _) | (with_reducible refine Kd.C_drew ?_))); (case side2 => exact HC1_2.out); rintro e w46 ⟨v136, rfl, ho0, hb⟩; refine ⟨_, rfl, ?_⟩; have n0_ := Aside0.mk (Kd.R_lower ho0 (below_size (by repeat (first | (with_reducible first | exact HB.out | apply below_alloc | apply pw_below_drewN | apply below_drew1 | refine below_set ?_ GE124.out | refine below_set ?_ GE125.out) | exact HB.out)))); have n1_ := Aside0.mk (blk_below (g := gb124) (o := .cells #[.int .i64 a1_0, .bool a1_1, .slice (some ad129) l1_2.length c1_2] 24 (0, 0)) (by (with_reducible repeat (first | refine blk_drewN ?_ _ | refine blk_drew ?_ | refine blk_alloc ?_ _)); exact BK124.out) hb); have n2_ := Aside0.mk (blk_below (g := gb125) (o := .cells #[.int .i64 0, .bool false, .slice none 0 0] 24 (0, 0)) (by (with_reducible repeat (first | refine blk_drewN ?_ _ | refine blk_drew ?_ | refine blk_alloc ?_ _)); exact BK125.out) hb); have n3_ := Aside0.mk (below_step (by repeat (first | (with_reducible first | exact HB.out | apply below_alloc | apply pw_below_drewN | apply below_drew1 | refine below_set ?_ GE124.out | refine below_set ?_ GE125.out) | exact HB.out)) hb); clear BK124; clear BK125; clear HB; have HO137 := n0_; have BK124 := n1_; have BK125 := n2_; have HB := n3_; clear n0_ n1_ n2_ n3_; (try clear hb); (try clear hb2); (try clear hk); (try clear hi); (try clear ho0); obtain ⟨hcz47_0, hcz47_1, hcz47_2⟩ := cel3 BK124.out; obtain ⟨hfz47_0, hfz47_1, hfz47_2⟩ := frz3 BK124.out; obtain ⟨Ao48, co48, eo48⟩ := Kd.R_slice HO137.out; subst eo48) | ((with_reducible refine gate_store (t := 24) (p := 5) rfl ?_); refine store_event (t := 24) (p := 5) (v := ?vo_w49) (w1 := (((w46.setCell ⟨gb124, 0, none⟩ (.int .i64 t133)).setCell ⟨gb124, 1, none⟩ (.bool t134)).setCell ⟨gb124, 2, none⟩ (.slice Ao48 t135.length co48))) ?hg ?ho ?hn ?hr ?_; (case ho => rfl); (case hg => rfl); (case hn => rfl); (case hr => first | (go_simp; done) | (go_simp; rfl)); intro w49 hw; have n0_ : Aside0 (Kd.R k40 40 w49 w.heap.size (fun _ => True) (.slice Ao48 t135.length co48) t135) := ⟨(by rw [hw]; exact (by (with_reducible repeat (first | apply Kd.R_alloc | apply Kd.R_drewN | apply Kd.R_drew)); exact Kd.R_mono (Kd.R_far (p := ⟨gb124, 2, none⟩) (Kd.R_far (p := ⟨gb124, 1, none⟩) (Kd.R_far (p := ⟨gb124, 0, none⟩) (Kd.R_types HO137.out BK124.out (by decide)) (fun _ hk => hk.2) (.int .i64 t133)) (fun _ hk => hk.2) (.bool t134)) (fun _ hk => hk.2) (.slice Ao48 t135.length co48)) (fun _ hk => trivial)))⟩; have n1_ : Aside0 (w49.heap[gb124]? = some (.cells #[.int .i64 t133, .bool t134, .slice Ao48 t135.length co48] 24 (0, 0))) := ⟨(by rw [hw]; exact (by (with_reducible repeat (first | refine blk_drewN ?_ _ | refine blk_drew ?_ | refine blk_alloc ?_ _)); refine blk_put (cs := #[.int .i64 t133, .bool t134, .slice (some ad129) l1_2.length c1_2]) ?_ 2 _ rfl; (with_reducible repeat (first | refine blk_drewN ?_ _ | refine blk_drew ?_ | refine blk_alloc ?_ _)); refine blk_put (cs := #[.int .i64 t133, .bool a1_1, .slice (some ad129) l1_2.length c1_2]) ?_ 1 _ rfl; (with_reducible repeat (first | refine blk_drewN ?_ _ | refine blk_drew ?_ | refine blk_alloc ?_ _)); refine blk_put (cs := #[.int .i64 a1_0, .bool a1_1, .slice (some ad129) l1_2.length c1_2]) ?_ 0 _ rfl; (with_reducible repeat (first | refine blk_drewN ?_ _ | refine blk_drew ?_ | refine blk_alloc ?_ _)); exact BK124.out))⟩; have n2_ : Aside0 (w49.heap[gb125]? = some (.cells #[.int .i64 0, .bool false, .slice none 0 0] 24 (0, 0))) := ⟨(by rw [hw]; exact (by (with_reducible repeat (first | refine blk_drewN ?_ _ | refine blk_drew ?_ | refine blk_alloc ?_ _)); refine blk_far ?_ NB125_124.out _; (with_reducible repeat (first | refine blk_drewN ?_ _ | refine blk_drew ?_ | refine blk_alloc ?_ _)); refine blk_far ?_ NB125_124.out _; (with_reducible repeat (first | refine blk_drewN ?_ _ | refine blk_drew ?_ | refine blk_alloc ?_ _)); refine blk_far ?_ NB125_124.out _; (with_reducible repeat (first | refine blk_drewN ?_ _ | refine blk_drew ?_ | refine blk_alloc ?_ _)); exact BK125.out))⟩; have n3_ : Aside0 (Below w.heap.size w w49) := ⟨(by rw [hw]; exact (by repeat (first | (with_reducible first | exact HB.out | apply below_alloc | apply pw_below_drewN | apply below_drew1 | refine below_set ?_ GE124.out | refine below_set ?_ GE125.out) | exact HB.out)))⟩; clear hw; clear HO137; clear BK124; clear BK125; clear HB; have HO137 := n0_; have BK124 := n1_; have BK125 := n2_; have HB := n3_; clear n0_ n1_ n2_ n3_; obtain ⟨hcz50_0, hcz50_1, hcz50_2⟩ := cel3 BK124.out; obtain ⟨hfz50_0, hfz50_1, hfz50_2⟩ := frz3 BK124.out; have p138 : 0 ≤ (x10_6 : Int) := of_decide_eq_true (by first | (with_reducible assumption) | assumption); have q138 : x10_6 < (t135.length : Int) := of_decide_eq_true (by first | (with_reducible assumption) | assumption); obtain ⟨ad138, e138, hx138_0, hx138_1, hx138_2, hx138_3, hx138_4, hx138_5, hx138_6⟩ := at_T40 (Kd.R_reads' HO137.out).2.2 x10_6 p138 q138; cases e138; replace p138 := eq_true p138; replace q138 := eq_true q138; have p40 : 0 ≤ (x10_6 : Int) := of_decide_eq_true (by first | (with_reducible assumption) | assumption); have q40 : (x10_6 : Int) < ((t135.length : Int) : Int) := of_decide_eq_true (by first | (with_reducible assumption) | assumption); obtain ⟨go40, co40, eo40, gb40, gl40, cl40, HG40⟩ := Kd.R_form HO137.out (by omega); (first | cases eo40 | (injection eo40 with ea_ en_ ec_; (first | subst ea_ | (injection ea_ with ea_; subst ea_)); subst ec_; clear en_)); have GB40 := Aside0.mk gb40; have GG40 := Aside0.mk HG40; clear gb40 gl40 HG40; (first | simp only [add_plain] at hx138_0 | skip); (first | simp only [add_plain] at hx138_1 | skip); (first | simp only [add_plain] at hx138_2 | skip); (first | simp only [add_plain] at hx138_3 | skip); (first | simp only [add_plain] at hx138_4 | skip); (first | simp only [add_plain] at hx138_5 | skip); (first | simp only [add_plain] at hx138_6 | skip); obtain ⟨ce40, hcl40, hM40, hcc40, hfr40⟩ := Kd.R_elem HO137.out z40 (x10_6 : Int) p40 q40; obtain rfl := k40_openM hM40; have hx40_0 : w49.cell? ⟨go40, (x10_6 : Int).toNat * 7, none⟩ = some (.int .i64 ((rd_T40 t135 x10_6).f0)) := hcc40 0 _ rfl; have hx40_1 : w49.cell? ⟨go40, (x10_6 : Int).toNat * 7 + 1, none⟩ = some (.int .i64 ((rd_T40 t135 x10_6).f1)) := hcc40 1 _ rfl; have hx40_2 : w49.cell? ⟨go40, (x10_6 : Int).toNat * 7 + 2, none⟩ = some (.int .i64 ((rd_T40 t135 x10_6).f2)) := hcc40 2 _ rfl; have hx40_3 : w49.cell? ⟨go40, (x10_6 : Int).toNat * 7 + 3, none⟩ = some (.int .i64 ((rd_T40 t135 x10_6).f3)) := hcc40 3 _ rfl; have hx40_4 : w49.cell? ⟨go40, (x10_6 : Int).toNat * 7 + 4, none⟩ = some (.int .i64 ((rd_T40 t135 x10_6).f4)) := hcc40 4 _ rfl; have hx40_5 : w49.cell? ⟨go40, (x10_6 : Int).toNat * 7 + 5, none⟩ = some (.int .i64 ((rd_T40 t135 x10_6).f5)) := hcc40 5 _ rfl; have hx40_6 : w49.cell? ⟨go40, (x10_6 : Int).toNat * 7 + 6, none⟩ = some (.int .i64 ((rd_T40 t135 x10_6).f6)) := hcc40 6 _ rfl; have hf40_0 : w49.frozen? ⟨go40, (x10_6 : Int).toNat * 7, none⟩ = false := hfr40 0; have hf40_1 : w49.frozen? ⟨go40, (x10_6 : Int).toNat * 7 + 1, none⟩ = false := hfr40 1; have hf40_2 : w49.frozen? ⟨go40, (x10_6 : Int).toNat * 7 + 2, none⟩ = false := hfr40 2; have hf40_3 : w49.frozen? ⟨go40, (x10_6 : Int).toNat * 7 + 3, none⟩ = false := hfr40 3; have hf40_4 : w49.frozen? ⟨go40, (x10_6 : Int).toNat * 7 + 4, none⟩ = false := hfr40 4; have hf40_5 : w49.frozen? ⟨go40, (x10_6 : Int).toNat * 7 + 5, none⟩ = false := hfr40 5; have hf40_6 : w49.frozen? ⟨go40, (x10_6 : Int).toNat * 7 + 6, none⟩ = false := hfr40 6; clear hcl40 hcc40 hfr40 hM40; replace p40 := eq_true p40; replace q40 := eq_true q40; have HX51 := Aside0.mk (show Kd.R k40 40 w49 w.heap.size (fun _ => True) (.slice (some ⟨go40, 0, none⟩) t135.length co48) t135 from (by (with_reducible repeat (first | apply Kd.R_alloc | apply Kd.R_drewN | apply Kd.R_drew)); exact HO137.out)); obtain ⟨ce51, hcl51, hM51, hcc51, hfr51⟩ := Kd.R_elem HX51.out z40 (x10_6 : Int) (of_decide_eq_true (by first | (with_reducible assumption) | assumption)) (by have h_ : (x10_6 : Int) < ((t135.length : Int) : Int) := of_decide_eq_true (by first | (with_reducible assumption) | assumption); first | exact h_ | (have e_ := (Kd.R_reads' HO137.out).1; omega) | simpa using h_); obtain rfl := k40_openM hM51; have HP51 := Kd.R_seg HX51.out (x10_6 : Int) (of_decide_eq_true (by first | (with_reducible assumption) | assumption)) (by have h_ : (x10_6 : Int) < ((t135.length : Int) : Int) := of_decide_eq_true (by first | (with_reducible assumption) | assumption); first | exact h_ | (have e_ := (Kd.R_reads' HO137.out).1; omega) | simpa using h_) (seg := [.int .i64 (wrap64 (((rd_T40 t135 x10_6).f4) + a3))]) (j := 4) hcl51 hcc51 (show 5 ≤ 7 from by decide) (x' := (⟨(rd_T40 t135 x10_6).f0, (rd_T40 t135 x10_6).f1, (rd_T40 t135 x10_6).f2, (rd_T40 t135 x10_6).f3, wrap64 (((rd_T40 t135 x10_6).f4) + a3), (rd_T40 t135 x10_6).f5, (rd_T40 t135 x10_6).f6⟩ : S40)) (k40_mkM _ _ _ (⟨(rd_T40 t135 x10_6).f0, (rd_T40 t135 x10_6).f1, (rd_T40 t135 x10_6).f2, (rd_T40 t135 x10_6).f3, wrap64 (((rd_T40 t135 x10_6).f4) + a3), (rd_T40 t135 x10_6).f5, (rd_T40 t135 x10_6).f6⟩ : S40) ) (fun _ hk => hk); have hx51_4 := hcc51 4 _ rfl; (try simp only [show (k40).sz = 7 from rfl, Nat.mul_one, Nat.add_zero] at hx51_4); have hf51_4 := hfr51 4; (try simp only [show (k40).sz = 7 from rfl, Nat.mul_one, Nat.add_zero] at hf51_4); clear hcl51 hcc51 hfr51 hM51) | ((with_reducible refine gate_store (t := 3) (p := 81) rfl ?_); refine store_event (t := 3) (p := 81) (v := ?vo_w52) (w1 := (w49.setCell ⟨go40, (x10_6 : Int).toNat * 7 + 4, none⟩ (.int .i64 (wrap64 (((rd_T40 t135 x10_6).f4) + a3))))) ?hg ?ho ?hn ?hr ?_; (case ho => rfl); (case hg => rfl); (case hn => rfl); (case hr => first | (go_simp; done) | (go_simp; rfl)); intro w52 hw; have hg : w49.grownBy w52 (some go40) := (by rw [hw]; exact HP51.2); have hp_ : Kd.R k40 40 w52 w.heap.size (fun _ => True) (.slice (some ⟨go40, 0, none⟩) t135.length co48) y139 := (by rw [hw, Ny139.out]; exact HP51.1); clear HP51; have n0_ := Aside0.mk (blk_grown (g := gb124) (o := .cells #[.int .i64 t133, .bool t134, .slice (some ⟨go40, 0, none⟩) t135.length co48] 24 (0, 0)) (by (with_reducible repeat (first | refine blk_drewN ?_ _ | refine blk_drew ?_ | refine blk_alloc ?_ _)); exact BK124.out) hg (Kd.R_ne HO137.out BK124.out (by decide))); have n1_ := Aside0.mk (blk_grown (g := gb125) (o := .cells #[.int .i64 0, .bool false, .slice none 0 0] 24 (0, 0)) (by (with_reducible repeat (first | refine blk_drewN ?_ _ | refine blk_drew ?_ | refine blk_alloc ?_ _)); exact BK125.out) hg (Kd.R_ne HO137.out BK125.out (by decide))); have n2_ := Aside0.mk (hp_); have n3_ := Aside0.mk ((by rw [hw]; exact below_set (HB.out) GB40.out : Below w.heap.size w w52)); clear BK124; clear BK125; clear HO137; clear HB; have BK124 := n0_; have BK125 := n1_; have HO137 := n2_; have HB := n3_; clear n0_ n1_ n2_ n3_; clear hg hw hp_; obtain ⟨hcz53_0, hcz53_1, hcz53_2⟩ := cel3 BK124.out; obtain ⟨hfz53_0, hfz53_1, hfz53_2⟩ := frz3 BK124.out; have p41 : 0 ≤ (x10_6 : Int) := of_decide_eq_true (by first | (with_reducible assumption) | assumption); have q41 : (x10_6 : Int) < ((t135.length : Int) : Int) := of_decide_eq_true (by first | (with_reducible assumption) | assumption); obtain ⟨ce41, hcl41, hM41, hcc41, hfr41⟩ := Kd.R_elem HO137.out z40 (x10_6 : Int) p41 q41; obtain rfl := k40_openM hM41; have hx41_0 : w52.cell? ⟨go40, (x10_6 : Int).toNat * 7, none⟩ = some (.int .i64 ((rd_T40 y139 x10_6).f0)) := hcc41 0 _ rfl; have hx41_1 : w52.cell? ⟨go40, (x10_6 : Int).toNat * 7 + 1, none⟩ = some (.int .i64 ((rd_T40 y139 x10_6).f1)) := hcc41 1 _ rfl; have hx41_2 : w52.cell? ⟨go40, (x10_6 : Int).toNat * 7 + 2, none⟩ = some (.int .i64 ((rd_T40 y139 x10_6).f2)) := hcc41 2 _ rfl; have hx41_3 : w52.cell? ⟨go40, (x10_6 : Int).toNat * 7 + 3, none⟩ = some (.int .i64 ((rd_T40 y139 x10_6).f3)) := hcc41 3 _ rfl; have hx41_4 : w52.cell? ⟨go40, (x10_6 : Int).toNat * 7 + 4, none⟩ = some (.int .i64 ((rd_T40 y139 x10_6).f4)) := hcc41 4 _ rfl; have hx41_5 : w52.cell? ⟨go40, (x10_6 : Int).toNat * 7 + 5, none⟩ = some (.int .i64 ((rd_T40 y139 x10_6).f5)) := hcc41 5 _ rfl; have hx41_6 : w52.cell? ⟨go40, (x10_6 : Int).toNat * 7 + 6, none⟩ = some (.int .i64 ((rd_T40 y139 x10_6).f6)) := hcc41 6 _ rfl; have hf41_0 : w52.frozen? ⟨go40, (x10_6 : Int).toNat * 7, none⟩ = false := hfr41 0; have hf41_1 : w52.frozen? ⟨go40, (x10_6 : Int).toNat * 7 + 1, none⟩ = false := hfr41 1; have hf41_2 : w52.frozen? ⟨go40, (x10_6 : Int).toNat * 7 + 2, none⟩ = false := hfr41 2; have hf41_3 : w52.frozen? ⟨go40, (x10_6 : Int).toNat * 7 + 3, none⟩ = false := hfr41 3; have hf41_4 : w52.frozen? ⟨go40, (x10_6 : Int).toNat * 7 + 4, none⟩ = false := hfr41 4; have hf41_5 : w52.frozen? ⟨go40, (x10_6 : Int).toNat * 7 + 5, none⟩ = false := hfr41 5; have hf41_6 : w52.frozen? ⟨go40, (x10_6 : Int).toNat * 7 + 6, none⟩ = false := hfr41 6; clear hcl41 hcc41 hfr41 hM41; replace p41 := eq_true p41; replace q41 := eq_true q41; have HX54 := Aside0.mk (show Kd.R k40 40 w52 w.heap.size (fun _ => True) (.slice (some ⟨go40, 0, none⟩) t135.length co48) y139 from (by (with_reducible repeat (first | apply Kd.R_alloc | apply Kd.R_drewN | apply Kd.R_drew)); exact HO137.out)); obtain ⟨ce54, hcl54, hM54, hcc54, hfr54⟩ := Kd.R_elem HX54.out z40 (x10_6 : Int) (of_decide_eq_true (by first | (with_reducible assumption) | assumption)) (by have h_ : (x10_6 : Int) < ((t135.length : Int) : Int) := of_decide_eq_true (by first | (with_reducible assumption) | assumption); first | exact h_ | (have e_ := (Kd.R_reads' HO137.out).1; omega) | simpa using h_); obtain rfl := k40_openM hM54; have HP54 := Kd.R_seg HX54.out (x10_6 : Int) (of_decide_eq_true (by first | (with_reducible assumption) | assumption)) (by have h_ : (x10_6 : Int) < ((t135.length : Int) : Int) := of_decide_eq_true (by first | (with_reducible assumption) | assumption); first | exact h_ | (have e_ := (Kd.R_reads' HO137.out).1; omega) | simpa using h_) (seg := [.int .i64 1]) (j := 5) hcl54 hcc54 (show 6 ≤ 7 from by decide) (x' := (⟨(rd_T40 y139 x10_6).f0, (rd_T40 y139 x10_6).f1, (rd_T40 y139 x10_6).f2, (rd_T40 y139 x10_6).f3, (rd_T40 y139 x10_6).f4, 1, (rd_T40 y139 x10_6).f6⟩ : S40)) (k40_mkM _ _ _ (⟨(rd_T40 y139 x10_6).f0, (rd_T40 y139 x10_6).f1, (rd_T40 y139 x10_6).f2, (rd_T40 y139 x10_6).f3, (rd_T40 y139 x10_6).f4, 1, (rd_T40 y139 x10_6).f6⟩ : S40) ) (fun _ hk => hk); have hx54_5 := hcc54 5 _ rfl; (try simp only [show (k40).sz = 7 from rfl, Nat.mul_one, Nat.add_zero] at hx54_5); have hf54_5 := hfr54 5; (try simp only [show (k40).sz = 7 from rfl, Nat.mul_one, Nat.add_zero] at hf54_5); clear hcl54 hcc54 hfr54 hM54) | ((with_reducible refine gate_store (t := 3) (p := 86) rfl ?_); refine store_event (t := 3) (p := 86) (v := ?vo_w55) (w1 := (w52.setCell ⟨go40, (x10_6 : Int).toNat * 7 + 5, none⟩ (.int .i64 1))) ?hg ?ho ?hn ?hr ?_; (case ho => rfl); (case hg => rfl); (case hn => rfl); (case hr => first | (go_simp; done) | (go_simp; rfl)); intro w55 hw; have hg : w52.grownBy w55 (some go40) := (by rw [hw]; exact HP54.2); have hp_ : Kd.R k40 40 w55 w.heap.size (fun _ => True) (.slice (some ⟨go40, 0, none⟩) t135.length co48) y140 := (by rw [hw, Ny140.out]; exact HP54.1); clear HP54; have n0_ := Aside0.mk (blk_grown (g := gb124) (o := .cells #[.int .i64 t133, .bool t134, .slice (some ⟨go40, 0, none⟩) t135.length co48] 24 (0, 0)) (by (with_reducible repeat (first | refine blk_drewN ?_ _ | refine blk_drew ?_ | refine blk_alloc ?_ _)); exact BK124.out) hg (Kd.R_ne HO137.out BK124.out (by decide))); have n1_ := Aside0.mk (blk_grown (g := gb125) (o := .cells #[.int .i64 0, .bool false, .slice none 0 0] 24 (0, 0)) (by (with_reducible repeat (first | refine blk_drewN ?_ _ | refine blk_drew ?_ | refine blk_alloc ?_ _)); exact BK125.out) hg (Kd.R_ne HO137.out BK125.out (by decide))); have n2_ := Aside0.mk (hp_); have n3_ := Aside0.mk ((by rw [hw]; exact below_set (HB.out) GB40.out : Below w.heap.size w w55)); clear BK124; clear BK125; clear HO137; clear HB; have BK124 := n0_; have BK125 := n1_; have HO137 := n2_; have HB := n3_; clear n0_ n1_ n2_ n3_; clear hg hw hp_; obtain ⟨hcz56_0, hcz56_1, hcz56_2⟩ := cel3 BK124.out; obtain ⟨hfz56_0, hfz56_1, hfz56_2⟩ := frz3 BK124.out; obtain ⟨hcz57_0, hcz57_1, hcz57_2⟩ := cel3 BK125.out; obtain ⟨hfz57_0, hfz57_1, hfz57_2⟩ := frz3 BK125.out))
                 refine bodyPost_ret (results_ct rfl _ _ gb125 24 #[.int .i64 t133, .bool t134, .slice (some ⟨go40, 0, none⟩) t135.length co48] (0, 0) _ rfl (by (with_reducible repeat (first | refine blk_drewN ?_ _ | refine blk_drew ?_ | refine blk_alloc ?_ _)); refine blk_put (cs := #[.int .i64 t133, .bool t134, .slice none 0 0]) ?_ 2 _ rfl; (with_reducible repeat (first | refine blk_drewN ?_ _ | refine blk_drew ?_ | refine blk_alloc ?_ _)); refine blk_put (cs := #[.int .i64 t133, .bool false, .slice none 0 0]) ?_ 1 _ rfl; (with_reducible repeat (first | refine blk_drewN ?_ _ | refine blk_drew ?_ | refine blk_alloc ?_ _)); refine blk_put (cs := #[.int .i64 0, .bool false, .slice none 0 0]) ?_ 0 _ rfl; (with_reducible repeat (first | refine blk_drewN ?_ _ | refine blk_drew ?_ | refine blk_alloc ?_ _)); exact BK125.out) Try.underlying24 rfl (by kernel_rfl)) rfl ?_
                 exact ⟨_, by first | rfl | (simp [errW_none, errW_some] <;> rfl) | (simp [*, errW_none, errW_some] <;> rfl), by (with_reducible repeat (first | apply Kd.R_alloc | apply Kd.R_drewN | apply Kd.R_drew)); exact Kd.R_mono (Kd.R_far (p := ⟨gb125, 2, none⟩) (Kd.R_far (p := ⟨gb125, 1, none⟩) (Kd.R_far (p := ⟨gb125, 0, none⟩) (Kd.R_types HO137.out BK125.out (by decide)) (fun _ hk => hk.2) (.int .i64 t133)) (fun _ hk => hk.2) (.bool t134)) (fun _ hk => hk.2) (.slice (some ⟨go40, 0, none⟩) t135.length co48)) (fun _ hk => trivial), by repeat (first | (with_reducible first | exact HB.out | apply below_alloc | apply pw_below_drewN | apply below_drew1 | refine below_set ?_ GE124.out | refine below_set ?_ GE125.out) | exact HB.out)⟩
               · rw [if_neg c39] at H
                 exact absurd H (by simp)
           · replace c31 := Bool.eq_false_iff.mpr c31
             subst c31
             have H1 : (some (0, false, ([] : List (S40)), 1)) = some (r1, r2, r3, r4) := by rw [if_neg (show ¬ (false = true) by decide)] at H; exact H
             clear H
             have H := H1
             clear H1
             simp only [Option.some.injEq, Prod.mk.injEq] at H
             obtain ⟨rfl, rfl, rfl, rfl⟩ := H
             have hnb58 := NB124_125.out
             have hnc58 := NB125_124.out
             obtain ⟨hcz59_0, hcz59_1, hcz59_2⟩ := cel3 BK124.out
             obtain ⟨hfz59_0, hfz59_1, hfz59_2⟩ := frz3 BK124.out
             have p129 : 0 ≤ (x10_6 : Int) := of_decide_eq_true (by first | (with_reducible assumption) | assumption)
             have q129 : x10_6 < (l1_2.length : Int) := of_decide_eq_true (by first | (with_reducible assumption) | assumption)
             obtain ⟨ad129, e129, hx129_0, hx129_1, hx129_2, hx129_3, hx129_4, hx129_5, hx129_6⟩ := at_T40 HR1_2.out x10_6 p129 q129
             cases e129
             replace hx129_0 := upc HB.out hx129_0
             replace hx129_1 := upc HB.out hx129_1
             replace hx129_2 := upc HB.out hx129_2
             replace hx129_3 := upc HB.out hx129_3
             replace hx129_4 := upc HB.out hx129_4
             replace hx129_5 := upc HB.out hx129_5
             replace hx129_6 := upc HB.out hx129_6
             replace p129 := eq_true p129
             replace q129 := eq_true q129
             go_wp2_with (first | ((with_reducible refine gate_callee (f := 27) rfl ?_); refine goesL_ (some 55) rfl rfl Try.func27 (by kernel_rfl) rfl #[.int .i64 a3, .int .i64 ((rd_T40 l1_2 x10_6).f6)] rfl (by (try simp only [List.map_toArray, List.map_cons, List.map_nil]); first | done | rfl | (simp only [List.length_drop, List.length_take]; rfl)) ?_; (with_reducible refine (toc_packets.calls a3 ((rd_T40 l1_2 x10_6).f6) false _ A30.out).mono ?_); rintro e w' ⟨rfl, ⟨nd, rfl⟩⟩; refine ⟨_, rfl, ?_⟩; (try (rw [drewN_self wc]; generalize hq_ : World.drewN wc _ = wc; have n0_ : Aside0 (wc.heap[gb124]? = some (.cells #[.int .i64 a1_0, .bool a1_1, .slice (some ad129) l1_2.length c1_2] 24 (0, 0))) := ⟨by rw [← hq_]; exact (by (with_reducible repeat (first | refine blk_drewN ?_ _ | refine blk_drew ?_ | refine blk_alloc ?_ _)); exact BK124.out)⟩; have n1_ : Aside0 (wc.heap[gb125]? = some (.cells #[.int .i64 0, .bool false, .slice none 0 0] 24 (0, 0))) := ⟨by rw [← hq_]; exact (by (with_reducible repeat (first | refine blk_drewN ?_ _ | refine blk_drew ?_ | refine blk_alloc ?_ _)); exact BK125.out)⟩; have n2_ : Aside0 (Below w.heap.size w wc) := ⟨by rw [← hq_]; exact (by repeat (first | (with_reducible first | exact HB.out | apply below_alloc | apply pw_below_drewN | apply below_drew1 | refine below_set ?_ GE124.out | refine below_set ?_ GE125.out) | exact HB.out))⟩; clear BK124 BK125 HB hq_; have BK124 := n0_; have BK125 := n1_; have HB := n2_; clear n0_ n1_ n2_)); have hcq_0 : wc.cell? ⟨gb124, 0, none⟩ = some (.int .i64 a1_0) := (blk_cell BK124.out 0).trans rfl; have hcq_1 : wc.cell? ⟨gb124, 1, none⟩ = some (.bool a1_1) := (blk_cell BK124.out 1).trans rfl; have hcq_2 : wc.cell? ⟨gb124, 2, none⟩ = some (.slice (some ad129) l1_2.length c1_2) := (blk_cell BK124.out 2).trans rfl; obtain ⟨hcz60_0, hcz60_1, hcz60_2⟩ := cel3 BK125.out; obtain ⟨hfz60_0, hfz60_1, hfz60_2⟩ := frz3 BK125.out))
             refine bodyPost_ret (results_ct rfl _ _ gb125 24 #[.int .i64 0, .bool false, .slice none 0 0] (0, 0) _ rfl (by (with_reducible repeat (first | refine blk_drewN ?_ _ | refine blk_drew ?_ | refine blk_alloc ?_ _)); refine blk_put (cs := #[.int .i64 0, .bool false, .slice none 0 0]) ?_ 2 _ rfl; (with_reducible repeat (first | refine blk_drewN ?_ _ | refine blk_drew ?_ | refine blk_alloc ?_ _)); refine blk_put (cs := #[.int .i64 0, .bool false, .slice none 0 0]) ?_ 1 _ rfl; (with_reducible repeat (first | refine blk_drewN ?_ _ | refine blk_drew ?_ | refine blk_alloc ?_ _)); refine blk_put (cs := #[.int .i64 0, .bool false, .slice none 0 0]) ?_ 0 _ rfl; (with_reducible repeat (first | refine blk_drewN ?_ _ | refine blk_drew ?_ | refine blk_alloc ?_ _)); exact BK125.out) Try.underlying24 rfl (by kernel_rfl)) rfl ?_
             exact ⟨_, by first | rfl | (simp [errW_none, errW_some] <;> rfl) | (simp [*, errW_none, errW_some] <;> rfl), by first | exact Kd.R_nil _ _ _ _ _ | exact Kd.N_nil _ _ _ _ _ | exact Kd.V_nil _ _ _ _ _ | exact Kd.Q_nil _ _ _ _ _ | exact Kd.S_nil _ _ _ _ _, by repeat (first | (with_reducible first | exact HB.out | apply below_alloc | apply pw_below_drewN | apply below_drew1 | refine below_set ?_ GE124.out | refine below_set ?_ GE125.out) | exact HB.out)⟩
         · rw [if_neg c29] at H
           exact absurd H (by simp)
       · rw [if_neg c28] at H
         exact absurd H (by simp)
 · replace c6 := Bool.eq_false_iff.mpr c6
   subst c6
   have H1 : (some (0, false, ([] : List (S40)), 1)) = some (r1, r2, r3, r4) := by rw [if_neg (show ¬ (false = true) by decide)] at H; exact H
   clear H
   have H := H1
   clear H1
   simp only [Option.some.injEq, Prod.mk.injEq] at H
   obtain ⟨rfl, rfl, rfl, rfl⟩ := H
   go_enter Try.func17, Try.ntmps17
   go_wp2_with (first | ((with_reducible refine gate_dst (N := 5) rfl ?_); refine box_event ?hg (N := 5) ?hd (cs := #[.int .i64 a1_0, .bool a1_1, .slice A1_2 l1_2.length c1_2]) (t := 24) ?hr ?_; (case hd => rfl); (case hg => rfl); (case hr => first | (go_simp; done) | (go_simp; rfl)); intro gb124 hg w61 hbox hb; have n0_ := Aside0.mk (below_step (by repeat (first | (with_reducible first | exact HB.out | apply below_alloc | apply pw_below_drewN | apply below_drew1) | exact HB.out)) hb); have n1_ := Aside0.mk (hbox); have n2_ := Aside0.mk ((by rw [hg]; exact (below_size (by repeat (first | (with_reducible first | exact HB.out | apply below_alloc | apply pw_below_drewN | apply below_drew1) | exact HB.out))) : w.heap.size ≤ gb124)); have n3_ := Aside0.mk ((by rw [hg]; exact (below_size (by repeat (first | (with_reducible first | exact HB.out | apply below_alloc | apply pw_below_drewN | apply below_drew1) | exact HB.out))) : w.heap.size ≤ gb124)); clear HB; have HB := n0_; have BK124 := n1_; have GW124 := n2_; have GE124 := n3_; clear n0_ n1_ n2_ n3_; clear hb hbox hg) | ((with_reducible refine gate_dst (N := 8) rfl ?_); refine box_event ?hg (N := 8) ?hd (cs := #[.int .i64 0, .bool false, .slice none 0 0]) (t := 24) ?hr ?_; (case hd => rfl); (case hg => rfl); (case hr => first | (go_simp; done) | (go_simp; rfl)); intro gb125 hg w62 hbox hb; have n0_ := Aside0.mk (blk_below (g := gb124) (o := .cells #[.int .i64 a1_0, .bool a1_1, .slice A1_2 l1_2.length c1_2] 24 (0, 0)) (by (with_reducible repeat (first | refine blk_drewN ?_ _ | refine blk_drew ?_ | refine blk_alloc ?_ _)); exact BK124.out) hb); have n1_ := Aside0.mk (below_step (by repeat (first | (with_reducible first | exact HB.out | apply below_alloc | apply pw_below_drewN | apply below_drew1 | refine below_set ?_ GE124.out) | exact HB.out)) hb); have n2_ := Aside0.mk (hbox); have n3_ := Aside0.mk ((by rw [hg]; exact (below_size (by repeat (first | (with_reducible first | exact HB.out | apply below_alloc | apply pw_below_drewN | apply below_drew1 | refine below_set ?_ GE124.out) | exact HB.out))) : w.heap.size ≤ gb125)); have n4_ := Aside0.mk ((by rw [hg]; exact (below_size (by repeat (first | (with_reducible first | exact HB.out | apply below_alloc | apply pw_below_drewN | apply below_drew1 | refine below_set ?_ GE124.out) | exact HB.out))) : w.heap.size ≤ gb125)); have n5_ := Aside0.mk ((by rw [hg]; exact Nat.ne_of_lt (blk_lt (g := gb124) (o := .cells #[.int .i64 a1_0, .bool a1_1, .slice A1_2 l1_2.length c1_2] 24 (0, 0)) (by (with_reducible repeat (first | refine blk_drewN ?_ _ | refine blk_drew ?_ | refine blk_alloc ?_ _)); exact BK124.out)) : gb124 ≠ gb125)); have n6_ := Aside0.mk ((by rw [hg]; exact Nat.ne_of_gt (blk_lt (g := gb124) (o := .cells #[.int .i64 a1_0, .bool a1_1, .slice A1_2 l1_2.length c1_2] 24 (0, 0)) (by (with_reducible repeat (first | refine blk_drewN ?_ _ | refine blk_drew ?_ | refine blk_alloc ?_ _)); exact BK124.out)) : gb125 ≠ gb124)); clear BK124; clear HB; have BK124 := n0_; have HB := n1_; have BK125 := n2_; have GW125 := n3_; have GE125 := n4_; have NB124_125 := n5_; have NB125_124 := n6_; clear n0_ n1_ n2_ n3_ n4_ n5_ n6_; clear hb hbox hg; have hnb63 := NB124_125.out; have hnc63 := NB125_124.out; obtain ⟨hcz64_0, hcz64_1, hcz64_2⟩ := cel3 BK124.out; obtain ⟨hfz64_0, hfz64_1, hfz64_2⟩ := frz3 BK124.out) | ((with_reducible refine gate_callee (f := 10) rfl ?_); refine goesL_ (some 13) rfl rfl Try.func10 (by kernel_rfl) rfl #[.int .i64 a0, .agg #[.int .i64 a1_0, .bool a1_1, .slice A1_2 l1_2.length c1_2]] rfl (by (try simp only [List.map_toArray, List.map_cons, List.map_nil]); first | done | rfl | (simp only [List.length_drop, List.length_take]; rfl)) ?_; (with_reducible refine (toc_Valid.calls a0 a1_0 a1_1 _ _ l1_2 false _ ?side1 ?side2 A5.out).mono ?_); (case side1 => repeat (first | exact (Kd.C_below HR1_2.out HB.out) | (with_reducible refine Kd.C_alloc ?_ _) | (with_reducible refine Kd.C_drewN ?_ _) | (with_reducible refine Kd.C_drew ?_))); (case side2 => exact HC1_2.out); rintro e w65 ⟨rfl, hb⟩; refine ⟨_, rfl, ?_⟩; have n0_ := Aside0.mk (blk_below (g := gb124) (o := .cells #[.int .i64 a1_0, .bool a1_1, .slice A1_2 l1_2.length c1_2] 24 (0, 0)) (by (with_reducible repeat (first | refine blk_drewN ?_ _ | refine blk_drew ?_ | refine blk_alloc ?_ _)); exact BK124.out) hb); have n1_ := Aside0.mk (blk_below (g := gb125) (o := .cells #[.int .i64 0, .bool false, .slice none 0 0] 24 (0, 0)) (by (with_reducible repeat (first | refine blk_drewN ?_ _ | refine blk_drew ?_ | refine blk_alloc ?_ _)); exact BK125.out) hb); have n2_ := Aside0.mk (below_step (by repeat (first | (with_reducible first | exact HB.out | apply below_alloc | apply pw_below_drewN | apply below_drew1 | refine below_set ?_ GE124.out | refine below_set ?_ GE125.out) | exact HB.out)) hb); clear BK124; clear BK125; clear HB; have BK124 := n0_; have BK125 := n1_; have HB := n2_; clear n0_ n1_ n2_; (try clear hb); (try clear hb2); (try clear hk); (try clear hi); obtain ⟨hcz66_0, hcz66_1, hcz66_2⟩ := cel3 BK125.out; obtain ⟨hfz66_0, hfz66_1, hfz66_2⟩ := frz3 BK125.out))
   refine bodyPost_ret (results_ct rfl _ _ gb125 24 #[.int .i64 0, .bool false, .slice none 0 0] (0, 0) _ rfl (by (with_reducible repeat (first | refine blk_drewN ?_ _ | refine blk_drew ?_ | refine blk_alloc ?_ _)); refine blk_put (cs := #[.int .i64 0, .bool false, .slice none 0 0]) ?_ 2 _ rfl; (with_reducible repeat (first | refine blk_drewN ?_ _ | refine blk_drew ?_ | refine blk_alloc ?_ _)); refine blk_put (cs := #[.int .i64 0, .bool false, .slice none 0 0]) ?_ 1 _ rfl; (with_reducible repeat (first | refine blk_drewN ?_ _ | refine blk_drew ?_ | refine blk_alloc ?_ _)); refine blk_put (cs := #[.int .i64 0, .bool false, .slice none 0 0]) ?_ 0 _ rfl; (with_reducible repeat (first | refine blk_drewN ?_ _ | refine blk_drew ?_ | refine blk_alloc ?_ _)); exact BK125.out) Try.underlying24 rfl (by kernel_rfl)) rfl ?_
   exact ⟨_, by first | rfl | (simp [errW_none, errW_some] <;> rfl) | (simp [*, errW_none, errW_some] <;> rfl), by first | exact Kd.R_nil _ _ _ _ _ | exact Kd.N_nil _ _ _ _ _ | exact Kd.V_nil _ _ _ _ _ | exact Kd.Q_nil _ _ _ _ _ | exact Kd.S_nil _ _ _ _ _, by repeat (first | (with_reducible first | exact HB.out | apply below_alloc | apply pw_below_drewN | apply below_drew1 | refine below_set ?_ GE124.out | refine below_set ?_ GE125.out) | exact HB.out)⟩
end Go.Proofs.Ytjhepdcdhabcjaa.G
namespace Go.Proofs.Ytjhepdcdhabcjaa.G
open Go.RowKit Go.Proofs.YtjhepdcdhabcjaaW.PrintWords Go.Proofs.YtjhepdcdhabcjaaW.PrintLast Go.Proofs.YtjhepdcdhabcjaaW.PrintMore
set_option linter.unusedVariables false
set_option linter.unusedSimpArgs false
def ctLast (l : List (S40)) (i : Int) : Bool := decide (i + 1 = (l.length : Int))
def ctOk (l : List (S40)) (i : Int) : Bool := (rd_T40 l i).f5 == 1 && (ctLast l i || (rd_T40 l i).f4 == wrap64 ((rd_T40 l i).f2 + (rd_T40 l i).f3))
def ctNew (l : List (S40)) (i : Int) (x : S40) : S40 := ⟨x.f0, x.f1, x.f2, if ctLast l i = true then wrap64 (x.f4 - x.f2) else x.f3, x.f4, 2, x.f6⟩
def toc_CloseTrack.f (a0 : Int) (a1_0 : Int) (a1_1 : Bool) (l1_2 : List (S40)) (a2 : Int) : Option (Int × Bool × (List (S40)) × Int) :=
 (toc_Valid.f a0 a1_0 a1_1 l1_2).bind fun v => if v = true then
  (if a2 < 1 ∨ a2 > (l1_2.length : Int) then some (0, false, [], 6) else if l1_2.length < 2513169434916 then
   (if ctOk l1_2 (a2 - 1) = true then some (a1_0, a1_1, l1_2.set (a2 - 1).toNat (ctNew l1_2 (a2 - 1) (rd_T40 l1_2 (a2 - 1))), 0) else some (0, false, [], 8)) else none) else some (0, false, [], 1)
theorem row_open {W : World} {base g n cap : Nat} {xs : List S40} (h : Kd.R k40 40 W base (fun _ => True) (.slice (some ⟨g, 0, none⟩) n cap) xs) (i : Int) (h0 : 0 ≤ i) (h1 : i < (n : Int)) : (W.cell? ⟨g, i.toNat * 7, none⟩ = some (.int .i64 (rd_T40 xs i).f0) ∧ W.cell? ⟨g, i.toNat * 7 + 1, none⟩ = some (.int .i64 (rd_T40 xs i).f1) ∧ W.cell? ⟨g, i.toNat * 7 + 2, none⟩ = some (.int .i64 (rd_T40 xs i).f2) ∧ W.cell? ⟨g, i.toNat * 7 + 3, none⟩ = some (.int .i64 (rd_T40 xs i).f3) ∧ W.cell? ⟨g, i.toNat * 7 + 4, none⟩ = some (.int .i64 (rd_T40 xs i).f4) ∧ W.cell? ⟨g, i.toNat * 7 + 5, none⟩ = some (.int .i64 (rd_T40 xs i).f5) ∧ W.cell? ⟨g, i.toNat * 7 + 6, none⟩ = some (.int .i64 (rd_T40 xs i).f6)) ∧ W.frozen? ⟨g, i.toNat * 7, none⟩ = false ∧ W.frozen? ⟨g, i.toNat * 7 + 1, none⟩ = false ∧ W.frozen? ⟨g, i.toNat * 7 + 2, none⟩ = false ∧ W.frozen? ⟨g, i.toNat * 7 + 3, none⟩ = false ∧ W.frozen? ⟨g, i.toNat * 7 + 4, none⟩ = false ∧ W.frozen? ⟨g, i.toNat * 7 + 5, none⟩ = false ∧ W.frozen? ⟨g, i.toNat * 7 + 6, none⟩ = false := by
 obtain ⟨ce, hcl, hM, hcc, hfr⟩ := Kd.R_elem h z40 i h0 h1
 obtain rfl := k40_openM hM
 exact ⟨⟨hcc 0 _ rfl, hcc 1 _ rfl, hcc 2 _ rfl, hcc 3 _ rfl, hcc 4 _ rfl, hcc 5 _ rfl, hcc 6 _ rfl⟩, hfr 0, hfr 1, hfr 2, hfr 3, hfr 4, hfr 5, hfr 6⟩
theorem row_set3 {W : World} {base g n cap : Nat} {xs : List S40} (h : Kd.R k40 40 W base (fun _ => True) (.slice (some ⟨g, 0, none⟩) n cap) xs) (i : Int) (h0 : 0 ≤ i) (h1 : i < (n : Int)) (v : Int) : Kd.R k40 40 (W.setCell ⟨g, i.toNat * 7 + 3, none⟩ (.int .i64 v)) base (fun _ => True) (.slice (some ⟨g, 0, none⟩) n cap) (xs.set i.toNat ⟨(rd_T40 xs i).f0, (rd_T40 xs i).f1, (rd_T40 xs i).f2, v, (rd_T40 xs i).f4, (rd_T40 xs i).f5, (rd_T40 xs i).f6⟩) ∧ W.grownBy (W.setCell ⟨g, i.toNat * 7 + 3, none⟩ (.int .i64 v)) (some g) := by
 obtain ⟨ce, hcl, hM, hcc, hfr⟩ := Kd.R_elem h z40 i h0 h1
 obtain rfl := k40_openM hM
 exact Kd.R_seg h i h0 h1 (seg := [.int .i64 v]) (j := 3) hcl hcc (show 4 ≤ 7 from by decide) (x' := (⟨(rd_T40 xs i).f0, (rd_T40 xs i).f1, (rd_T40 xs i).f2, v, (rd_T40 xs i).f4, (rd_T40 xs i).f5, (rd_T40 xs i).f6⟩ : S40)) (k40_mkM _ _ _ (⟨(rd_T40 xs i).f0, (rd_T40 xs i).f1, (rd_T40 xs i).f2, v, (rd_T40 xs i).f4, (rd_T40 xs i).f5, (rd_T40 xs i).f6⟩ : S40)) (fun _ hk => hk)
theorem row_set4 {W : World} {base g n cap : Nat} {xs : List S40} (h : Kd.R k40 40 W base (fun _ => True) (.slice (some ⟨g, 0, none⟩) n cap) xs) (i : Int) (h0 : 0 ≤ i) (h1 : i < (n : Int)) (v : Int) : Kd.R k40 40 (W.setCell ⟨g, i.toNat * 7 + 4, none⟩ (.int .i64 v)) base (fun _ => True) (.slice (some ⟨g, 0, none⟩) n cap) (xs.set i.toNat ⟨(rd_T40 xs i).f0, (rd_T40 xs i).f1, (rd_T40 xs i).f2, (rd_T40 xs i).f3, v, (rd_T40 xs i).f5, (rd_T40 xs i).f6⟩) ∧ W.grownBy (W.setCell ⟨g, i.toNat * 7 + 4, none⟩ (.int .i64 v)) (some g) := by
 obtain ⟨ce, hcl, hM, hcc, hfr⟩ := Kd.R_elem h z40 i h0 h1
 obtain rfl := k40_openM hM
 exact Kd.R_seg h i h0 h1 (seg := [.int .i64 v]) (j := 4) hcl hcc (show 5 ≤ 7 from by decide) (x' := (⟨(rd_T40 xs i).f0, (rd_T40 xs i).f1, (rd_T40 xs i).f2, (rd_T40 xs i).f3, v, (rd_T40 xs i).f5, (rd_T40 xs i).f6⟩ : S40)) (k40_mkM _ _ _ (⟨(rd_T40 xs i).f0, (rd_T40 xs i).f1, (rd_T40 xs i).f2, (rd_T40 xs i).f3, v, (rd_T40 xs i).f5, (rd_T40 xs i).f6⟩ : S40)) (fun _ hk => hk)
theorem row_set5 {W : World} {base g n cap : Nat} {xs : List S40} (h : Kd.R k40 40 W base (fun _ => True) (.slice (some ⟨g, 0, none⟩) n cap) xs) (i : Int) (h0 : 0 ≤ i) (h1 : i < (n : Int)) (v : Int) : Kd.R k40 40 (W.setCell ⟨g, i.toNat * 7 + 5, none⟩ (.int .i64 v)) base (fun _ => True) (.slice (some ⟨g, 0, none⟩) n cap) (xs.set i.toNat ⟨(rd_T40 xs i).f0, (rd_T40 xs i).f1, (rd_T40 xs i).f2, (rd_T40 xs i).f3, (rd_T40 xs i).f4, v, (rd_T40 xs i).f6⟩) ∧ W.grownBy (W.setCell ⟨g, i.toNat * 7 + 5, none⟩ (.int .i64 v)) (some g) := by
 obtain ⟨ce, hcl, hM, hcc, hfr⟩ := Kd.R_elem h z40 i h0 h1
 obtain rfl := k40_openM hM
 exact Kd.R_seg h i h0 h1 (seg := [.int .i64 v]) (j := 5) hcl hcc (show 6 ≤ 7 from by decide) (x' := (⟨(rd_T40 xs i).f0, (rd_T40 xs i).f1, (rd_T40 xs i).f2, (rd_T40 xs i).f3, (rd_T40 xs i).f4, v, (rd_T40 xs i).f6⟩ : S40)) (k40_mkM _ _ _ (⟨(rd_T40 xs i).f0, (rd_T40 xs i).f1, (rd_T40 xs i).f2, (rd_T40 xs i).f3, (rd_T40 xs i).f4, v, (rd_T40 xs i).f6⟩ : S40)) (fun _ hk => hk)
def ct_T8 : Bool × List (List Nat × List Nat) := (true, [([], []), ([0], [0]), ([1], [1]), ([2], [2]), ([3], [3]), ([4], [4]), ([5], [5]), ([6, 5], [5, 6]), ([7, 5, 5], [5, 7]), ([8], [8]), ([9, 8], [8, 9]), ([10, 8], [8, 10]), ([11, 8], [8, 11]), ([8], [8]), ([13, 8], [8, 13]), ([14, 8], [8, 14]), ([15, 8, 8], [8, 15]), ([12, 16, 8], [8, 12, 16]), ([8, 17, 5], [5, 8, 17]), ([5, 18], [5, 18])])
def ct_B8 : List Nat := [0, 1, 3, 7, 15, 31, 63, 127, 255, 511, 1023, 2047, 4095, 511, 8703, 25087, 57855, 131071, 262143, 524287]
theorem ct_tab8 : rtab .any (opsOf Try.f18 8) = ct_T8 := by kernel_rfl
theorem ct_bits8 : waitsOk ct_T8.2 ct_B8 = true := by kernel_rfl
set_option maxHeartbeats 4000000 in
set_option maxRecDepth 100000 in
theorem ct_inv (cap cl : Int) (fin : Bool) (A : Option Addr) (c : Nat) (l : List (S40)) (num : Int) (w : World) (hr : Kd.C k40 w A l.length l) (hc : l.length ≤ c)  (h : toc_Valid.f cap cl fin l = some false) :
 Calls Try.prog 18 #[.int .i64 cap, .agg #[.int .i64 cl, .bool fin, .slice A l.length c], .int .i64 num] w fun e w' => ∃ v2_ : Value, e = .returned (.tuple #[.agg #[.int .i64 0, .bool false, v2_], .int .i64 1]) ∧ Kd.R k40 40 w' w.heap.size (fun _ => True) v2_ [] ∧ Below w.heap.size w w' := by
 have hu38 := Try.underlying24
 have hu40 := Try.underlying40
 have HR := Aside0.mk hr
 have HC := Aside0.mk hc
 have HV := Aside0.mk h
 clear hr hc h
 go_enter Try.func18, Try.ntmps18
 go_wp2_with (fail)
 generalize hw0 : (w.alloc _).alloc _ = w0
 obtain ⟨hb0, hb1, hB⟩ := two_new hw0
 obtain ⟨g0, hg0⟩ : ∃ g, w.heap.size = g := ⟨_, rfl⟩
 have GE0 : w.heap.size ≤ g0 := by omega
 rw [hg0] at hb0 hb1 ⊢
 obtain ⟨g1, hg1⟩ : ∃ g, g0 + 1 = g := ⟨_, rfl⟩
 have GE1 : w.heap.size ≤ g1 := by omega
 have hne : g1 ≠ g0 := by omega
 have hne' : g0 ≠ g1 := by omega
 rw [hg1] at hb1 ⊢
 refine (toc_Valid.calls _ _ _ A c l false w0 (Kd.C_below HR.out hB) HC.out HV.out).mono ?_
 rintro e w1 ⟨rfl, hbv⟩
 have hx0 := blk_below hb0 hbv
 have hx1 := blk_below hb1 hbv
 have HB := Aside0.mk (below_step hB hbv)
 have HR1 := Aside0.mk (Kd.C_below HR.out HB.out)
 clear hg0 hg1 hw0 hb0 hb1 hB hbv
 have d0 : w1.cell? ⟨g0, 0, none⟩ = some (.int .i64 cl) := (blk_cell hx0 0).trans rfl
 have d1 : w1.cell? ⟨g0, 1, none⟩ = some (.bool fin) := (blk_cell hx0 1).trans rfl
 have d2 : w1.cell? ⟨g0, 2, none⟩ = some (.slice A l.length c) := (blk_cell hx0 2).trans rfl
 have f0 := blk_frozen hx0 0
 have f1 := blk_frozen hx0 1
 have f2 := blk_frozen hx0 2
 have c0 : w1.cell? ⟨g1, 0, none⟩ = some (.int .i64 0) := (blk_cell hx1 0).trans rfl
 have c1 : w1.cell? ⟨g1, 1, none⟩ = some (.bool false) := (blk_cell hx1 1).trans rfl
 have c2 : w1.cell? ⟨g1, 2, none⟩ = some (.slice none 0 0) := (blk_cell hx1 2).trans rfl
 have e0 := blk_frozen hx1 0
 have e1 := blk_frozen hx1 1
 have e2 := blk_frozen hx1 2
 go_wp2_with (fail)
 refine bodyPost_ret (results_ct rfl _ _ g1 24 #[.int .i64 0, .bool false, .slice none 0 0] (0, 0) _ rfl (blk_put (cs := #[.int .i64 0, .bool false, .slice none 0 0]) (blk_put (cs := #[.int .i64 0, .bool false, .slice none 0 0]) (blk_put (cs := #[.int .i64 0, .bool false, .slice none 0 0]) hx1 0 _ rfl) 1 _ rfl) 2 _ rfl) Try.underlying24 rfl (by kernel_rfl)) rfl ?_
 exact ⟨_, rfl, Kd.R_nil _ _ _ _ _, below_set (below_set (below_set HB.out GE1) GE1) GE1⟩
set_option maxHeartbeats 4000000 in
set_option maxRecDepth 100000 in
theorem ct_nf1 (cap cl : Int) (fin : Bool) (A : Option Addr) (c : Nat) (l : List (S40)) (num : Int) (w : World) (hr : Kd.C k40 w A l.length l) (hc : l.length ≤ c) (hn : num < 1) (h : toc_Valid.f cap cl fin l = some true) :
 Calls Try.prog 18 #[.int .i64 cap, .agg #[.int .i64 cl, .bool fin, .slice A l.length c], .int .i64 num] w fun e w' => ∃ v2_ : Value, e = .returned (.tuple #[.agg #[.int .i64 0, .bool false, v2_], .int .i64 6]) ∧ Kd.R k40 40 w' w.heap.size (fun _ => True) v2_ [] ∧ Below w.heap.size w w' := by
 have hu38 := Try.underlying24
 have hu40 := Try.underlying40
 have HR := Aside0.mk hr
 have HC := Aside0.mk hc
 have HV := Aside0.mk h
 clear hr hc h
 have b1 : decide (num < 1) = true := decide_eq_true hn
 clear hn
 go_enter Try.func18, Try.ntmps18
 go_wp2_with (fail)
 generalize hw0 : (w.alloc _).alloc _ = w0
 obtain ⟨hb0, hb1, hB⟩ := two_new hw0
 obtain ⟨g0, hg0⟩ : ∃ g, w.heap.size = g := ⟨_, rfl⟩
 have GE0 : w.heap.size ≤ g0 := by omega
 rw [hg0] at hb0 hb1 ⊢
 obtain ⟨g1, hg1⟩ : ∃ g, g0 + 1 = g := ⟨_, rfl⟩
 have GE1 : w.heap.size ≤ g1 := by omega
 have hne : g1 ≠ g0 := by omega
 have hne' : g0 ≠ g1 := by omega
 rw [hg1] at hb1 ⊢
 refine (toc_Valid.calls _ _ _ A c l true w0 (Kd.C_below HR.out hB) HC.out HV.out).mono ?_
 rintro e w1 ⟨rfl, hbv⟩
 have hx0 := blk_below hb0 hbv
 have hx1 := blk_below hb1 hbv
 have HB := Aside0.mk (below_step hB hbv)
 have HR1 := Aside0.mk (Kd.C_below HR.out HB.out)
 clear hg0 hg1 hw0 hb0 hb1 hB hbv
 have d0 : w1.cell? ⟨g0, 0, none⟩ = some (.int .i64 cl) := (blk_cell hx0 0).trans rfl
 have d1 : w1.cell? ⟨g0, 1, none⟩ = some (.bool fin) := (blk_cell hx0 1).trans rfl
 have d2 : w1.cell? ⟨g0, 2, none⟩ = some (.slice A l.length c) := (blk_cell hx0 2).trans rfl
 have f0 := blk_frozen hx0 0
 have f1 := blk_frozen hx0 1
 have f2 := blk_frozen hx0 2
 have c0 : w1.cell? ⟨g1, 0, none⟩ = some (.int .i64 0) := (blk_cell hx1 0).trans rfl
 have c1 : w1.cell? ⟨g1, 1, none⟩ = some (.bool false) := (blk_cell hx1 1).trans rfl
 have c2 : w1.cell? ⟨g1, 2, none⟩ = some (.slice none 0 0) := (blk_cell hx1 2).trans rfl
 have e0 := blk_frozen hx1 0
 have e1 := blk_frozen hx1 1
 have e2 := blk_frozen hx1 2
 go_wp2_with (fail)
 refine bodyPost_ret (results_ct rfl _ _ g1 24 #[.int .i64 0, .bool false, .slice none 0 0] (0, 0) _ rfl (blk_put (cs := #[.int .i64 0, .bool false, .slice none 0 0]) (blk_put (cs := #[.int .i64 0, .bool false, .slice none 0 0]) (blk_put (cs := #[.int .i64 0, .bool false, .slice none 0 0]) hx1 0 _ rfl) 1 _ rfl) 2 _ rfl) Try.underlying24 rfl (by kernel_rfl)) rfl ?_
 exact ⟨_, rfl, Kd.R_nil _ _ _ _ _, below_set (below_set (below_set HB.out GE1) GE1) GE1⟩
set_option maxHeartbeats 4000000 in
set_option maxRecDepth 100000 in
theorem ct_nf2 (cap cl : Int) (fin : Bool) (A : Option Addr) (c : Nat) (l : List (S40)) (num : Int) (w : World) (hr : Kd.C k40 w A l.length l) (hc : l.length ≤ c) (hn : ¬ num < 1) (hm : num > (l.length : Int)) (h : toc_Valid.f cap cl fin l = some true) :
 Calls Try.prog 18 #[.int .i64 cap, .agg #[.int .i64 cl, .bool fin, .slice A l.length c], .int .i64 num] w fun e w' => ∃ v2_ : Value, e = .returned (.tuple #[.agg #[.int .i64 0, .bool false, v2_], .int .i64 6]) ∧ Kd.R k40 40 w' w.heap.size (fun _ => True) v2_ [] ∧ Below w.heap.size w w' := by
 have hu38 := Try.underlying24
 have hu40 := Try.underlying40
 have HR := Aside0.mk hr
 have HC := Aside0.mk hc
 have HV := Aside0.mk h
 clear hr hc h
 have b1 : decide (num < 1) = false := decide_eq_false hn
 have b2 : decide ((l.length : Int) < num) = true := decide_eq_true hm
 clear hn hm
 go_enter Try.func18, Try.ntmps18
 go_wp2_with (fail)
 generalize hw0 : (w.alloc _).alloc _ = w0
 obtain ⟨hb0, hb1, hB⟩ := two_new hw0
 obtain ⟨g0, hg0⟩ : ∃ g, w.heap.size = g := ⟨_, rfl⟩
 have GE0 : w.heap.size ≤ g0 := by omega
 rw [hg0] at hb0 hb1 ⊢
 obtain ⟨g1, hg1⟩ : ∃ g, g0 + 1 = g := ⟨_, rfl⟩
 have GE1 : w.heap.size ≤ g1 := by omega
 have hne : g1 ≠ g0 := by omega
 have hne' : g0 ≠ g1 := by omega
 rw [hg1] at hb1 ⊢
 refine (toc_Valid.calls _ _ _ A c l true w0 (Kd.C_below HR.out hB) HC.out HV.out).mono ?_
 rintro e w1 ⟨rfl, hbv⟩
 have hx0 := blk_below hb0 hbv
 have hx1 := blk_below hb1 hbv
 have HB := Aside0.mk (below_step hB hbv)
 have HR1 := Aside0.mk (Kd.C_below HR.out HB.out)
 clear hg0 hg1 hw0 hb0 hb1 hB hbv
 have d0 : w1.cell? ⟨g0, 0, none⟩ = some (.int .i64 cl) := (blk_cell hx0 0).trans rfl
 have d1 : w1.cell? ⟨g0, 1, none⟩ = some (.bool fin) := (blk_cell hx0 1).trans rfl
 have d2 : w1.cell? ⟨g0, 2, none⟩ = some (.slice A l.length c) := (blk_cell hx0 2).trans rfl
 have f0 := blk_frozen hx0 0
 have f1 := blk_frozen hx0 1
 have f2 := blk_frozen hx0 2
 have c0 : w1.cell? ⟨g1, 0, none⟩ = some (.int .i64 0) := (blk_cell hx1 0).trans rfl
 have c1 : w1.cell? ⟨g1, 1, none⟩ = some (.bool false) := (blk_cell hx1 1).trans rfl
 have c2 : w1.cell? ⟨g1, 2, none⟩ = some (.slice none 0 0) := (blk_cell hx1 2).trans rfl
 have e0 := blk_frozen hx1 0
 have e1 := blk_frozen hx1 1
 have e2 := blk_frozen hx1 2
 go_wp2_with (fail)
 refine bodyPost_ret (results_ct rfl _ _ g1 24 #[.int .i64 0, .bool false, .slice none 0 0] (0, 0) _ rfl (blk_put (cs := #[.int .i64 0, .bool false, .slice none 0 0]) (blk_put (cs := #[.int .i64 0, .bool false, .slice none 0 0]) (blk_put (cs := #[.int .i64 0, .bool false, .slice none 0 0]) hx1 0 _ rfl) 1 _ rfl) 2 _ rfl) Try.underlying24 rfl (by kernel_rfl)) rfl ?_
 exact ⟨_, rfl, Kd.R_nil _ _ _ _ _, below_set (below_set (below_set HB.out GE1) GE1) GE1⟩
set_option maxHeartbeats 4000000 in
set_option maxRecDepth 100000 in
theorem ct_st1 (cap cl : Int) (fin : Bool) (A : Option Addr) (c : Nat) (l : List (S40)) (num : Int) (w : World) (hr : Kd.C k40 w A l.length l) (hc : l.length ≤ c) (hn : ¬ num < 1) (hm : ¬ num > (l.length : Int)) (hl : l.length < 2513169434916) (h5 : ¬ (rd_T40 l (num - 1)).f5 = 1) (h : toc_Valid.f cap cl fin l = some true) :
 Calls Try.prog 18 #[.int .i64 cap, .agg #[.int .i64 cl, .bool fin, .slice A l.length c], .int .i64 num] w fun e w' => ∃ v2_ : Value, e = .returned (.tuple #[.agg #[.int .i64 0, .bool false, v2_], .int .i64 8]) ∧ Kd.R k40 40 w' w.heap.size (fun _ => True) v2_ [] ∧ Below w.heap.size w w' := by
 have hu38 := Try.underlying24
 have hu40 := Try.underlying40
 have HR := Aside0.mk hr
 have HC := Aside0.mk hc
 have HV := Aside0.mk h
 clear hr hc h
 have b1 : decide (num < 1) = false := decide_eq_false hn
 have b2 : decide ((l.length : Int) < num) = false := decide_eq_false hm
 have HCN := Aside0.mk (show toc_clone.f cl fin l = some (cl, fin, l) by simp only [toc_clone.f, api_Track_44.f, if_pos hl, Option.bind])
 obtain ⟨i, hi⟩ : ∃ i, i = num - 1 := ⟨_, rfl⟩
 have hi0 : 0 ≤ i := by omega
 have hi1 : i < (l.length : Int) := by omega
 have HI := Aside0.mk (show 0 ≤ i ∧ i < (l.length : Int) from ⟨hi0, hi1⟩)
 have hwi : wrap64 (num - 1) = i := by unfold wrap64; omega
 rw [← hi] at h5
 clear hi hn hm hl
 go_enter Try.func18, Try.ntmps18
 go_wp2_with (fail)
 generalize hw0 : (w.alloc _).alloc _ = w0
 obtain ⟨hb0, hb1, hB⟩ := two_new hw0
 obtain ⟨g0, hg0⟩ : ∃ g, w.heap.size = g := ⟨_, rfl⟩
 have GE0 : w.heap.size ≤ g0 := by omega
 rw [hg0] at hb0 hb1 ⊢
 obtain ⟨g1, hg1⟩ : ∃ g, g0 + 1 = g := ⟨_, rfl⟩
 have GE1 : w.heap.size ≤ g1 := by omega
 have hne : g1 ≠ g0 := by omega
 have hne' : g0 ≠ g1 := by omega
 rw [hg1] at hb1 ⊢
 refine (toc_Valid.calls _ _ _ A c l true w0 (Kd.C_below HR.out hB) HC.out HV.out).mono ?_
 rintro e w1 ⟨rfl, hbv⟩
 have hx0 := blk_below hb0 hbv
 have hx1 := blk_below hb1 hbv
 have HB := Aside0.mk (below_step hB hbv)
 have HR1 := Aside0.mk (Kd.C_below HR.out HB.out)
 clear hg0 hg1 hw0 hb0 hb1 hB hbv
 have d0 : w1.cell? ⟨g0, 0, none⟩ = some (.int .i64 cl) := (blk_cell hx0 0).trans rfl
 have d1 : w1.cell? ⟨g0, 1, none⟩ = some (.bool fin) := (blk_cell hx0 1).trans rfl
 have d2 : w1.cell? ⟨g0, 2, none⟩ = some (.slice A l.length c) := (blk_cell hx0 2).trans rfl
 have f0 := blk_frozen hx0 0
 have f1 := blk_frozen hx0 1
 have f2 := blk_frozen hx0 2
 have c0 : w1.cell? ⟨g1, 0, none⟩ = some (.int .i64 0) := (blk_cell hx1 0).trans rfl
 have c1 : w1.cell? ⟨g1, 1, none⟩ = some (.bool false) := (blk_cell hx1 1).trans rfl
 have c2 : w1.cell? ⟨g1, 2, none⟩ = some (.slice none 0 0) := (blk_cell hx1 2).trans rfl
 have e0 := blk_frozen hx1 0
 have e1 := blk_frozen hx1 1
 have e2 := blk_frozen hx1 2
 go_wp2_with (fail)
 refine (toc_clone.calls _ _ A c l _ _ _ w1 HR1.out HC.out HCN.out).mono ?_
 rintro e w4 ⟨v, rfl, hv, hb4⟩
 have HBP := HB
 have hx0 := blk_below hx0 hb4
 have hx1 := blk_below hx1 hb4
 have HB := Aside0.mk (below_step HB.out hb4)
 obtain ⟨A', c', rfl⟩ := Kd.R_slice hv
 have HVV := Aside0.mk (Kd.R_types (Kd.R_types (Kd.R_lower hv (below_size HBP.out)) hx0 (by decide)) hx1 (by decide))
 clear d0 d1 d2 c0 c1 c2 f0 f1 f2 e0 e1 e2 hv hb4 HR1
 have d0 : w4.cell? ⟨g0, 0, none⟩ = some (.int .i64 cl) := (blk_cell hx0 0).trans rfl
 have d1 : w4.cell? ⟨g0, 1, none⟩ = some (.bool fin) := (blk_cell hx0 1).trans rfl
 have d2 : w4.cell? ⟨g0, 2, none⟩ = some (.slice A l.length c) := (blk_cell hx0 2).trans rfl
 have f0 := blk_frozen hx0 0
 have f1 := blk_frozen hx0 1
 have f2 := blk_frozen hx0 2
 have c0 : w4.cell? ⟨g1, 0, none⟩ = some (.int .i64 0) := (blk_cell hx1 0).trans rfl
 have c1 : w4.cell? ⟨g1, 1, none⟩ = some (.bool false) := (blk_cell hx1 1).trans rfl
 have c2 : w4.cell? ⟨g1, 2, none⟩ = some (.slice none 0 0) := (blk_cell hx1 2).trans rfl
 have e0 := blk_frozen hx1 0
 have e1 := blk_frozen hx1 1
 have e2 := blk_frozen hx1 2
 go_simp
 iterate 3 (first | go_values | go_skip | go_guarded | go_step | go_upon | go_back)
 generalize hw5 : ((w4.setCell _ _).setCell _ _).setCell _ _ = w5
 have HB5 := Aside0.mk (show Below w.heap.size w w5 from hw5 ▸ below_set (below_set (below_set HB.out GE0) GE0) GE0)
 have hy0 : w5.heap[g0]? = some (.cells #[.int .i64 cl, .bool fin, .slice A' l.length c'] 24 (0, 0)) := hw5 ▸ blk_put (blk_put (blk_put hx0 0 _ rfl) 1 _ rfl) 2 _ rfl
 have hy1 : w5.heap[g1]? = some (.cells #[.int .i64 0, .bool false, .slice none 0 0] 24 (0, 0)) := hw5 ▸ blk_far (blk_far (blk_far hx1 hne _) hne _) hne _
 have HV5 := Aside0.mk (show Kd.R k40 40 w5 _ _ _ l from hw5 ▸ Kd.R_far (Kd.R_far (Kd.R_far HVV.out (fun _ hk => hk.1.2) _) (fun _ hk => hk.1.2) _) (fun _ hk => hk.1.2) _)
 clear d0 d1 d2 c0 c1 c2 f0 f1 f2 e0 e1 e2 hw5 HB HVV hx0 hx1 HBP
 obtain ⟨go, co, eo, gb, gl, cl', HG⟩ := Kd.R_form HV5.out (by have := HI.out; omega)
 injection eo with ea en ec
 subst ea ec
 clear en
 have HV5 := Aside0.mk (Kd.R_mono HV5.out (fun _ _ => trivial))
 obtain ⟨⟨hr0, hr1, hr2, hr3, hr4, hr5, hr6⟩, q0, q1, q2, q3, q4, q5, q6⟩ := row_open HV5.out i hi0 hi1
 obtain ⟨x, hx⟩ : ∃ x, x = rd_T40 l i := ⟨_, rfl⟩
 rw [← hx] at hr0 hr1 hr2 hr3 hr4 hr5 hr6
 have HX := Aside0.mk hx
 clear q0 q1 q2 q4 q6
 have d0 : w5.cell? ⟨g0, 0, none⟩ = some (.int .i64 cl) := (blk_cell hy0 0).trans rfl
 have d1 : w5.cell? ⟨g0, 1, none⟩ = some (.bool fin) := (blk_cell hy0 1).trans rfl
 have d2 : w5.cell? ⟨g0, 2, none⟩ = some (.slice (some ⟨go, 0, none⟩) l.length c') := (blk_cell hy0 2).trans rfl
 have f0 := blk_frozen hy0 0
 have f1 := blk_frozen hy0 1
 have f2 := blk_frozen hy0 2
 have c0 : w5.cell? ⟨g1, 0, none⟩ = some (.int .i64 0) := (blk_cell hy1 0).trans rfl
 have c1 : w5.cell? ⟨g1, 1, none⟩ = some (.bool false) := (blk_cell hy1 1).trans rfl
 have c2 : w5.cell? ⟨g1, 2, none⟩ = some (.slice none 0 0) := (blk_cell hy1 2).trans rfl
 have e0 := blk_frozen hy1 0
 have e1 := blk_frozen hy1 1
 have e2 := blk_frozen hy1 2
 have g5 : (x.f5 != 1) = true := bne_iff_ne.mpr (by rw [hx]; exact h5)
 clear h5 hx
 go_wp2_with (fail)
 go_quiet (fail)
 go_wp2_with (fail)
 refine bodyPost_ret (results_ct rfl _ _ g1 24 #[.int .i64 0, .bool false, .slice none 0 0] (0, 0) _ rfl (blk_put (cs := #[.int .i64 0, .bool false, .slice none 0 0]) (blk_put (cs := #[.int .i64 0, .bool false, .slice none 0 0]) (blk_put (cs := #[.int .i64 0, .bool false, .slice none 0 0]) (blk_drewN hy1 _) 0 _ rfl) 1 _ rfl) 2 _ rfl) Try.underlying24 rfl (by kernel_rfl)) rfl ?_
 exact ⟨_, rfl, Kd.R_nil _ _ _ _ _, below_set (below_set (below_set (pw_below_drewN HB5.out _) GE1) GE1) GE1⟩
set_option maxHeartbeats 4000000 in
set_option maxRecDepth 100000 in
theorem ct_st2 (cap cl : Int) (fin : Bool) (A : Option Addr) (c : Nat) (l : List (S40)) (num : Int) (w : World) (hr : Kd.C k40 w A l.length l) (hc : l.length ≤ c) (hn : ¬ num < 1) (hm : ¬ num > (l.length : Int)) (hl : l.length < 2513169434916) (h5 : (rd_T40 l (num - 1)).f5 = 1) (hla : ¬ num = (l.length : Int)) (h4 : ¬ (rd_T40 l (num - 1)).f4 = wrap64 ((rd_T40 l (num - 1)).f2 + (rd_T40 l (num - 1)).f3)) (h : toc_Valid.f cap cl fin l = some true) :
 Calls Try.prog 18 #[.int .i64 cap, .agg #[.int .i64 cl, .bool fin, .slice A l.length c], .int .i64 num] w fun e w' => ∃ v2_ : Value, e = .returned (.tuple #[.agg #[.int .i64 0, .bool false, v2_], .int .i64 8]) ∧ Kd.R k40 40 w' w.heap.size (fun _ => True) v2_ [] ∧ Below w.heap.size w w' := by
 have hu38 := Try.underlying24
 have hu40 := Try.underlying40
 have HR := Aside0.mk hr
 have HC := Aside0.mk hc
 have HV := Aside0.mk h
 clear hr hc h
 have b1 : decide (num < 1) = false := decide_eq_false hn
 have b2 : decide ((l.length : Int) < num) = false := decide_eq_false hm
 have HCN := Aside0.mk (show toc_clone.f cl fin l = some (cl, fin, l) by simp only [toc_clone.f, api_Track_44.f, if_pos hl, Option.bind])
 obtain ⟨i, hi⟩ : ∃ i, i = num - 1 := ⟨_, rfl⟩
 have hi0 : 0 ≤ i := by omega
 have hi1 : i < (l.length : Int) := by omega
 have HI := Aside0.mk (show 0 ≤ i ∧ i < (l.length : Int) from ⟨hi0, hi1⟩)
 have hwi : wrap64 (num - 1) = i := by unfold wrap64; omega
 rw [← hi] at h5 h4
 clear hi hn hm hl
 go_enter Try.func18, Try.ntmps18
 go_wp2_with (fail)
 generalize hw0 : (w.alloc _).alloc _ = w0
 obtain ⟨hb0, hb1, hB⟩ := two_new hw0
 obtain ⟨g0, hg0⟩ : ∃ g, w.heap.size = g := ⟨_, rfl⟩
 have GE0 : w.heap.size ≤ g0 := by omega
 rw [hg0] at hb0 hb1 ⊢
 obtain ⟨g1, hg1⟩ : ∃ g, g0 + 1 = g := ⟨_, rfl⟩
 have GE1 : w.heap.size ≤ g1 := by omega
 have hne : g1 ≠ g0 := by omega
 have hne' : g0 ≠ g1 := by omega
 rw [hg1] at hb1 ⊢
 refine (toc_Valid.calls _ _ _ A c l true w0 (Kd.C_below HR.out hB) HC.out HV.out).mono ?_
 rintro e w1 ⟨rfl, hbv⟩
 have hx0 := blk_below hb0 hbv
 have hx1 := blk_below hb1 hbv
 have HB := Aside0.mk (below_step hB hbv)
 have HR1 := Aside0.mk (Kd.C_below HR.out HB.out)
 clear hg0 hg1 hw0 hb0 hb1 hB hbv
 have d0 : w1.cell? ⟨g0, 0, none⟩ = some (.int .i64 cl) := (blk_cell hx0 0).trans rfl
 have d1 : w1.cell? ⟨g0, 1, none⟩ = some (.bool fin) := (blk_cell hx0 1).trans rfl
 have d2 : w1.cell? ⟨g0, 2, none⟩ = some (.slice A l.length c) := (blk_cell hx0 2).trans rfl
 have f0 := blk_frozen hx0 0
 have f1 := blk_frozen hx0 1
 have f2 := blk_frozen hx0 2
 have c0 : w1.cell? ⟨g1, 0, none⟩ = some (.int .i64 0) := (blk_cell hx1 0).trans rfl
 have c1 : w1.cell? ⟨g1, 1, none⟩ = some (.bool false) := (blk_cell hx1 1).trans rfl
 have c2 : w1.cell? ⟨g1, 2, none⟩ = some (.slice none 0 0) := (blk_cell hx1 2).trans rfl
 have e0 := blk_frozen hx1 0
 have e1 := blk_frozen hx1 1
 have e2 := blk_frozen hx1 2
 go_wp2_with (fail)
 refine (toc_clone.calls _ _ A c l _ _ _ w1 HR1.out HC.out HCN.out).mono ?_
 rintro e w4 ⟨v, rfl, hv, hb4⟩
 have HBP := HB
 have hx0 := blk_below hx0 hb4
 have hx1 := blk_below hx1 hb4
 have HB := Aside0.mk (below_step HB.out hb4)
 obtain ⟨A', c', rfl⟩ := Kd.R_slice hv
 have HVV := Aside0.mk (Kd.R_types (Kd.R_types (Kd.R_lower hv (below_size HBP.out)) hx0 (by decide)) hx1 (by decide))
 clear d0 d1 d2 c0 c1 c2 f0 f1 f2 e0 e1 e2 hv hb4 HR1
 have d0 : w4.cell? ⟨g0, 0, none⟩ = some (.int .i64 cl) := (blk_cell hx0 0).trans rfl
 have d1 : w4.cell? ⟨g0, 1, none⟩ = some (.bool fin) := (blk_cell hx0 1).trans rfl
 have d2 : w4.cell? ⟨g0, 2, none⟩ = some (.slice A l.length c) := (blk_cell hx0 2).trans rfl
 have f0 := blk_frozen hx0 0
 have f1 := blk_frozen hx0 1
 have f2 := blk_frozen hx0 2
 have c0 : w4.cell? ⟨g1, 0, none⟩ = some (.int .i64 0) := (blk_cell hx1 0).trans rfl
 have c1 : w4.cell? ⟨g1, 1, none⟩ = some (.bool false) := (blk_cell hx1 1).trans rfl
 have c2 : w4.cell? ⟨g1, 2, none⟩ = some (.slice none 0 0) := (blk_cell hx1 2).trans rfl
 have e0 := blk_frozen hx1 0
 have e1 := blk_frozen hx1 1
 have e2 := blk_frozen hx1 2
 go_simp
 iterate 3 (first | go_values | go_skip | go_guarded | go_step | go_upon | go_back)
 generalize hw5 : ((w4.setCell _ _).setCell _ _).setCell _ _ = w5
 have HB5 := Aside0.mk (show Below w.heap.size w w5 from hw5 ▸ below_set (below_set (below_set HB.out GE0) GE0) GE0)
 have hy0 : w5.heap[g0]? = some (.cells #[.int .i64 cl, .bool fin, .slice A' l.length c'] 24 (0, 0)) := hw5 ▸ blk_put (blk_put (blk_put hx0 0 _ rfl) 1 _ rfl) 2 _ rfl
 have hy1 : w5.heap[g1]? = some (.cells #[.int .i64 0, .bool false, .slice none 0 0] 24 (0, 0)) := hw5 ▸ blk_far (blk_far (blk_far hx1 hne _) hne _) hne _
 have HV5 := Aside0.mk (show Kd.R k40 40 w5 _ _ _ l from hw5 ▸ Kd.R_far (Kd.R_far (Kd.R_far HVV.out (fun _ hk => hk.1.2) _) (fun _ hk => hk.1.2) _) (fun _ hk => hk.1.2) _)
 clear d0 d1 d2 c0 c1 c2 f0 f1 f2 e0 e1 e2 hw5 HB HVV hx0 hx1 HBP
 obtain ⟨go, co, eo, gb, gl, cl', HG⟩ := Kd.R_form HV5.out (by have := HI.out; omega)
 injection eo with ea en ec
 subst ea ec
 clear en
 have HV5 := Aside0.mk (Kd.R_mono HV5.out (fun _ _ => trivial))
 obtain ⟨⟨hr0, hr1, hr2, hr3, hr4, hr5, hr6⟩, q0, q1, q2, q3, q4, q5, q6⟩ := row_open HV5.out i hi0 hi1
 obtain ⟨x, hx⟩ : ∃ x, x = rd_T40 l i := ⟨_, rfl⟩
 rw [← hx] at hr0 hr1 hr2 hr3 hr4 hr5 hr6
 have HX := Aside0.mk hx
 clear q0 q1 q2 q4 q6
 have d0 : w5.cell? ⟨g0, 0, none⟩ = some (.int .i64 cl) := (blk_cell hy0 0).trans rfl
 have d1 : w5.cell? ⟨g0, 1, none⟩ = some (.bool fin) := (blk_cell hy0 1).trans rfl
 have d2 : w5.cell? ⟨g0, 2, none⟩ = some (.slice (some ⟨go, 0, none⟩) l.length c') := (blk_cell hy0 2).trans rfl
 have f0 := blk_frozen hy0 0
 have f1 := blk_frozen hy0 1
 have f2 := blk_frozen hy0 2
 have c0 : w5.cell? ⟨g1, 0, none⟩ = some (.int .i64 0) := (blk_cell hy1 0).trans rfl
 have c1 : w5.cell? ⟨g1, 1, none⟩ = some (.bool false) := (blk_cell hy1 1).trans rfl
 have c2 : w5.cell? ⟨g1, 2, none⟩ = some (.slice none 0 0) := (blk_cell hy1 2).trans rfl
 have e0 := blk_frozen hy1 0
 have e1 := blk_frozen hy1 1
 have e2 := blk_frozen hy1 2
 have g4 : (x.f4 != wrap64 (x.f2 + x.f3)) = true := bne_iff_ne.mpr (by rw [hx]; exact h4)
 clear h4
 have g5 : (x.f5 != 1) = false := bne_eq_false_iff_eq.mpr (by rw [hx]; exact h5)
 have g9 : (num == (l.length : Int)) = false := beq_eq_false_iff_ne.mpr hla
 have HE := fun W => Aside0.mk (toc_end.calls x.f0 x.f1 x.f2 x.f3 x.f4 x.f5 x.f6 (wrap64 (x.f2 + x.f3)) W rfl)
 clear h5 hla hx
 go_wp2_with (fail)
 have HS6 := Aside0.mk (And.intro hr0 (And.intro hr1 (And.intro hr2 (And.intro hr3 (And.intro hr4 (And.intro hr5 hr6))))))
 have HV6 := Aside0.mk (Kd.R_drew HV5.out)
 have hy0 := blk_drew hy0
 have hy1 := blk_drew hy1
 have HB6 := Aside0.mk (below_drew1 HB5.out)
 clear HB5 HV5 d0 d1 d2 f0 f1 f2 c0 c1 c2 e0 e1 e2 hr0 hr1 hr2 hr3 hr4 hr5 hr6 q3 q5
 refine start_ (n := 20) (S := fun w' => w'.cell? ⟨go, i.toNat * 7, none⟩ = some (.int .i64 x.f0) ∧ w'.cell? ⟨go, i.toNat * 7 + 1, none⟩ = some (.int .i64 x.f1) ∧ w'.cell? ⟨go, i.toNat * 7 + 2, none⟩ = some (.int .i64 x.f2) ∧ w'.cell? ⟨go, i.toNat * 7 + 3, none⟩ = some (.int .i64 x.f3) ∧ w'.cell? ⟨go, i.toNat * 7 + 4, none⟩ = some (.int .i64 x.f4) ∧ w'.cell? ⟨go, i.toNat * 7 + 5, none⟩ = some (.int .i64 x.f5) ∧ w'.cell? ⟨go, i.toNat * 7 + 6, none⟩ = some (.int .i64 x.f6)) (ds := []) #[false, false, false, false, false, false, false, false, false, false, false, false, false, false, false, false, false, false, false, false] (by kernel_rfl) rfl rfl HS6.out (fun hHeld => ?_); refine with_tabW ct_tab8 ct_bits8 (fun HT_ HW_ => ?_)
 clear HS6
 generalize w5.drew = w6 at HV6 hy0 hy1 HB6 hHeld ⊢
 refine pure_ (i := 0) (N := some 39) (v := ?_) (a' := ?_) #[true, false, false, false, false, false, false, false, false, false, false, false, false, false, false, false, false, false, false, false] rfl rfl (any_of HT_.out (by kernel_rfl)) (fun _ _ _ h => h) (Or.inl ⟨by rfl, ?_⟩) ?_ ?_
 rotate_left
 · intro w'
   go_simp
   with_reducible rfl
 rotate_left
 · simp only [Act.put, List.setIfInBounds_toArray, List.set_cons_zero, List.set_cons_succ, i64_w, i32_w]
   rfl
 refine pure_ (i := 1) (N := some 40) (v := ?_) (a' := ?_) #[true, true, false, false, false, false, false, false, false, false, false, false, false, false, false, false, false, false, false, false] rfl rfl (any_of HT_.out (by kernel_rfl)) (fun _ _ _ h => h) (Or.inl ⟨by rfl, ?_⟩) ?_ ?_
 rotate_left
 · intro w'
   go_simp
   with_reducible rfl
 rotate_left
 · simp only [Act.put, List.setIfInBounds_toArray, List.set_cons_zero, List.set_cons_succ, i64_w, i32_w]
   rfl
 refine pure_ (i := 2) (N := some 41) (v := ?_) (a' := ?_) #[true, true, true, false, false, false, false, false, false, false, false, false, false, false, false, false, false, false, false, false] rfl rfl (any_of HT_.out (by kernel_rfl)) (fun _ _ _ h => h) (Or.inl ⟨by rfl, ?_⟩) ?_ ?_
 rotate_left
 · intro w'
   go_simp
   with_reducible rfl
 rotate_left
 · simp only [Act.put, List.setIfInBounds_toArray, List.set_cons_zero, List.set_cons_succ, i64_w, i32_w]
   rfl
 refine take_ (i := 3) (N := some 42) (v := ?_) (a' := ?_) #[true, true, true, true, false, false, false, false, false, false, false, false, false, false, false, false, false, false, false, false] rfl rfl (take_ofW HT_.out HW_.out (by kernel_rfl)) (fun _ _ _ h => h) (Or.inl ⟨by rfl, ?_⟩) hHeld ?_ ?_
 rotate_left
 · rintro w' ⟨s0, s1, s2, s3, s4, s5, s6⟩
   go_simp
   with_reducible rfl
 rotate_left
 · simp only [Act.put, List.setIfInBounds_toArray, List.set_cons_zero, List.set_cons_succ, i64_w, i32_w]
   rfl
 refine pure_ (i := 4) (N := some 43) (v := ?_) (a' := ?_) #[true, true, true, true, true, false, false, false, false, false, false, false, false, false, false, false, false, false, false, false] rfl rfl (any_of HT_.out (by kernel_rfl)) (fun _ _ _ h => h) (Or.inl ⟨by rfl, ?_⟩) ?_ ?_
 rotate_left
 · intro w'
   go_simp
   with_reducible rfl
 rotate_left
 · simp only [Act.put, List.setIfInBounds_toArray, List.set_cons_zero, List.set_cons_succ, i64_w, i32_w]
   rfl
 refine pure_ (i := 5) (N := some 44) (v := ?_) (a' := ?_) #[true, true, true, true, true, true, false, false, false, false, false, false, false, false, false, false, false, false, false, false] rfl rfl (any_of HT_.out (by kernel_rfl)) (fun _ _ _ h => h) (Or.inl ⟨by rfl, ?_⟩) ?_ ?_
 rotate_left
 · intro w'
   go_simp
   with_reducible rfl
 rotate_left
 · simp only [Act.put, List.setIfInBounds_toArray, List.set_cons_zero, List.set_cons_succ, i64_w, i32_w]
   rfl
 refine pure_ (i := 6) (N := some 45) (v := ?_) (a' := ?_) #[true, true, true, true, true, true, true, false, false, false, false, false, false, false, false, false, false, false, false, false] rfl rfl (any_of HT_.out (by kernel_rfl)) (fun _ _ _ h => h) (Or.inl ⟨by rfl, ?_⟩) ?_ ?_
 rotate_left
 · intro w'
   go_simp
   with_reducible rfl
 rotate_left
 · simp only [Act.put, List.setIfInBounds_toArray, List.set_cons_zero, List.set_cons_succ, i64_w, i32_w]
   rfl
 refine pure_ (i := 7) (N := some 46) (v := ?_) (a' := ?_) #[true, true, true, true, true, true, true, true, false, false, false, false, false, false, false, false, false, false, false, false] rfl rfl (any_of HT_.out (by kernel_rfl)) (fun _ _ _ h => h) (Or.inl ⟨by rfl, ?_⟩) ?_ ?_
 rotate_left
 · intro w'
   go_simp
   with_reducible rfl
 rotate_left
 · simp only [Act.put, List.setIfInBounds_toArray, List.set_cons_zero, List.set_cons_succ, i64_w, i32_w]
   rfl
 refine pure_ (i := 8) (N := some 47) (v := ?_) (a' := ?_) #[true, true, true, true, true, true, true, true, true, false, false, false, false, false, false, false, false, false, false, false] rfl rfl (any_of HT_.out (by kernel_rfl)) (fun _ _ _ h => h) (Or.inl ⟨by rfl, ?_⟩) ?_ ?_
 rotate_left
 · intro w'
   go_simp
   with_reducible rfl
 rotate_left
 · simp only [Act.put, List.setIfInBounds_toArray, List.set_cons_zero, List.set_cons_succ, i64_w, i32_w]
   rfl
 refine pure_ (i := 9) (N := some 48) (v := ?_) (a' := ?_) #[true, true, true, true, true, true, true, true, true, true, false, false, false, false, false, false, false, false, false, false] rfl rfl (any_of HT_.out (by kernel_rfl)) (fun _ _ _ h => h) (Or.inl ⟨by rfl, ?_⟩) ?_ ?_
 rotate_left
 · intro w'
   go_simp
   with_reducible rfl
 rotate_left
 · simp only [Act.put, List.setIfInBounds_toArray, List.set_cons_zero, List.set_cons_succ, i64_w, i32_w]
   rfl
 refine pure_ (i := 10) (N := some 49) (v := ?_) (a' := ?_) #[true, true, true, true, true, true, true, true, true, true, true, false, false, false, false, false, false, false, false, false] rfl rfl (any_of HT_.out (by kernel_rfl)) (fun _ _ _ h => h) (Or.inl ⟨by rfl, ?_⟩) ?_ ?_
 rotate_left
 · intro w'
   go_simp
   with_reducible rfl
 rotate_left
 · simp only [Act.put, List.setIfInBounds_toArray, List.set_cons_zero, List.set_cons_succ, i64_w, i32_w]
   rfl
 refine pure_ (i := 11) (N := some 50) (v := ?_) (a' := ?_) #[true, true, true, true, true, true, true, true, true, true, true, true, false, false, false, false, false, false, false, false] rfl rfl (any_of HT_.out (by kernel_rfl)) (fun _ _ _ h => h) (Or.inl ⟨by rfl, ?_⟩) ?_ ?_
 rotate_left
 · intro w'
   go_simp
   with_reducible rfl
 rotate_left
 · simp only [Act.put, List.setIfInBounds_toArray, List.set_cons_zero, List.set_cons_succ, i64_w, i32_w]
   rfl
 refine pure_ (i := 13) (N := some 52) (v := ?_) (a' := ?_) #[true, true, true, true, true, true, true, true, true, true, true, true, false, true, false, false, false, false, false, false] rfl rfl (any_of HT_.out (by kernel_rfl)) (fun _ _ _ h => h) (Or.inl ⟨by rfl, ?_⟩) ?_ ?_
 rotate_left
 · intro w'
   go_simp
   with_reducible rfl
 rotate_left
 · simp only [Act.put, List.setIfInBounds_toArray, List.set_cons_zero, List.set_cons_succ, i64_w, i32_w]
   rfl
 refine pure_ (i := 14) (N := some 53) (v := ?_) (a' := ?_) #[true, true, true, true, true, true, true, true, true, true, true, true, false, true, true, false, false, false, false, false] rfl rfl (any_of HT_.out (by kernel_rfl)) (fun _ _ _ h => h) (Or.inl ⟨by rfl, ?_⟩) ?_ ?_
 rotate_left
 · intro w'
   go_simp
   with_reducible rfl
 rotate_left
 · simp only [Act.put, List.setIfInBounds_toArray, List.set_cons_zero, List.set_cons_succ, i64_w, i32_w]
   rfl
 refine take_ (i := 12) (N := some 51) (v := ?_) (a' := ?_) #[true, true, true, true, true, true, true, true, true, true, true, true, true, true, true, false, false, false, false, false] rfl rfl (take_ofW HT_.out HW_.out (by kernel_rfl)) (fun _ _ _ h => h) (Or.inl ⟨by rfl, ?_⟩) hHeld ?_ ?_
 rotate_left
 · rintro w' ⟨s0, s1, s2, s3, s4, s5, s6⟩
   go_simp
   with_reducible rfl
 rotate_left
 · simp only [Act.put, List.setIfInBounds_toArray, List.set_cons_zero, List.set_cons_succ, i64_w, i32_w]
   rfl
 refine take_ (i := 15) (N := some 54) (v := ?_) (a' := ?_) #[true, true, true, true, true, true, true, true, true, true, true, true, true, true, true, true, false, false, false, false] rfl rfl (take_ofW HT_.out HW_.out (by kernel_rfl)) (fun _ _ _ h => h) (Or.inl ⟨by rfl, ?_⟩) hHeld ?_ ?_
 rotate_left
 · rintro w' ⟨s0, s1, s2, s3, s4, s5, s6⟩
   go_simp
   with_reducible rfl
 rotate_left
 · simp only [Act.put, List.setIfInBounds_toArray, List.set_cons_zero, List.set_cons_succ, i64_w, i32_w]
   rfl
 refine one_ (i := 16) (N := some 55) #[true, true, true, true, true, true, true, true, true, true, true, true, true, true, true, true, true, false, false, false] rfl rfl (one_of HT_.out (by kernel_rfl)) (by decide) (fun K hK => ?_)
 refine goes_ Try.func26 (by kernel_rfl) rfl #[.agg #[.int .i64 x.f0, .int .i64 x.f1, .int .i64 x.f2, .int .i64 x.f3, .int .i64 x.f4, .int .i64 x.f5, .int .i64 x.f6]] (by rfl) rfl rfl (by (try simp only [List.map_toArray, List.map_cons, List.map_nil]); first | done | rfl) ?_
 with_reducible refine (HE _).out.mono ?_
 rintro e w7 ⟨rfl, hb7⟩
 refine ⟨_, rfl, ?_⟩
 have HV7 := Aside0.mk (Kd.R_below HV6.out hb7)
 have hy0 := blk_below hy0 hb7
 have hy1 := blk_below hy1 hb7
 have HB7 := Aside0.mk (below_step HB6.out hb7)
 clear hb7 HV6 HB6
 have hs := (row_open HV7.out i HI.out.1 HI.out.2).1
 rw [← HX.out] at hs
 refine hK.out _ _ hs (fun hHeld => ?_)
 clear hK K hs
 refine norm_ (a' := ?_) ?_ ?_
 rotate_left
 · show Act.put _ (some 55) _ = _
   simp only [Act.put, List.setIfInBounds_toArray, List.set_cons_zero, List.set_cons_succ, i64_w, i32_w]
   rfl
 refine pure_ (i := 17) (N := some 56) (v := ?_) (a' := ?_) #[true, true, true, true, true, true, true, true, true, true, true, true, true, true, true, true, true, true, false, false] rfl rfl (any_of HT_.out (by kernel_rfl)) (fun _ _ _ h => h) (Or.inl ⟨by rfl, ?_⟩) ?_ ?_
 rotate_left
 · intro w'
   go_simp
   with_reducible rfl
 rotate_left
 · simp only [Act.put, List.setIfInBounds_toArray, List.set_cons_zero, List.set_cons_succ, i64_w, i32_w]
   rfl
 refine pure_ (i := 18) (N := some 57) (v := ?_) (a' := ?_) #[true, true, true, true, true, true, true, true, true, true, true, true, true, true, true, true, true, true, true, false] rfl rfl (any_of HT_.out (by kernel_rfl)) (fun _ _ _ h => h) (Or.inl ⟨by rfl, ?_⟩) ?_ ?_
 rotate_left
 · intro w'
   go_simp
   with_reducible rfl
 rotate_left
 · simp only [Act.put, List.setIfInBounds_toArray, List.set_cons_zero, List.set_cons_succ, i64_w, i32_w]
   rfl
 refine pure_ (i := 19) (N := some 58) (v := ?_) (a' := ?_) #[true, true, true, true, true, true, true, true, true, true, true, true, true, true, true, true, true, true, true, true] rfl rfl (any_of HT_.out (by kernel_rfl)) (fun _ _ _ h => h) (Or.inl ⟨by rfl, ?_⟩) ?_ ?_
 rotate_left
 · intro w'
   go_simp
   with_reducible rfl
 rotate_left
 · simp only [Act.put, List.setIfInBounds_toArray, List.set_cons_zero, List.set_cons_succ, i64_w, i32_w]
   rfl
 refine done_ (done_of HT_.out (by kernel_rfl)) ?_
 clear HE
 have c0 : w7.cell? ⟨g1, 0, none⟩ = some (.int .i64 0) := (blk_cell hy1 0).trans rfl
 have c1 : w7.cell? ⟨g1, 1, none⟩ = some (.bool false) := (blk_cell hy1 1).trans rfl
 have c2 : w7.cell? ⟨g1, 2, none⟩ = some (.slice none 0 0) := (blk_cell hy1 2).trans rfl
 have e0 := blk_frozen hy1 0
 have e1 := blk_frozen hy1 1
 have e2 := blk_frozen hy1 2
 go_wp2_with (fail)
 refine bodyPost_ret (results_ct rfl _ _ g1 24 #[.int .i64 0, .bool false, .slice none 0 0] (0, 0) _ rfl (blk_put (cs := #[.int .i64 0, .bool false, .slice none 0 0]) (blk_put (cs := #[.int .i64 0, .bool false, .slice none 0 0]) (blk_put (cs := #[.int .i64 0, .bool false, .slice none 0 0]) hy1 0 _ rfl) 1 _ rfl) 2 _ rfl) Try.underlying24 rfl (by kernel_rfl)) rfl ?_
 exact ⟨_, rfl, Kd.R_nil _ _ _ _ _, below_set (below_set (below_set HB7.out GE1) GE1) GE1⟩
set_option maxHeartbeats 4000000 in
set_option maxRecDepth 100000 in
theorem ct_mid (cap cl : Int) (fin : Bool) (A : Option Addr) (c : Nat) (l : List (S40)) (num : Int) (w : World) (hr : Kd.C k40 w A l.length l) (hc : l.length ≤ c) (hn : ¬ num < 1) (hm : ¬ num > (l.length : Int)) (hl : l.length < 2513169434916) (h5 : (rd_T40 l (num - 1)).f5 = 1) (hla : ¬ num = (l.length : Int)) (h4 : (rd_T40 l (num - 1)).f4 = wrap64 ((rd_T40 l (num - 1)).f2 + (rd_T40 l (num - 1)).f3)) (l' : List S40) (hl' : l' = l.set (num - 1).toNat ⟨(rd_T40 l (num - 1)).f0, (rd_T40 l (num - 1)).f1, (rd_T40 l (num - 1)).f2, (rd_T40 l (num - 1)).f3, (rd_T40 l (num - 1)).f4, 2, (rd_T40 l (num - 1)).f6⟩) (h : toc_Valid.f cap cl fin l = some true) :
 Calls Try.prog 18 #[.int .i64 cap, .agg #[.int .i64 cl, .bool fin, .slice A l.length c], .int .i64 num] w fun e w' => ∃ v2_ : Value, e = .returned (.tuple #[.agg #[.int .i64 cl, .bool fin, v2_], .int .i64 0]) ∧ Kd.R k40 40 w' w.heap.size (fun _ => True) v2_ l' ∧ Below w.heap.size w w' := by
 have hu38 := Try.underlying24
 have hu40 := Try.underlying40
 have HR := Aside0.mk hr
 have HC := Aside0.mk hc
 have HV := Aside0.mk h
 clear hr hc h
 have b1 : decide (num < 1) = false := decide_eq_false hn
 have b2 : decide ((l.length : Int) < num) = false := decide_eq_false hm
 have HCN := Aside0.mk (show toc_clone.f cl fin l = some (cl, fin, l) by simp only [toc_clone.f, api_Track_44.f, if_pos hl, Option.bind])
 obtain ⟨i, hi⟩ : ∃ i, i = num - 1 := ⟨_, rfl⟩
 have hi0 : 0 ≤ i := by omega
 have hi1 : i < (l.length : Int) := by omega
 have HI := Aside0.mk (show 0 ≤ i ∧ i < (l.length : Int) from ⟨hi0, hi1⟩)
 have hwi : wrap64 (num - 1) = i := by unfold wrap64; omega
 rw [← hi] at h5 h4 hl'
 clear hi hn hm hl
 go_enter Try.func18, Try.ntmps18
 go_wp2_with (fail)
 generalize hw0 : (w.alloc _).alloc _ = w0
 obtain ⟨hb0, hb1, hB⟩ := two_new hw0
 obtain ⟨g0, hg0⟩ : ∃ g, w.heap.size = g := ⟨_, rfl⟩
 have GE0 : w.heap.size ≤ g0 := by omega
 rw [hg0] at hb0 hb1 ⊢
 obtain ⟨g1, hg1⟩ : ∃ g, g0 + 1 = g := ⟨_, rfl⟩
 have GE1 : w.heap.size ≤ g1 := by omega
 have hne : g1 ≠ g0 := by omega
 have hne' : g0 ≠ g1 := by omega
 rw [hg1] at hb1 ⊢
 refine (toc_Valid.calls _ _ _ A c l true w0 (Kd.C_below HR.out hB) HC.out HV.out).mono ?_
 rintro e w1 ⟨rfl, hbv⟩
 have hx0 := blk_below hb0 hbv
 have hx1 := blk_below hb1 hbv
 have HB := Aside0.mk (below_step hB hbv)
 have HR1 := Aside0.mk (Kd.C_below HR.out HB.out)
 clear hg0 hg1 hw0 hb0 hb1 hB hbv
 have d0 : w1.cell? ⟨g0, 0, none⟩ = some (.int .i64 cl) := (blk_cell hx0 0).trans rfl
 have d1 : w1.cell? ⟨g0, 1, none⟩ = some (.bool fin) := (blk_cell hx0 1).trans rfl
 have d2 : w1.cell? ⟨g0, 2, none⟩ = some (.slice A l.length c) := (blk_cell hx0 2).trans rfl
 have f0 := blk_frozen hx0 0
 have f1 := blk_frozen hx0 1
 have f2 := blk_frozen hx0 2
 have c0 : w1.cell? ⟨g1, 0, none⟩ = some (.int .i64 0) := (blk_cell hx1 0).trans rfl
 have c1 : w1.cell? ⟨g1, 1, none⟩ = some (.bool false) := (blk_cell hx1 1).trans rfl
 have c2 : w1.cell? ⟨g1, 2, none⟩ = some (.slice none 0 0) := (blk_cell hx1 2).trans rfl
 have e0 := blk_frozen hx1 0
 have e1 := blk_frozen hx1 1
 have e2 := blk_frozen hx1 2
 go_wp2_with (fail)
 refine (toc_clone.calls _ _ A c l _ _ _ w1 HR1.out HC.out HCN.out).mono ?_
 rintro e w4 ⟨v, rfl, hv, hb4⟩
 have HBP := HB
 have hx0 := blk_below hx0 hb4
 have hx1 := blk_below hx1 hb4
 have HB := Aside0.mk (below_step HB.out hb4)
 obtain ⟨A', c', rfl⟩ := Kd.R_slice hv
 have HVV := Aside0.mk (Kd.R_types (Kd.R_types (Kd.R_lower hv (below_size HBP.out)) hx0 (by decide)) hx1 (by decide))
 clear d0 d1 d2 c0 c1 c2 f0 f1 f2 e0 e1 e2 hv hb4 HR1
 have d0 : w4.cell? ⟨g0, 0, none⟩ = some (.int .i64 cl) := (blk_cell hx0 0).trans rfl
 have d1 : w4.cell? ⟨g0, 1, none⟩ = some (.bool fin) := (blk_cell hx0 1).trans rfl
 have d2 : w4.cell? ⟨g0, 2, none⟩ = some (.slice A l.length c) := (blk_cell hx0 2).trans rfl
 have f0 := blk_frozen hx0 0
 have f1 := blk_frozen hx0 1
 have f2 := blk_frozen hx0 2
 have c0 : w4.cell? ⟨g1, 0, none⟩ = some (.int .i64 0) := (blk_cell hx1 0).trans rfl
 have c1 : w4.cell? ⟨g1, 1, none⟩ = some (.bool false) := (blk_cell hx1 1).trans rfl
 have c2 : w4.cell? ⟨g1, 2, none⟩ = some (.slice none 0 0) := (blk_cell hx1 2).trans rfl
 have e0 := blk_frozen hx1 0
 have e1 := blk_frozen hx1 1
 have e2 := blk_frozen hx1 2
 go_simp
 iterate 3 (first | go_values | go_skip | go_guarded | go_step | go_upon | go_back)
 generalize hw5 : ((w4.setCell _ _).setCell _ _).setCell _ _ = w5
 have HB5 := Aside0.mk (show Below w.heap.size w w5 from hw5 ▸ below_set (below_set (below_set HB.out GE0) GE0) GE0)
 have hy0 : w5.heap[g0]? = some (.cells #[.int .i64 cl, .bool fin, .slice A' l.length c'] 24 (0, 0)) := hw5 ▸ blk_put (blk_put (blk_put hx0 0 _ rfl) 1 _ rfl) 2 _ rfl
 have hy1 : w5.heap[g1]? = some (.cells #[.int .i64 0, .bool false, .slice none 0 0] 24 (0, 0)) := hw5 ▸ blk_far (blk_far (blk_far hx1 hne _) hne _) hne _
 have HV5 := Aside0.mk (show Kd.R k40 40 w5 _ _ _ l from hw5 ▸ Kd.R_far (Kd.R_far (Kd.R_far HVV.out (fun _ hk => hk.1.2) _) (fun _ hk => hk.1.2) _) (fun _ hk => hk.1.2) _)
 clear d0 d1 d2 c0 c1 c2 f0 f1 f2 e0 e1 e2 hw5 HB HVV hx0 hx1 HBP
 obtain ⟨go, co, eo, gb, gl, cl', HG⟩ := Kd.R_form HV5.out (by have := HI.out; omega)
 injection eo with ea en ec
 subst ea ec
 clear en
 have HV5 := Aside0.mk (Kd.R_mono HV5.out (fun _ _ => trivial))
 obtain ⟨⟨hr0, hr1, hr2, hr3, hr4, hr5, hr6⟩, q0, q1, q2, q3, q4, q5, q6⟩ := row_open HV5.out i hi0 hi1
 obtain ⟨x, hx⟩ : ∃ x, x = rd_T40 l i := ⟨_, rfl⟩
 rw [← hx] at hr0 hr1 hr2 hr3 hr4 hr5 hr6
 have HX := Aside0.mk hx
 clear q0 q1 q2 q4 q6
 have d0 : w5.cell? ⟨g0, 0, none⟩ = some (.int .i64 cl) := (blk_cell hy0 0).trans rfl
 have d1 : w5.cell? ⟨g0, 1, none⟩ = some (.bool fin) := (blk_cell hy0 1).trans rfl
 have d2 : w5.cell? ⟨g0, 2, none⟩ = some (.slice (some ⟨go, 0, none⟩) l.length c') := (blk_cell hy0 2).trans rfl
 have f0 := blk_frozen hy0 0
 have f1 := blk_frozen hy0 1
 have f2 := blk_frozen hy0 2
 have c0 : w5.cell? ⟨g1, 0, none⟩ = some (.int .i64 0) := (blk_cell hy1 0).trans rfl
 have c1 : w5.cell? ⟨g1, 1, none⟩ = some (.bool false) := (blk_cell hy1 1).trans rfl
 have c2 : w5.cell? ⟨g1, 2, none⟩ = some (.slice none 0 0) := (blk_cell hy1 2).trans rfl
 have e0 := blk_frozen hy1 0
 have e1 := blk_frozen hy1 1
 have e2 := blk_frozen hy1 2
 have g4 : (x.f4 != wrap64 (x.f2 + x.f3)) = false := bne_eq_false_iff_eq.mpr (by rw [hx]; exact h4)
 rw [← hx] at hl'
 have HL := Aside0.mk hl'
 clear h4 hl'
 have g5 : (x.f5 != 1) = false := bne_eq_false_iff_eq.mpr (by rw [hx]; exact h5)
 have g9 : (num == (l.length : Int)) = false := beq_eq_false_iff_ne.mpr hla
 have HE := fun W => Aside0.mk (toc_end.calls x.f0 x.f1 x.f2 x.f3 x.f4 x.f5 x.f6 (wrap64 (x.f2 + x.f3)) W rfl)
 clear h5 hla hx
 go_wp2_with (fail)
 have HS6 := Aside0.mk (And.intro hr0 (And.intro hr1 (And.intro hr2 (And.intro hr3 (And.intro hr4 (And.intro hr5 hr6))))))
 have HV6 := Aside0.mk (Kd.R_drew HV5.out)
 have hy0 := blk_drew hy0
 have hy1 := blk_drew hy1
 have HB6 := Aside0.mk (below_drew1 HB5.out)
 clear HB5 HV5 d0 d1 d2 f0 f1 f2 c0 c1 c2 e0 e1 e2 hr0 hr1 hr2 hr3 hr4 hr5 hr6 q3 q5
 refine start_ (n := 20) (S := fun w' => w'.cell? ⟨go, i.toNat * 7, none⟩ = some (.int .i64 x.f0) ∧ w'.cell? ⟨go, i.toNat * 7 + 1, none⟩ = some (.int .i64 x.f1) ∧ w'.cell? ⟨go, i.toNat * 7 + 2, none⟩ = some (.int .i64 x.f2) ∧ w'.cell? ⟨go, i.toNat * 7 + 3, none⟩ = some (.int .i64 x.f3) ∧ w'.cell? ⟨go, i.toNat * 7 + 4, none⟩ = some (.int .i64 x.f4) ∧ w'.cell? ⟨go, i.toNat * 7 + 5, none⟩ = some (.int .i64 x.f5) ∧ w'.cell? ⟨go, i.toNat * 7 + 6, none⟩ = some (.int .i64 x.f6)) (ds := []) #[false, false, false, false, false, false, false, false, false, false, false, false, false, false, false, false, false, false, false, false] (by kernel_rfl) rfl rfl HS6.out (fun hHeld => ?_); refine with_tabW ct_tab8 ct_bits8 (fun HT_ HW_ => ?_)
 clear HS6
 generalize w5.drew = w6 at HV6 hy0 hy1 HB6 hHeld ⊢
 refine pure_ (i := 0) (N := some 39) (v := ?_) (a' := ?_) #[true, false, false, false, false, false, false, false, false, false, false, false, false, false, false, false, false, false, false, false] rfl rfl (any_of HT_.out (by kernel_rfl)) (fun _ _ _ h => h) (Or.inl ⟨by rfl, ?_⟩) ?_ ?_
 rotate_left
 · intro w'
   go_simp
   with_reducible rfl
 rotate_left
 · simp only [Act.put, List.setIfInBounds_toArray, List.set_cons_zero, List.set_cons_succ, i64_w, i32_w]
   rfl
 refine pure_ (i := 1) (N := some 40) (v := ?_) (a' := ?_) #[true, true, false, false, false, false, false, false, false, false, false, false, false, false, false, false, false, false, false, false] rfl rfl (any_of HT_.out (by kernel_rfl)) (fun _ _ _ h => h) (Or.inl ⟨by rfl, ?_⟩) ?_ ?_
 rotate_left
 · intro w'
   go_simp
   with_reducible rfl
 rotate_left
 · simp only [Act.put, List.setIfInBounds_toArray, List.set_cons_zero, List.set_cons_succ, i64_w, i32_w]
   rfl
 refine pure_ (i := 2) (N := some 41) (v := ?_) (a' := ?_) #[true, true, true, false, false, false, false, false, false, false, false, false, false, false, false, false, false, false, false, false] rfl rfl (any_of HT_.out (by kernel_rfl)) (fun _ _ _ h => h) (Or.inl ⟨by rfl, ?_⟩) ?_ ?_
 rotate_left
 · intro w'
   go_simp
   with_reducible rfl
 rotate_left
 · simp only [Act.put, List.setIfInBounds_toArray, List.set_cons_zero, List.set_cons_succ, i64_w, i32_w]
   rfl
 refine take_ (i := 3) (N := some 42) (v := ?_) (a' := ?_) #[true, true, true, true, false, false, false, false, false, false, false, false, false, false, false, false, false, false, false, false] rfl rfl (take_ofW HT_.out HW_.out (by kernel_rfl)) (fun _ _ _ h => h) (Or.inl ⟨by rfl, ?_⟩) hHeld ?_ ?_
 rotate_left
 · rintro w' ⟨s0, s1, s2, s3, s4, s5, s6⟩
   go_simp
   with_reducible rfl
 rotate_left
 · simp only [Act.put, List.setIfInBounds_toArray, List.set_cons_zero, List.set_cons_succ, i64_w, i32_w]
   rfl
 refine pure_ (i := 4) (N := some 43) (v := ?_) (a' := ?_) #[true, true, true, true, true, false, false, false, false, false, false, false, false, false, false, false, false, false, false, false] rfl rfl (any_of HT_.out (by kernel_rfl)) (fun _ _ _ h => h) (Or.inl ⟨by rfl, ?_⟩) ?_ ?_
 rotate_left
 · intro w'
   go_simp
   with_reducible rfl
 rotate_left
 · simp only [Act.put, List.setIfInBounds_toArray, List.set_cons_zero, List.set_cons_succ, i64_w, i32_w]
   rfl
 refine pure_ (i := 5) (N := some 44) (v := ?_) (a' := ?_) #[true, true, true, true, true, true, false, false, false, false, false, false, false, false, false, false, false, false, false, false] rfl rfl (any_of HT_.out (by kernel_rfl)) (fun _ _ _ h => h) (Or.inl ⟨by rfl, ?_⟩) ?_ ?_
 rotate_left
 · intro w'
   go_simp
   with_reducible rfl
 rotate_left
 · simp only [Act.put, List.setIfInBounds_toArray, List.set_cons_zero, List.set_cons_succ, i64_w, i32_w]
   rfl
 refine pure_ (i := 6) (N := some 45) (v := ?_) (a' := ?_) #[true, true, true, true, true, true, true, false, false, false, false, false, false, false, false, false, false, false, false, false] rfl rfl (any_of HT_.out (by kernel_rfl)) (fun _ _ _ h => h) (Or.inl ⟨by rfl, ?_⟩) ?_ ?_
 rotate_left
 · intro w'
   go_simp
   with_reducible rfl
 rotate_left
 · simp only [Act.put, List.setIfInBounds_toArray, List.set_cons_zero, List.set_cons_succ, i64_w, i32_w]
   rfl
 refine pure_ (i := 7) (N := some 46) (v := ?_) (a' := ?_) #[true, true, true, true, true, true, true, true, false, false, false, false, false, false, false, false, false, false, false, false] rfl rfl (any_of HT_.out (by kernel_rfl)) (fun _ _ _ h => h) (Or.inl ⟨by rfl, ?_⟩) ?_ ?_
 rotate_left
 · intro w'
   go_simp
   with_reducible rfl
 rotate_left
 · simp only [Act.put, List.setIfInBounds_toArray, List.set_cons_zero, List.set_cons_succ, i64_w, i32_w]
   rfl
 refine pure_ (i := 8) (N := some 47) (v := ?_) (a' := ?_) #[true, true, true, true, true, true, true, true, true, false, false, false, false, false, false, false, false, false, false, false] rfl rfl (any_of HT_.out (by kernel_rfl)) (fun _ _ _ h => h) (Or.inl ⟨by rfl, ?_⟩) ?_ ?_
 rotate_left
 · intro w'
   go_simp
   with_reducible rfl
 rotate_left
 · simp only [Act.put, List.setIfInBounds_toArray, List.set_cons_zero, List.set_cons_succ, i64_w, i32_w]
   rfl
 refine pure_ (i := 9) (N := some 48) (v := ?_) (a' := ?_) #[true, true, true, true, true, true, true, true, true, true, false, false, false, false, false, false, false, false, false, false] rfl rfl (any_of HT_.out (by kernel_rfl)) (fun _ _ _ h => h) (Or.inl ⟨by rfl, ?_⟩) ?_ ?_
 rotate_left
 · intro w'
   go_simp
   with_reducible rfl
 rotate_left
 · simp only [Act.put, List.setIfInBounds_toArray, List.set_cons_zero, List.set_cons_succ, i64_w, i32_w]
   rfl
 refine pure_ (i := 10) (N := some 49) (v := ?_) (a' := ?_) #[true, true, true, true, true, true, true, true, true, true, true, false, false, false, false, false, false, false, false, false] rfl rfl (any_of HT_.out (by kernel_rfl)) (fun _ _ _ h => h) (Or.inl ⟨by rfl, ?_⟩) ?_ ?_
 rotate_left
 · intro w'
   go_simp
   with_reducible rfl
 rotate_left
 · simp only [Act.put, List.setIfInBounds_toArray, List.set_cons_zero, List.set_cons_succ, i64_w, i32_w]
   rfl
 refine pure_ (i := 11) (N := some 50) (v := ?_) (a' := ?_) #[true, true, true, true, true, true, true, true, true, true, true, true, false, false, false, false, false, false, false, false] rfl rfl (any_of HT_.out (by kernel_rfl)) (fun _ _ _ h => h) (Or.inl ⟨by rfl, ?_⟩) ?_ ?_
 rotate_left
 · intro w'
   go_simp
   with_reducible rfl
 rotate_left
 · simp only [Act.put, List.setIfInBounds_toArray, List.set_cons_zero, List.set_cons_succ, i64_w, i32_w]
   rfl
 refine pure_ (i := 13) (N := some 52) (v := ?_) (a' := ?_) #[true, true, true, true, true, true, true, true, true, true, true, true, false, true, false, false, false, false, false, false] rfl rfl (any_of HT_.out (by kernel_rfl)) (fun _ _ _ h => h) (Or.inl ⟨by rfl, ?_⟩) ?_ ?_
 rotate_left
 · intro w'
   go_simp
   with_reducible rfl
 rotate_left
 · simp only [Act.put, List.setIfInBounds_toArray, List.set_cons_zero, List.set_cons_succ, i64_w, i32_w]
   rfl
 refine pure_ (i := 14) (N := some 53) (v := ?_) (a' := ?_) #[true, true, true, true, true, true, true, true, true, true, true, true, false, true, true, false, false, false, false, false] rfl rfl (any_of HT_.out (by kernel_rfl)) (fun _ _ _ h => h) (Or.inl ⟨by rfl, ?_⟩) ?_ ?_
 rotate_left
 · intro w'
   go_simp
   with_reducible rfl
 rotate_left
 · simp only [Act.put, List.setIfInBounds_toArray, List.set_cons_zero, List.set_cons_succ, i64_w, i32_w]
   rfl
 refine take_ (i := 12) (N := some 51) (v := ?_) (a' := ?_) #[true, true, true, true, true, true, true, true, true, true, true, true, true, true, true, false, false, false, false, false] rfl rfl (take_ofW HT_.out HW_.out (by kernel_rfl)) (fun _ _ _ h => h) (Or.inl ⟨by rfl, ?_⟩) hHeld ?_ ?_
 rotate_left
 · rintro w' ⟨s0, s1, s2, s3, s4, s5, s6⟩
   go_simp
   with_reducible rfl
 rotate_left
 · simp only [Act.put, List.setIfInBounds_toArray, List.set_cons_zero, List.set_cons_succ, i64_w, i32_w]
   rfl
 refine take_ (i := 15) (N := some 54) (v := ?_) (a' := ?_) #[true, true, true, true, true, true, true, true, true, true, true, true, true, true, true, true, false, false, false, false] rfl rfl (take_ofW HT_.out HW_.out (by kernel_rfl)) (fun _ _ _ h => h) (Or.inl ⟨by rfl, ?_⟩) hHeld ?_ ?_
 rotate_left
 · rintro w' ⟨s0, s1, s2, s3, s4, s5, s6⟩
   go_simp
   with_reducible rfl
 rotate_left
 · simp only [Act.put, List.setIfInBounds_toArray, List.set_cons_zero, List.set_cons_succ, i64_w, i32_w]
   rfl
 refine one_ (i := 16) (N := some 55) #[true, true, true, true, true, true, true, true, true, true, true, true, true, true, true, true, true, false, false, false] rfl rfl (one_of HT_.out (by kernel_rfl)) (by decide) (fun K hK => ?_)
 refine goes_ Try.func26 (by kernel_rfl) rfl #[.agg #[.int .i64 x.f0, .int .i64 x.f1, .int .i64 x.f2, .int .i64 x.f3, .int .i64 x.f4, .int .i64 x.f5, .int .i64 x.f6]] (by rfl) rfl rfl (by (try simp only [List.map_toArray, List.map_cons, List.map_nil]); first | done | rfl) ?_
 with_reducible refine (HE _).out.mono ?_
 rintro e w7 ⟨rfl, hb7⟩
 refine ⟨_, rfl, ?_⟩
 have HV7 := Aside0.mk (Kd.R_below HV6.out hb7)
 have hy0 := blk_below hy0 hb7
 have hy1 := blk_below hy1 hb7
 have HB7 := Aside0.mk (below_step HB6.out hb7)
 clear hb7 HV6 HB6
 have hs := (row_open HV7.out i HI.out.1 HI.out.2).1
 rw [← HX.out] at hs
 refine hK.out _ _ hs (fun hHeld => ?_)
 clear hK K hs
 refine norm_ (a' := ?_) ?_ ?_
 rotate_left
 · show Act.put _ (some 55) _ = _
   simp only [Act.put, List.setIfInBounds_toArray, List.set_cons_zero, List.set_cons_succ, i64_w, i32_w]
   rfl
 refine pure_ (i := 17) (N := some 56) (v := ?_) (a' := ?_) #[true, true, true, true, true, true, true, true, true, true, true, true, true, true, true, true, true, true, false, false] rfl rfl (any_of HT_.out (by kernel_rfl)) (fun _ _ _ h => h) (Or.inl ⟨by rfl, ?_⟩) ?_ ?_
 rotate_left
 · intro w'
   go_simp
   with_reducible rfl
 rotate_left
 · simp only [Act.put, List.setIfInBounds_toArray, List.set_cons_zero, List.set_cons_succ, i64_w, i32_w]
   rfl
 refine pure_ (i := 18) (N := some 57) (v := ?_) (a' := ?_) #[true, true, true, true, true, true, true, true, true, true, true, true, true, true, true, true, true, true, true, false] rfl rfl (any_of HT_.out (by kernel_rfl)) (fun _ _ _ h => h) (Or.inl ⟨by rfl, ?_⟩) ?_ ?_
 rotate_left
 · intro w'
   go_simp
   with_reducible rfl
 rotate_left
 · simp only [Act.put, List.setIfInBounds_toArray, List.set_cons_zero, List.set_cons_succ, i64_w, i32_w]
   rfl
 refine pure_ (i := 19) (N := some 58) (v := ?_) (a' := ?_) #[true, true, true, true, true, true, true, true, true, true, true, true, true, true, true, true, true, true, true, true] rfl rfl (any_of HT_.out (by kernel_rfl)) (fun _ _ _ h => h) (Or.inl ⟨by rfl, ?_⟩) ?_ ?_
 rotate_left
 · intro w'
   go_simp
   with_reducible rfl
 rotate_left
 · simp only [Act.put, List.setIfInBounds_toArray, List.set_cons_zero, List.set_cons_succ, i64_w, i32_w]
   rfl
 refine done_ (done_of HT_.out (by kernel_rfl)) ?_
 clear HE
 have hst := row_set5 HV7.out i HI.out.1 HI.out.2 2
 rw [← HX.out] at hst
 have hq := row_open HV7.out i HI.out.1 HI.out.2
 rw [← HX.out] at hq
 obtain ⟨⟨hr0, hr1, hr2, hr3, hr4, hr5, hr6⟩, q0, q1, q2, q3, q4, q5, q6⟩ := hq
 have N0 := Kd.R_ne HV7.out hy0 (by decide)
 have N1 := Kd.R_ne HV7.out hy1 (by decide)
 have hw8 : ∃ w8, w8 = w7.setCell ⟨go, i.toNat * 7 + 5, none⟩ (.int .i64 2) := ⟨_, rfl⟩
 clear q0 q1 q2 q3 q4 q6
 go_upto_region 11 with (fail)
 obtain ⟨w8, hw8⟩ := hw8
 rw [← hw8] at hst ⊢
 have hy0 := blk_grown hy0 hst.2 N0
 have hy1 := blk_grown hy1 hst.2 N1
 have HV8 := Aside0.mk hst.1
 have HB8 := Aside0.mk (show Below w.heap.size w w8 from hw8 ▸ below_set HB7.out gb)
 clear hst hw8 N0 N1 hr0 hr1 hr2 hr3 hr4 hr5 hr6 q5
 have d0 : w8.cell? ⟨g0, 0, none⟩ = some (.int .i64 cl) := (blk_cell hy0 0).trans rfl
 have d1 : w8.cell? ⟨g0, 1, none⟩ = some (.bool fin) := (blk_cell hy0 1).trans rfl
 have d2 : w8.cell? ⟨g0, 2, none⟩ = some (.slice (some ⟨go, 0, none⟩) l.length c') := (blk_cell hy0 2).trans rfl
 have f0 := blk_frozen hy0 0
 have f1 := blk_frozen hy0 1
 have f2 := blk_frozen hy0 2
 have c0 : w8.cell? ⟨g1, 0, none⟩ = some (.int .i64 0) := (blk_cell hy1 0).trans rfl
 have c1 : w8.cell? ⟨g1, 1, none⟩ = some (.bool false) := (blk_cell hy1 1).trans rfl
 have c2 : w8.cell? ⟨g1, 2, none⟩ = some (.slice none 0 0) := (blk_cell hy1 2).trans rfl
 have e0 := blk_frozen hy1 0
 have e1 := blk_frozen hy1 1
 have e2 := blk_frozen hy1 2
 go_wp2_with (fail)
 rw [← HL.out] at HV8
 refine bodyPost_ret (results_ct rfl _ _ g1 24 #[.int .i64 cl, .bool fin, .slice (some ⟨go, 0, none⟩) l.length c'] (0, 0) _ rfl (blk_put (cs := #[.int .i64 cl, .bool fin, .slice none 0 0]) (blk_put (cs := #[.int .i64 cl, .bool false, .slice none 0 0]) (blk_put (cs := #[.int .i64 0, .bool false, .slice none 0 0]) hy1 0 _ rfl) 1 _ rfl) 2 _ rfl) Try.underlying24 rfl (by kernel_rfl)) rfl ?_
 exact ⟨_, rfl, Kd.R_mono (Kd.R_far (Kd.R_far (Kd.R_far (Kd.R_types HV8.out hy1 (by decide)) (fun _ hk => hk.2) _) (fun _ hk => hk.2) _) (fun _ hk => hk.2) _) (fun _ hk => trivial), below_set (below_set (below_set HB8.out GE1) GE1) GE1⟩
theorem rd_set_self {l : List S40} {i : Int} (y : S40) (h0 : 0 ≤ i) (h1 : i < (l.length : Int)) : rd_T40 (l.set i.toNat y) i = y := by
 unfold rd_T40
 rw [List.getD_eq_getElem?_getD, List.getElem?_set_self (by omega)]
 rfl
set_option maxHeartbeats 4000000 in
set_option maxRecDepth 100000 in
theorem ct_last (cap cl : Int) (fin : Bool) (A : Option Addr) (c : Nat) (l : List (S40)) (w : World) (hr : Kd.C k40 w A l.length l) (hc : l.length ≤ c) (hn : ¬ (l.length : Int) < 1) (hm : ¬ (l.length : Int) > (l.length : Int)) (hl : l.length < 2513169434916) (h5 : (rd_T40 l ((l.length : Int) - 1)).f5 = 1) (l' : List S40) (hl' : l' = l.set ((l.length : Int) - 1).toNat ⟨(rd_T40 l ((l.length : Int) - 1)).f0, (rd_T40 l ((l.length : Int) - 1)).f1, (rd_T40 l ((l.length : Int) - 1)).f2, wrap64 ((rd_T40 l ((l.length : Int) - 1)).f4 - (rd_T40 l ((l.length : Int) - 1)).f2), (rd_T40 l ((l.length : Int) - 1)).f4, 2, (rd_T40 l ((l.length : Int) - 1)).f6⟩) (h : toc_Valid.f cap cl fin l = some true) :
 Calls Try.prog 18 #[.int .i64 cap, .agg #[.int .i64 cl, .bool fin, .slice A l.length c], .int .i64 (l.length : Int)] w fun e w' => ∃ v2_ : Value, e = .returned (.tuple #[.agg #[.int .i64 cl, .bool fin, v2_], .int .i64 0]) ∧ Kd.R k40 40 w' w.heap.size (fun _ => True) v2_ l' ∧ Below w.heap.size w w' := by
 have hu38 := Try.underlying24
 have hu40 := Try.underlying40
 have HR := Aside0.mk hr
 have HC := Aside0.mk hc
 have HV := Aside0.mk h
 clear hr hc h
 have b1 : decide ((l.length : Int) < 1) = false := decide_eq_false hn
 have b2 : decide ((l.length : Int) < (l.length : Int)) = false := decide_eq_false hm
 have HCN := Aside0.mk (show toc_clone.f cl fin l = some (cl, fin, l) by simp only [toc_clone.f, api_Track_44.f, if_pos hl, Option.bind])
 obtain ⟨i, hi⟩ : ∃ i, i = (l.length : Int) - 1 := ⟨_, rfl⟩
 have hi0 : 0 ≤ i := by omega
 have hi1 : i < (l.length : Int) := by omega
 have HI := Aside0.mk (show 0 ≤ i ∧ i < (l.length : Int) from ⟨hi0, hi1⟩)
 have hwi : wrap64 ((l.length : Int) - 1) = i := by unfold wrap64; omega
 rw [← hi] at h5 hl'
 clear hi hn hm hl
 go_enter Try.func18, Try.ntmps18
 go_wp2_with (fail)
 generalize hw0 : (w.alloc _).alloc _ = w0
 obtain ⟨hb0, hb1, hB⟩ := two_new hw0
 obtain ⟨g0, hg0⟩ : ∃ g, w.heap.size = g := ⟨_, rfl⟩
 have GE0 : w.heap.size ≤ g0 := by omega
 rw [hg0] at hb0 hb1 ⊢
 obtain ⟨g1, hg1⟩ : ∃ g, g0 + 1 = g := ⟨_, rfl⟩
 have GE1 : w.heap.size ≤ g1 := by omega
 have hne : g1 ≠ g0 := by omega
 have hne' : g0 ≠ g1 := by omega
 rw [hg1] at hb1 ⊢
 refine (toc_Valid.calls _ _ _ A c l true w0 (Kd.C_below HR.out hB) HC.out HV.out).mono ?_
 rintro e w1 ⟨rfl, hbv⟩
 have hx0 := blk_below hb0 hbv
 have hx1 := blk_below hb1 hbv
 have HB := Aside0.mk (below_step hB hbv)
 have HR1 := Aside0.mk (Kd.C_below HR.out HB.out)
 clear hg0 hg1 hw0 hb0 hb1 hB hbv
 have d0 : w1.cell? ⟨g0, 0, none⟩ = some (.int .i64 cl) := (blk_cell hx0 0).trans rfl
 have d1 : w1.cell? ⟨g0, 1, none⟩ = some (.bool fin) := (blk_cell hx0 1).trans rfl
 have d2 : w1.cell? ⟨g0, 2, none⟩ = some (.slice A l.length c) := (blk_cell hx0 2).trans rfl
 have f0 := blk_frozen hx0 0
 have f1 := blk_frozen hx0 1
 have f2 := blk_frozen hx0 2
 have c0 : w1.cell? ⟨g1, 0, none⟩ = some (.int .i64 0) := (blk_cell hx1 0).trans rfl
 have c1 : w1.cell? ⟨g1, 1, none⟩ = some (.bool false) := (blk_cell hx1 1).trans rfl
 have c2 : w1.cell? ⟨g1, 2, none⟩ = some (.slice none 0 0) := (blk_cell hx1 2).trans rfl
 have e0 := blk_frozen hx1 0
 have e1 := blk_frozen hx1 1
 have e2 := blk_frozen hx1 2
 go_wp2_with (fail)
 refine (toc_clone.calls _ _ A c l _ _ _ w1 HR1.out HC.out HCN.out).mono ?_
 rintro e w4 ⟨v, rfl, hv, hb4⟩
 have HBP := HB
 have hx0 := blk_below hx0 hb4
 have hx1 := blk_below hx1 hb4
 have HB := Aside0.mk (below_step HB.out hb4)
 obtain ⟨A', c', rfl⟩ := Kd.R_slice hv
 have HVV := Aside0.mk (Kd.R_types (Kd.R_types (Kd.R_lower hv (below_size HBP.out)) hx0 (by decide)) hx1 (by decide))
 clear d0 d1 d2 c0 c1 c2 f0 f1 f2 e0 e1 e2 hv hb4 HR1
 have d0 : w4.cell? ⟨g0, 0, none⟩ = some (.int .i64 cl) := (blk_cell hx0 0).trans rfl
 have d1 : w4.cell? ⟨g0, 1, none⟩ = some (.bool fin) := (blk_cell hx0 1).trans rfl
 have d2 : w4.cell? ⟨g0, 2, none⟩ = some (.slice A l.length c) := (blk_cell hx0 2).trans rfl
 have f0 := blk_frozen hx0 0
 have f1 := blk_frozen hx0 1
 have f2 := blk_frozen hx0 2
 have c0 : w4.cell? ⟨g1, 0, none⟩ = some (.int .i64 0) := (blk_cell hx1 0).trans rfl
 have c1 : w4.cell? ⟨g1, 1, none⟩ = some (.bool false) := (blk_cell hx1 1).trans rfl
 have c2 : w4.cell? ⟨g1, 2, none⟩ = some (.slice none 0 0) := (blk_cell hx1 2).trans rfl
 have e0 := blk_frozen hx1 0
 have e1 := blk_frozen hx1 1
 have e2 := blk_frozen hx1 2
 go_simp
 iterate 3 (first | go_values | go_skip | go_guarded | go_step | go_upon | go_back)
 generalize hw5 : ((w4.setCell _ _).setCell _ _).setCell _ _ = w5
 have HB5 := Aside0.mk (show Below w.heap.size w w5 from hw5 ▸ below_set (below_set (below_set HB.out GE0) GE0) GE0)
 have hy0 : w5.heap[g0]? = some (.cells #[.int .i64 cl, .bool fin, .slice A' l.length c'] 24 (0, 0)) := hw5 ▸ blk_put (blk_put (blk_put hx0 0 _ rfl) 1 _ rfl) 2 _ rfl
 have hy1 : w5.heap[g1]? = some (.cells #[.int .i64 0, .bool false, .slice none 0 0] 24 (0, 0)) := hw5 ▸ blk_far (blk_far (blk_far hx1 hne _) hne _) hne _
 have HV5 := Aside0.mk (show Kd.R k40 40 w5 _ _ _ l from hw5 ▸ Kd.R_far (Kd.R_far (Kd.R_far HVV.out (fun _ hk => hk.1.2) _) (fun _ hk => hk.1.2) _) (fun _ hk => hk.1.2) _)
 clear d0 d1 d2 c0 c1 c2 f0 f1 f2 e0 e1 e2 hw5 HB HVV hx0 hx1 HBP
 obtain ⟨go, co, eo, gb, gl, cl', HG⟩ := Kd.R_form HV5.out (by have := HI.out; omega)
 injection eo with ea en ec
 subst ea ec
 clear en
 have HV5 := Aside0.mk (Kd.R_mono HV5.out (fun _ _ => trivial))
 obtain ⟨⟨hr0, hr1, hr2, hr3, hr4, hr5, hr6⟩, q0, q1, q2, q3, q4, q5, q6⟩ := row_open HV5.out i hi0 hi1
 obtain ⟨x, hx⟩ : ∃ x, x = rd_T40 l i := ⟨_, rfl⟩
 rw [← hx] at hr0 hr1 hr2 hr3 hr4 hr5 hr6
 have HX := Aside0.mk hx
 clear q0 q1 q2 q4 q6
 have d0 : w5.cell? ⟨g0, 0, none⟩ = some (.int .i64 cl) := (blk_cell hy0 0).trans rfl
 have d1 : w5.cell? ⟨g0, 1, none⟩ = some (.bool fin) := (blk_cell hy0 1).trans rfl
 have d2 : w5.cell? ⟨g0, 2, none⟩ = some (.slice (some ⟨go, 0, none⟩) l.length c') := (blk_cell hy0 2).trans rfl
 have f0 := blk_frozen hy0 0
 have f1 := blk_frozen hy0 1
 have f2 := blk_frozen hy0 2
 have c0 : w5.cell? ⟨g1, 0, none⟩ = some (.int .i64 0) := (blk_cell hy1 0).trans rfl
 have c1 : w5.cell? ⟨g1, 1, none⟩ = some (.bool false) := (blk_cell hy1 1).trans rfl
 have c2 : w5.cell? ⟨g1, 2, none⟩ = some (.slice none 0 0) := (blk_cell hy1 2).trans rfl
 have e0 := blk_frozen hy1 0
 have e1 := blk_frozen hy1 1
 have e2 := blk_frozen hy1 2
 have g5 : (x.f5 != 1) = false := bne_eq_false_iff_eq.mpr (by rw [hx]; exact h5)
 rw [← hx] at hl'
 have HL := Aside0.mk hl'
 clear h5 hx hl'
 go_wp2_with (fail)
 go_quiet (fail)
 generalize hq : World.drewN w5 _ = w6
 have HV6 := Aside0.mk (show Kd.R k40 40 w6 _ _ _ l from hq ▸ Kd.R_drewN HV5.out _)
 have hy0 : w6.heap[g0]? = _ := hq ▸ blk_drewN hy0 _
 have hy1 : w6.heap[g1]? = _ := hq ▸ blk_drewN hy1 _
 have HB6 := Aside0.mk (show Below w.heap.size w w6 from hq ▸ pw_below_drewN HB5.out _)
 clear HB5 HV5 d0 d1 d2 f0 f1 f2 c0 c1 c2 e0 e1 e2 hr0 hr1 hr2 hr3 hr4 hr5 hr6 q3 q5 hq
 have hst := row_set5 HV6.out i HI.out.1 HI.out.2 2
 rw [← HX.out] at hst
 have hq := row_open HV6.out i HI.out.1 HI.out.2
 rw [← HX.out] at hq
 obtain ⟨⟨hr0, hr1, hr2, hr3, hr4, hr5, hr6⟩, q0, q1, q2, q3, q4, q5, q6⟩ := hq
 have N0 := Kd.R_ne HV6.out hy0 (by decide)
 have N1 := Kd.R_ne HV6.out hy1 (by decide)
 have hw8 : ∃ w8, w8 = w6.setCell ⟨go, i.toNat * 7 + 5, none⟩ (.int .i64 2) := ⟨_, rfl⟩
 clear q0 q1 q2 q3 q4 q6
 go_upto_region 11 with (fail)
 obtain ⟨w8, hw8⟩ := hw8
 rw [← hw8] at hst ⊢
 have hy0 := blk_grown hy0 hst.2 N0
 have hy1 := blk_grown hy1 hst.2 N1
 have HV8 := Aside0.mk hst.1
 have HB8 := Aside0.mk (show Below w.heap.size w w8 from hw8 ▸ below_set HB6.out gb)
 clear hst hw8 N0 N1 hr0 hr1 hr2 hr3 hr4 hr5 hr6 q5
 have d0 : w8.cell? ⟨g0, 0, none⟩ = some (.int .i64 cl) := (blk_cell hy0 0).trans rfl
 have d1 : w8.cell? ⟨g0, 1, none⟩ = some (.bool fin) := (blk_cell hy0 1).trans rfl
 have d2 : w8.cell? ⟨g0, 2, none⟩ = some (.slice (some ⟨go, 0, none⟩) l.length c') := (blk_cell hy0 2).trans rfl
 have f0 := blk_frozen hy0 0
 have f1 := blk_frozen hy0 1
 have f2 := blk_frozen hy0 2
 have c0 : w8.cell? ⟨g1, 0, none⟩ = some (.int .i64 0) := (blk_cell hy1 0).trans rfl
 have c1 : w8.cell? ⟨g1, 1, none⟩ = some (.bool false) := (blk_cell hy1 1).trans rfl
 have c2 : w8.cell? ⟨g1, 2, none⟩ = some (.slice none 0 0) := (blk_cell hy1 2).trans rfl
 have e0 := blk_frozen hy1 0
 have e1 := blk_frozen hy1 1
 have e2 := blk_frozen hy1 2
 obtain ⟨l2, hl2⟩ : ∃ l2, l2 = l.set i.toNat ⟨x.f0, x.f1, x.f2, x.f3, x.f4, 2, x.f6⟩ := ⟨_, rfl⟩
 rw [← hl2] at HV8
 have hx2 : rd_T40 l2 i = ⟨x.f0, x.f1, x.f2, x.f3, x.f4, 2, x.f6⟩ := by rw [hl2]; exact rd_set_self _ HI.out.1 HI.out.2
 have HX2 := Aside0.mk hx2
 have HL2 := Aside0.mk hl2
 clear hx2 hl2
 go_wp2_with (fail)
 have hq := row_open (Kd.R_drew HV8.out) i HI.out.1 HI.out.2
 rw [HX2.out] at hq
 obtain ⟨⟨hr0, hr1, hr2, hr3, hr4, hr5, hr6⟩, q0, q1, q2, q3, q4, q5, q6⟩ := hq
 dsimp only at hr0 hr1 hr2 hr3 hr4 hr5 hr6
 have HV9 := Aside0.mk (Kd.R_drew HV8.out)
 have hy0 := blk_drew hy0
 have hy1 := blk_drew hy1
 have HB9 := Aside0.mk (below_drew1 HB8.out)
 clear HB8 HV8 d0 d1 d2 f0 f1 f2 c0 c1 c2 e0 e1 e2 q0 q1 q2 q4 q5 q6
 refine wp_region_still_tail 12 (by kernel_rfl) (by kernel_rfl) ?_
 change wpStill _ _ w8.drew (fun a' => wpList _ _ _ _ a' w8.drew) _ _
 simp only [List.take_succ_cons, List.take_zero, List.drop_succ_cons, List.drop_zero]
 generalize w8.drew = w9 at HV9 hy0 hy1 HB9 hr0 hr1 hr2 hr3 hr4 hr5 hr6 q3 ⊢
 iterate 12 still_step
 refine wpStill_nil ?_
 have hst := row_set3 HV9.out i HI.out.1 HI.out.2 (wrap64 (x.f4 - x.f2))
 rw [HX2.out] at hst
 have N0 := Kd.R_ne HV9.out hy0 (by decide)
 have N1 := Kd.R_ne HV9.out hy1 (by decide)
 have hw10 : ∃ w10, w10 = w9.setCell ⟨go, i.toNat * 7 + 3, none⟩ (.int .i64 (wrap64 (x.f4 - x.f2))) := ⟨_, rfl⟩
 go_upto_region 13 with (fail)
 obtain ⟨w10, hw10⟩ := hw10
 rw [← hw10] at hst ⊢
 have hy0 := blk_grown hy0 hst.2 N0
 have hy1 := blk_grown hy1 hst.2 N1
 have HV10 := Aside0.mk hst.1
 have HB10 := Aside0.mk (show Below w.heap.size w w10 from hw10 ▸ below_set HB9.out gb)
 clear hst hw10 N0 N1 hr0 hr1 hr2 hr3 hr4 hr5 hr6 q3 HV9 HB9
 have d0 : w10.cell? ⟨g0, 0, none⟩ = some (.int .i64 cl) := (blk_cell hy0 0).trans rfl
 have d1 : w10.cell? ⟨g0, 1, none⟩ = some (.bool fin) := (blk_cell hy0 1).trans rfl
 have d2 : w10.cell? ⟨g0, 2, none⟩ = some (.slice (some ⟨go, 0, none⟩) l.length c') := (blk_cell hy0 2).trans rfl
 have f0 := blk_frozen hy0 0
 have f1 := blk_frozen hy0 1
 have f2 := blk_frozen hy0 2
 have c0 : w10.cell? ⟨g1, 0, none⟩ = some (.int .i64 0) := (blk_cell hy1 0).trans rfl
 have c1 : w10.cell? ⟨g1, 1, none⟩ = some (.bool false) := (blk_cell hy1 1).trans rfl
 have c2 : w10.cell? ⟨g1, 2, none⟩ = some (.slice none 0 0) := (blk_cell hy1 2).trans rfl
 have e0 := blk_frozen hy1 0
 have e1 := blk_frozen hy1 1
 have e2 := blk_frozen hy1 2
 go_wp2_with (fail)
 have HV11 := Aside0.mk (show Kd.R k40 40 w10 w.heap.size (fun _ => True) (.slice (some ⟨go, 0, none⟩) l.length c') l' from by
  have := HV10.out
  rw [HL2.out, List.set_set] at this
  rw [HL.out]; exact this)
 refine bodyPost_ret (results_ct rfl _ _ g1 24 #[.int .i64 cl, .bool fin, .slice (some ⟨go, 0, none⟩) l.length c'] (0, 0) _ rfl (blk_put (cs := #[.int .i64 cl, .bool fin, .slice none 0 0]) (blk_put (cs := #[.int .i64 cl, .bool false, .slice none 0 0]) (blk_put (cs := #[.int .i64 0, .bool false, .slice none 0 0]) hy1 0 _ rfl) 1 _ rfl) 2 _ rfl) Try.underlying24 rfl (by kernel_rfl)) rfl ?_
 exact ⟨_, rfl, Kd.R_mono (Kd.R_far (Kd.R_far (Kd.R_far (Kd.R_types HV11.out hy1 (by decide)) (fun _ hk => hk.2) _) (fun _ hk => hk.2) _) (fun _ hk => hk.2) _) (fun _ hk => trivial), below_set (below_set (below_set HB10.out GE1) GE1) GE1⟩
theorem toc_CloseTrack.calls (a0 a1_0 : Int) (a1_1 : Bool) (A1_2 : Option Addr) (c1_2 : Nat) (l1_2 : List (S40)) (a2 : Int) (r1 : Int) (r2 : Bool) (r3 : List (S40)) (r4 : Int) (w : World) (hr1_2 : Kd.C k40 w A1_2 l1_2.length l1_2) (hc1_2 : l1_2.length ≤ c1_2) (h : toc_CloseTrack.f a0 a1_0 a1_1 l1_2 a2 = some (r1, r2, r3, r4)) :
 Calls Try.prog 18 #[.int .i64 a0, .agg #[.int .i64 a1_0, .bool a1_1, .slice A1_2 l1_2.length c1_2], .int .i64 a2] w fun e w' => ∃ v3_ : Value, e = .returned (.tuple #[.agg #[.int .i64 r1, .bool r2, v3_], .int .i64 r4]) ∧ Kd.R k40 40 w' w.heap.size (fun _ => True) v3_ r3 ∧ Below w.heap.size w w' := by
 unfold toc_CloseTrack.f at h
 obtain ⟨v, hv, h⟩ := Option.bind_eq_some_iff.mp h
 cases v with
 | false => cases h; exact ct_inv a0 a1_0 a1_1 A1_2 c1_2 l1_2 a2 w hr1_2 hc1_2 hv
 | true =>
  rw [if_pos rfl] at h
  by_cases hn : a2 < 1
  · rw [if_pos (Or.inl hn)] at h; cases h; exact ct_nf1 a0 a1_0 a1_1 A1_2 c1_2 l1_2 a2 w hr1_2 hc1_2 hn hv
  · by_cases hm : a2 > (l1_2.length : Int)
    · rw [if_pos (Or.inr hm)] at h; cases h; exact ct_nf2 a0 a1_0 a1_1 A1_2 c1_2 l1_2 a2 w hr1_2 hc1_2 hn hm hv
    · rw [if_neg (by omega)] at h
      by_cases hl : l1_2.length < 2513169434916
      · rw [if_pos hl] at h
        by_cases h5 : (rd_T40 l1_2 (a2 - 1)).f5 = 1
        · by_cases hla : a2 = (l1_2.length : Int)
          · have hL : ctLast l1_2 (a2 - 1) = true := decide_eq_true (by omega)
            have hok : ctOk l1_2 (a2 - 1) = true := by unfold ctOk; rw [hL, h5]; rfl
            rw [if_pos hok] at h
            simp only [ctNew, hL, if_true] at h
            cases h
            subst hla; exact ct_last a0 a1_0 a1_1 A1_2 c1_2 l1_2 w hr1_2 hc1_2 hn hm hl h5 _ rfl hv
          · have hL : ctLast l1_2 (a2 - 1) = false := decide_eq_false (by omega)
            by_cases h4 : (rd_T40 l1_2 (a2 - 1)).f4 = wrap64 ((rd_T40 l1_2 (a2 - 1)).f2 + (rd_T40 l1_2 (a2 - 1)).f3)
            · have hok : ctOk l1_2 (a2 - 1) = true := by unfold ctOk; rw [hL, h5, ← h4]; simp
              rw [if_pos hok] at h
              simp only [ctNew, hL, Bool.false_eq_true, if_false] at h
              cases h
              exact ct_mid a0 a1_0 a1_1 A1_2 c1_2 l1_2 a2 w hr1_2 hc1_2 hn hm hl h5 hla h4 _ rfl hv
            · have hok : ctOk l1_2 (a2 - 1) = false := by unfold ctOk; rw [hL, beq_eq_false_iff_ne.mpr h4]; simp
              rw [hok, if_neg (by decide)] at h
              cases h
              exact ct_st2 a0 a1_0 a1_1 A1_2 c1_2 l1_2 a2 w hr1_2 hc1_2 hn hm hl h5 hla h4 hv
        · have hok : ctOk l1_2 (a2 - 1) = false := by unfold ctOk; rw [beq_eq_false_iff_ne.mpr h5]; rfl
          rw [hok, if_neg (by decide)] at h
          cases h
          exact ct_st1 a0 a1_0 a1_1 A1_2 c1_2 l1_2 a2 w hr1_2 hc1_2 hn hm hl h5 hv
      · rw [if_neg hl] at h; cases h
end Go.Proofs.Ytjhepdcdhabcjaa.G
namespace Go.Proofs.Ytjhepdcdhabcjaa.G
open Go.RowKit Go.Proofs.YtjhepdcdhabcjaaW.PrintWords Go.Proofs.YtjhepdcdhabcjaaW.PrintLast Go.Proofs.YtjhepdcdhabcjaaW.PrintMore
set_option linter.unusedVariables false
def idxP (p : S40 → Bool) (l : List (S40)) : Nat → Nat → Int
 | 0, _ => -1
 | d + 1, i => if p (rd_T40 l (i : Int)) = true then (i : Int) else idxP p l d (i + 1)
def FnAt (p : S40 → Bool) (g : Nat) (lb : Array Value) (w : World) : Prop :=
 (∀ args w, (callFunc g args).run Try.prog w = .ok (.enter g args) w) ∧
  ∀ (x : S40) (W : World), Below w.heap.size w W → Calls Try.prog g (#[.agg #[.int .i64 x.f0, .int .i64 x.f1, .int .i64 x.f2, .int .i64 x.f3, .int .i64 x.f4, .int .i64 x.f5, .int .i64 x.f6]] ++ lb) W fun e w' => e = .returned (.bool (p x)) ∧ Below W.heap.size W w'
set_option maxHeartbeats 1000000 in
set_option maxRecDepth 100000 in
theorem indexFunc_any (p : S40 → Bool) (g : Nat) (lb : Array Value) (A : Option Addr) (c : Nat) (l : List (S40)) (w : World) (hr : Kd.C k40 w A l.length l) (hp : FnAt p g lb w) :
 Calls Try.prog 45 #[.slice A l.length c, .func (.func g) #[] lb] w fun e w' => e = .returned (.int .i64 (idxP p l l.length 0)) ∧ Below w.heap.size w w' := by
 have heg := hp.1
 have HP := Aside0.mk hp.2
 have HM := Kd.C_max hr
 have HR := Aside0.mk hr
 obtain ⟨R, hR⟩ : ∃ R, idxP p l l.length 0 = R := ⟨_, rfl⟩
 rw [hR]
 have HRR := Aside0.mk hR
 clear hp hr hR
 go_enter Try.func45, Try.ntmps45
 go_wp2_with (fail)
 go_loopg [8] l.length (fun gk v8 wr => ∃ i : Nat, i ≤ l.length ∧ l.length - i ≤ gk ∧ v8 = .int .i64 i ∧ Aside0 (idxP p l (l.length - i) i = R) ∧ Aside0 (Below w.heap.size w wr))
 case atStart => exact ⟨0, Nat.zero_le _, by omega, rfl, by rw [Nat.sub_zero]; exact HRR, ⟨Below.refl _ _⟩⟩
 case round =>
  obtain ⟨i, hi, hg, rfl, HV, HB⟩ := hrel
  by_cases hlt : i < l.length
  · have hltz : (i : Int) < (l.length : Int) := by omega
    have hi0 : 0 ≤ (i : Int) := by omega
    obtain ⟨ad, rfl, hx0, hx1, hx2, hx3, hx4, hx5, hx6⟩ := at_T40 (Kd.C_below HR.out HB.out) (i : Int) hi0 hltz
    rw [Int.toNat_natCast] at hx0 hx1 hx2 hx3 hx4 hx5 hx6
    obtain ⟨x, hx⟩ : ∃ x, x = rd_T40 l (i : Int) := ⟨_, rfl⟩
    rw [← hx] at hx0 hx1 hx2 hx3 hx4 hx5 hx6
    have HX := Aside0.mk hx
    have HCALL := Aside0.mk (HP.out x wr HB.out)
    have hv := HV.out
    rw [show l.length - i = (l.length - (i + 1)) + 1 by omega] at hv
    simp only [idxP] at hv
    rw [← hx] at hv
    obtain ⟨b, hb⟩ : ∃ b, b = p x := ⟨_, rfl⟩
    rw [← hb] at HCALL hv
    have HV2 := Aside0.mk hv
    clear hx hv hb HV
    cases b with
    | true =>
     go_wp2_with (fail)
     refine HCALL.out.mono ?_
     rintro e wk ⟨rfl, hbk⟩
     go_wp2_with (fail)
     go_ret
     have := HV2.out
     rw [if_pos trivial] at this
     exact ⟨by rw [← this]; rfl, below_step HB.out hbk⟩
    | false =>
     go_wp2_with (fail)
     refine HCALL.out.mono ?_
     rintro e wk ⟨rfl, hbk⟩
     go_wp2_with (fail)
     go_roundg (l.length - (i + 1))
     case measure => omega
     case rel =>
      have := HV2.out
      rw [if_neg (by decide)] at this
      exact ⟨i + 1, by omega, by omega, by go_num, ⟨this⟩, ⟨below_step HB.out hbk⟩⟩
  · have hltz : ¬ (i : Int) < (l.length : Int) := by omega
    have hv := HV.out
    rw [show l.length - i = 0 by omega] at hv
    have HV2 := Aside0.mk hv
    clear hv HV
    go_wp2_with (fail)
    go_ret
    exact ⟨by rw [← HV2.out]; rfl, HB.out⟩
theorem idxP_any (p : S40 → Bool) (l : List (S40)) (d : Nat) : ∀ i, l.length - i = d → i ≤ l.length → decide (0 ≤ idxP p l d i) = (l.drop i).any p := by
 induction d with
 | zero =>
  intro i hd hi
  rw [List.drop_eq_nil_of_le (by omega)]
  rfl
 | succ d ih =>
  intro i hd hi
  have hlt : i < l.length := by omega
  have e : rd_T40 l (i : Int) = l[i] := by simp [rd_T40, List.getD_eq_getElem?_getD, List.getElem?_eq_getElem hlt]
  have key : idxP p l (d + 1) i = if p l[i] = true then (i : Int) else idxP p l d (i + 1) := by
   simp only [idxP]
   rw [e]
  rw [key, List.drop_eq_getElem_cons hlt, List.any_cons, ← ih (i + 1) (by omega) (by omega)]
  cases p l[i] with
  | true => rw [if_pos rfl]; simp
  | false => rw [if_neg (by decide), Bool.false_or]
theorem containsFunc_any (p : S40 → Bool) (g : Nat) (lb : Array Value) (A : Option Addr) (c : Nat) (l : List (S40)) (w : World) (hr : Kd.C k40 w A l.length l) (hp : FnAt p g lb w) :
 Calls Try.prog 30 #[.slice A l.length c, .func (.func g) #[] lb] w fun e w' => e = .returned (.bool (l.any p)) ∧ Below w.heap.size w w' := by
 have HC := Aside0.mk (indexFunc_any p g lb A c l w hr hp)
 have he := idxP_any p l l.length 0 (by omega) (by omega)
 rw [List.drop_zero] at he
 have HE := Aside0.mk he
 clear hr hp he
 go_enter Try.func30, Try.ntmps30
 go_wp2_with (fail)
 refine HC.out.mono ?_
 rintro e wk ⟨rfl, hbk⟩
 go_wp2_with (fail)
 go_ret
 exact ⟨by rw [← HE.out]; rfl, hbk⟩
end Go.Proofs.Ytjhepdcdhabcjaa.G
namespace Go.Proofs.Ytjhepdcdhabcjaa.G
open Go.RowKit Go.Proofs.YtjhepdcdhabcjaaW.PrintWords Go.Proofs.YtjhepdcdhabcjaaW.PrintLast Go.Proofs.YtjhepdcdhabcjaaW.PrintMore
attribute [local go_sem] max2_int min2_int max_two min_two max_three min_three max_four min_four   -- for this text's walks alone
set_option linter.unusedVariables false
set_option linter.unusedSimpArgs false
def toc_CloseSession_2.f (a0_0 : Int) (a0_1 : Int) (a0_2 : Int) (a0_3 : Int) (a0_4 : Int) (a0_5 : Int) (a0_6 : Int) : Option (Bool) := some (a0_5 != 2)
set_option maxHeartbeats 8000000 in
set_option maxRecDepth 100000 in
theorem toc_CloseSession_2.calls (a0_0 : Int) (a0_1 : Int) (a0_2 : Int) (a0_3 : Int) (a0_4 : Int) (a0_5 : Int) (a0_6 : Int) (r : Bool) (w : World) (h : toc_CloseSession_2.f a0_0 a0_1 a0_2 a0_3 a0_4 a0_5 a0_6 = some r) :
 Calls Try.prog 32 #[.agg #[.int .i64 a0_0, .int .i64 a0_1, .int .i64 a0_2, .int .i64 a0_3, .int .i64 a0_4, .int .i64 a0_5, .int .i64 a0_6]] w fun e w' => e = .returned (.bool r) ∧ Below w.heap.size w w' := by
 have hu40 := Try.underlying40
 have HB := Aside0.mk (Below.refl w.heap.size w)
 have H : (some (a0_5 != 2)) = some r := h
 clear h
 obtain rfl := Option.some.inj H
 go_enter Try.func32, Try.ntmps32
 go_wp2_with (first | ((with_reducible refine gate_dst (N := 1) rfl ?_); refine box_event ?hg (N := 1) ?hd (cs := #[.int .i64 a0_0, .int .i64 a0_1, .int .i64 a0_2, .int .i64 a0_3, .int .i64 a0_4, .int .i64 a0_5, .int .i64 a0_6]) (t := 40) ?hr ?_; (case hd => rfl); (case hg => rfl); (case hr => first | (go_simp; done) | (go_simp; rfl)); intro gb416 hg w2 hbox hb; have n0_ := Aside0.mk (below_step (by repeat (first | (with_reducible first | exact HB.out | apply below_alloc | apply pw_below_drewN | apply below_drew1) | exact HB.out)) hb); have n1_ := Aside0.mk (hbox); have n2_ := Aside0.mk ((by rw [hg]; exact (below_size (by repeat (first | (with_reducible first | exact HB.out | apply below_alloc | apply pw_below_drewN | apply below_drew1) | exact HB.out))) : w.heap.size ≤ gb416)); have n3_ := Aside0.mk ((by rw [hg]; exact (below_size (by repeat (first | (with_reducible first | exact HB.out | apply below_alloc | apply pw_below_drewN | apply below_drew1) | exact HB.out))) : w.heap.size ≤ gb416)); clear HB; have HB := n0_; have BK416 := n1_; have GW416 := n2_; have GE416 := n3_; clear n0_ n1_ n2_ n3_; clear hb hbox hg; obtain ⟨hcz3_0, hcz3_1, hcz3_2, hcz3_3, hcz3_4, hcz3_5, hcz3_6⟩ := cel7 BK416.out; obtain ⟨hfz3_0, hfz3_1, hfz3_2, hfz3_3, hfz3_4, hfz3_5, hfz3_6⟩ := frz7 BK416.out))
 go_ret
 exact ⟨by first | rfl | (simp [errW_none, errW_some] <;> rfl) | (simp [*, errW_none, errW_some] <;> rfl), by repeat (first | (with_reducible first | exact HB.out | apply below_alloc | apply pw_below_drewN | apply below_drew1 | refine below_set ?_ GE416.out) | exact HB.out)⟩
end Go.Proofs.Ytjhepdcdhabcjaa.G
namespace Go.Proofs.Ytjhepdcdhabcjaa.G
open Go.RowKit Go.Proofs.YtjhepdcdhabcjaaW.PrintWords Go.Proofs.YtjhepdcdhabcjaaW.PrintLast Go.Proofs.YtjhepdcdhabcjaaW.PrintMore
set_option linter.unusedVariables false
def openB (cl : Int) (x : S40) : Bool := decide (cl < x.f1)
def unfB (x : S40) : Bool := x.f5 != 2
def csOk (cl : Int) (fz : Bool) (l : List (S40)) : Bool := !(l.any unfB) && (l.any (openB cl) || (fz && !(cl == 0)))
def toc_CloseSession.f (a0 : Int) (a1_0 : Int) (a1_1 : Bool) (l1_2 : List (S40)) (a2 : Bool) : Option (Int × Bool × (List (S40)) × Int) :=
 (toc_Valid.f a0 a1_0 a1_1 l1_2).bind fun v => if v = true then
  (if a1_1 = true then some (0, false, [], 15) else if csOk a1_0 a2 l1_2 = true then
   (if l1_2.length < 2513169434916 then some (if l1_2.any (openB a1_0) = true then a1_0 + 1 else a1_0, a2, l1_2, 0) else none) else some (0, false, [], 8)) else some (0, false, [], 1)
theorem cs1 (cl : Int) (B : Nat) (w : World) (hc : w.cell? ⟨B, 0, none⟩ = some (.int .i64 cl)) : FnAt (openB cl) 31 #[.pointer (some ⟨B, 0, none⟩)] w := by
 refine ⟨enters_of_ Try.func31 (by kernel_rfl) rfl, fun x W hW => ?_⟩
 have hcW := (hW.cell (World.block_lt_of_cell? w _ hc)).trans hc
 have hca := cell_box hcW
 have hbl := Aside0.mk (below_one W)
 show Calls Try.prog 31 #[.agg #[.int .i64 x.f0, .int .i64 x.f1, .int .i64 x.f2, .int .i64 x.f3, .int .i64 x.f4, .int .i64 x.f5, .int .i64 x.f6], .pointer (some ⟨B, 0, none⟩)] W _
 clear hc hW hcW
 go_enter Try.func31, Try.ntmps31
 go_wp2
 go_ret
 exact ⟨by simp [openB], hbl.out _⟩
theorem cs2 (w : World) : FnAt unfB 32 #[] w := by
 refine ⟨enters_of_ Try.func32 (by kernel_rfl) rfl, fun x W hW => ?_⟩
 exact toc_CloseSession_2.calls x.f0 x.f1 x.f2 x.f3 x.f4 x.f5 x.f6 _ W rfl
set_option maxHeartbeats 400000 in
set_option maxRecDepth 100000 in
theorem cs_inv (cap cl : Int) (fin : Bool) (A : Option Addr) (c : Nat) (l : List (S40)) (fz : Bool) (w : World) (hr : Kd.C k40 w A l.length l) (hc : l.length ≤ c) (h : toc_Valid.f cap cl fin l = some false) :
 Calls Try.prog 19 #[.int .i64 cap, .agg #[.int .i64 cl, .bool fin, .slice A l.length c], .bool fz] w fun e w' => ∃ v2_ : Value, e = .returned (.tuple #[.agg #[.int .i64 0, .bool false, v2_], .int .i64 1]) ∧ Kd.R k40 40 w' w.heap.size (fun _ => True) v2_ [] ∧ Below w.heap.size w w' := by
 have hu38 := Try.underlying24
 have HR := Aside0.mk hr
 have HC := Aside0.mk hc
 have HV := Aside0.mk h
 have hmf : ∀ (fn : Fn) (first cap : Array Value) (w : World), (Instr.makeFunc fn first cap).run Try.prog w = .ok (.func fn first cap) w := fun _ _ _ _ => rfl
 clear hr hc h
 go_enter Try.func19, Try.ntmps19
 go_wp2_with (fail)
 generalize hw0 : (w.alloc _).alloc _ = w0
 obtain ⟨hb0, hb1, hB⟩ := two_new hw0
 refine (toc_Valid.calls _ _ _ A c l false w0 (Kd.C_below HR.out hB) HC.out HV.out).mono ?_
 rintro e w1 ⟨rfl, hbv⟩
 have hx0 := blk_below hb0 hbv
 have hx1 := blk_below hb1 hbv
 have HB := Aside0.mk (below_step hB hbv)
 have c0 := (blk_cell hx1 0).trans rfl
 have c1 := (blk_cell hx1 1).trans rfl
 have c2 := (blk_cell hx1 2).trans rfl
 have f0 := blk_frozen hx1 0
 have f1 := blk_frozen hx1 1
 have f2 := blk_frozen hx1 2
 go_wp2_with (fail)
 refine bodyPost_ret (results_ct rfl _ _ (w.heap.size + 1) 24 #[.int .i64 0, .bool false, .slice none 0 0] (0, 0) _ rfl (blk_put (cs := #[.int .i64 0, .bool false, .slice none 0 0]) (blk_put (cs := #[.int .i64 0, .bool false, .slice none 0 0]) (blk_put (cs := #[.int .i64 0, .bool false, .slice none 0 0]) hx1 0 _ rfl) 1 _ rfl) 2 _ rfl) Try.underlying24 rfl (by kernel_rfl)) rfl ?_
 exact ⟨_, rfl, Kd.R_nil _ _ _ _ _, below_set (below_set (below_set HB.out (by omega)) (by omega)) (by omega)⟩
set_option maxHeartbeats 400000 in
set_option maxRecDepth 100000 in
theorem cs_fin (cap cl : Int) (fin : Bool) (A : Option Addr) (c : Nat) (l : List (S40)) (fz : Bool) (w : World) (hr : Kd.C k40 w A l.length l) (hc : l.length ≤ c) (hf : fin = true) (h : toc_Valid.f cap cl fin l = some true) :
 Calls Try.prog 19 #[.int .i64 cap, .agg #[.int .i64 cl, .bool fin, .slice A l.length c], .bool fz] w fun e w' => ∃ v2_ : Value, e = .returned (.tuple #[.agg #[.int .i64 0, .bool false, v2_], .int .i64 15]) ∧ Kd.R k40 40 w' w.heap.size (fun _ => True) v2_ [] ∧ Below w.heap.size w w' := by
 have hu38 := Try.underlying24
 have HR := Aside0.mk hr
 have HC := Aside0.mk hc
 have HV := Aside0.mk h
 have hmf : ∀ (fn : Fn) (first cap : Array Value) (w : World), (Instr.makeFunc fn first cap).run Try.prog w = .ok (.func fn first cap) w := fun _ _ _ _ => rfl
 clear hr hc h
 subst hf
 go_enter Try.func19, Try.ntmps19
 go_wp2_with (fail)
 generalize hw0 : (w.alloc _).alloc _ = w0
 obtain ⟨hb0, hb1, hB⟩ := two_new hw0
 refine (toc_Valid.calls _ _ _ A c l true w0 (Kd.C_below HR.out hB) HC.out HV.out).mono ?_
 rintro e w1 ⟨rfl, hbv⟩
 have hx0 := blk_below hb0 hbv
 have hx1 := blk_below hb1 hbv
 have HB := Aside0.mk (below_step hB hbv)
 have c0 := (blk_cell hx1 0).trans rfl
 have c1 := (blk_cell hx1 1).trans rfl
 have c2 := (blk_cell hx1 2).trans rfl
 have f0 := blk_frozen hx1 0
 have f1 := blk_frozen hx1 1
 have f2 := blk_frozen hx1 2
 have d0 := (blk_cell hx0 0).trans rfl
 have d1 := (blk_cell hx0 1).trans rfl
 have d2 := (blk_cell hx0 2).trans rfl
 go_wp2_with (fail)
 refine bodyPost_ret (results_ct rfl _ _ (w.heap.size + 1) 24 #[.int .i64 0, .bool false, .slice none 0 0] (0, 0) _ rfl (blk_put (cs := #[.int .i64 0, .bool false, .slice none 0 0]) (blk_put (cs := #[.int .i64 0, .bool false, .slice none 0 0]) (blk_put (cs := #[.int .i64 0, .bool false, .slice none 0 0]) hx1 0 _ rfl) 1 _ rfl) 2 _ rfl) Try.underlying24 rfl (by kernel_rfl)) rfl ?_
 exact ⟨_, rfl, Kd.R_nil _ _ _ _ _, below_set (below_set (below_set HB.out (by omega)) (by omega)) (by omega)⟩
set_option maxHeartbeats 400000 in
set_option maxRecDepth 100000 in
theorem cs_e1 (cap cl : Int) (fin : Bool) (A : Option Addr) (c : Nat) (l : List (S40)) (fz : Bool) (w : World) (hr : Kd.C k40 w A l.length l) (hc : l.length ≤ c) (hf : fin = false) (hu : l.any unfB = true) (h : toc_Valid.f cap cl fin l = some true) :
 Calls Try.prog 19 #[.int .i64 cap, .agg #[.int .i64 cl, .bool fin, .slice A l.length c], .bool fz] w fun e w' => ∃ v2_ : Value, e = .returned (.tuple #[.agg #[.int .i64 0, .bool false, v2_], .int .i64 8]) ∧ Kd.R k40 40 w' w.heap.size (fun _ => True) v2_ [] ∧ Below w.heap.size w w' := by
 have hu38 := Try.underlying24
 have HR := Aside0.mk hr
 have HC := Aside0.mk hc
 have HV := Aside0.mk h
 have hmf : ∀ (fn : Fn) (first cap : Array Value) (w : World), (Instr.makeFunc fn first cap).run Try.prog w = .ok (.func fn first cap) w := fun _ _ _ _ => rfl
 clear hr hc h
 subst hf
 go_enter Try.func19, Try.ntmps19
 go_wp2_with (fail)
 generalize hw0 : (w.alloc _).alloc _ = w0
 obtain ⟨hb0, hb1, hB⟩ := two_new hw0
 refine (toc_Valid.calls _ _ _ A c l true w0 (Kd.C_below HR.out hB) HC.out HV.out).mono ?_
 rintro e w1 ⟨rfl, hbv⟩
 have hx0 := blk_below hb0 hbv
 have hx1 := blk_below hb1 hbv
 have HB := Aside0.mk (below_step hB hbv)
 have HR1 := Aside0.mk (Kd.C_below HR.out HB.out)
 have d0 := (blk_cell hx0 0).trans rfl
 have d1 := (blk_cell hx0 1).trans rfl
 have d2 := (blk_cell hx0 2).trans rfl
 go_wp2_with (fail)
 refine (containsFunc_any (openB _) 31 #[.pointer (some ⟨w.heap.size, 0, none⟩)] A c l w1 HR1.out (cs1 _ w.heap.size w1 d0)).mono ?_
 rintro e w2 ⟨rfl, hb2⟩
 have hx0 := blk_below hx0 hb2
 have hx1 := blk_below hx1 hb2
 have HB := Aside0.mk (below_step HB.out hb2)
 have HR2 := Aside0.mk (Kd.C_below HR.out HB.out)
 clear d0 d1 d2 HR1 hb2
 have d0 := (blk_cell hx0 0).trans rfl
 have d1 := (blk_cell hx0 1).trans rfl
 have d2 := (blk_cell hx0 2).trans rfl
 go_wp2_with (fail)
 refine (containsFunc_any unfB 32 #[] A c l w2 HR2.out (cs2 w2)).mono ?_
 rintro e w3 ⟨rfl, hb3⟩
 have hx0 := blk_below hx0 hb3
 have hx1 := blk_below hx1 hb3
 have HB := Aside0.mk (below_step HB.out hb3)
 have HR3 := Aside0.mk (Kd.C_below HR.out HB.out)
 clear d0 d1 d2 HR2 hb3
 have d0 := (blk_cell hx0 0).trans rfl
 have d1 := (blk_cell hx0 1).trans rfl
 have d2 := (blk_cell hx0 2).trans rfl
 have c0 := (blk_cell hx1 0).trans rfl
 have c1 := (blk_cell hx1 1).trans rfl
 have c2 := (blk_cell hx1 2).trans rfl
 have f0 := blk_frozen hx1 0
 have f1 := blk_frozen hx1 1
 have f2 := blk_frozen hx1 2
 go_wp2_with (fail)
 refine bodyPost_ret (results_ct rfl _ _ (w.heap.size + 1) 24 #[.int .i64 0, .bool false, .slice none 0 0] (0, 0) _ rfl (blk_put (cs := #[.int .i64 0, .bool false, .slice none 0 0]) (blk_put (cs := #[.int .i64 0, .bool false, .slice none 0 0]) (blk_put (cs := #[.int .i64 0, .bool false, .slice none 0 0]) hx1 0 _ rfl) 1 _ rfl) 2 _ rfl) Try.underlying24 rfl (by kernel_rfl)) rfl ?_
 exact ⟨_, rfl, Kd.R_nil _ _ _ _ _, below_set (below_set (below_set HB.out (by omega)) (by omega)) (by omega)⟩
set_option maxHeartbeats 400000 in
set_option maxRecDepth 100000 in
theorem cs_e2 (cap cl : Int) (fin : Bool) (A : Option Addr) (c : Nat) (l : List (S40)) (fz : Bool) (w : World) (hr : Kd.C k40 w A l.length l) (hc : l.length ≤ c) (hf : fin = false) (hu : l.any unfB = false) (ho : l.any (openB cl) = false) (hz : fz = false) (h : toc_Valid.f cap cl fin l = some true) :
 Calls Try.prog 19 #[.int .i64 cap, .agg #[.int .i64 cl, .bool fin, .slice A l.length c], .bool fz] w fun e w' => ∃ v2_ : Value, e = .returned (.tuple #[.agg #[.int .i64 0, .bool false, v2_], .int .i64 8]) ∧ Kd.R k40 40 w' w.heap.size (fun _ => True) v2_ [] ∧ Below w.heap.size w w' := by
 have hu38 := Try.underlying24
 have HR := Aside0.mk hr
 have HC := Aside0.mk hc
 have HV := Aside0.mk h
 have hmf : ∀ (fn : Fn) (first cap : Array Value) (w : World), (Instr.makeFunc fn first cap).run Try.prog w = .ok (.func fn first cap) w := fun _ _ _ _ => rfl
 clear hr hc h
 subst hf
 subst hz
 go_enter Try.func19, Try.ntmps19
 go_wp2_with (fail)
 generalize hw0 : (w.alloc _).alloc _ = w0
 obtain ⟨hb0, hb1, hB⟩ := two_new hw0
 refine (toc_Valid.calls _ _ _ A c l true w0 (Kd.C_below HR.out hB) HC.out HV.out).mono ?_
 rintro e w1 ⟨rfl, hbv⟩
 have hx0 := blk_below hb0 hbv
 have hx1 := blk_below hb1 hbv
 have HB := Aside0.mk (below_step hB hbv)
 have HR1 := Aside0.mk (Kd.C_below HR.out HB.out)
 have d0 := (blk_cell hx0 0).trans rfl
 have d1 := (blk_cell hx0 1).trans rfl
 have d2 := (blk_cell hx0 2).trans rfl
 go_wp2_with (fail)
 refine (containsFunc_any (openB _) 31 #[.pointer (some ⟨w.heap.size, 0, none⟩)] A c l w1 HR1.out (cs1 _ w.heap.size w1 d0)).mono ?_
 rintro e w2 ⟨rfl, hb2⟩
 have hx0 := blk_below hx0 hb2
 have hx1 := blk_below hx1 hb2
 have HB := Aside0.mk (below_step HB.out hb2)
 have HR2 := Aside0.mk (Kd.C_below HR.out HB.out)
 clear d0 d1 d2 HR1 hb2
 have d0 := (blk_cell hx0 0).trans rfl
 have d1 := (blk_cell hx0 1).trans rfl
 have d2 := (blk_cell hx0 2).trans rfl
 go_wp2_with (fail)
 refine (containsFunc_any unfB 32 #[] A c l w2 HR2.out (cs2 w2)).mono ?_
 rintro e w3 ⟨rfl, hb3⟩
 have hx0 := blk_below hx0 hb3
 have hx1 := blk_below hx1 hb3
 have HB := Aside0.mk (below_step HB.out hb3)
 have HR3 := Aside0.mk (Kd.C_below HR.out HB.out)
 clear d0 d1 d2 HR2 hb3
 have d0 := (blk_cell hx0 0).trans rfl
 have d1 := (blk_cell hx0 1).trans rfl
 have d2 := (blk_cell hx0 2).trans rfl
 have c0 := (blk_cell hx1 0).trans rfl
 have c1 := (blk_cell hx1 1).trans rfl
 have c2 := (blk_cell hx1 2).trans rfl
 have f0 := blk_frozen hx1 0
 have f1 := blk_frozen hx1 1
 have f2 := blk_frozen hx1 2
 go_wp2_with (fail)
 refine bodyPost_ret (results_ct rfl _ _ (w.heap.size + 1) 24 #[.int .i64 0, .bool false, .slice none 0 0] (0, 0) _ rfl (blk_put (cs := #[.int .i64 0, .bool false, .slice none 0 0]) (blk_put (cs := #[.int .i64 0, .bool false, .slice none 0 0]) (blk_put (cs := #[.int .i64 0, .bool false, .slice none 0 0]) hx1 0 _ rfl) 1 _ rfl) 2 _ rfl) Try.underlying24 rfl (by kernel_rfl)) rfl ?_
 exact ⟨_, rfl, Kd.R_nil _ _ _ _ _, below_set (below_set (below_set HB.out (by omega)) (by omega)) (by omega)⟩
set_option maxHeartbeats 400000 in
set_option maxRecDepth 100000 in
theorem cs_e3 (cap cl : Int) (fin : Bool) (A : Option Addr) (c : Nat) (l : List (S40)) (fz : Bool) (w : World) (hr : Kd.C k40 w A l.length l) (hc : l.length ≤ c) (hf : fin = false) (hu : l.any unfB = false) (ho : l.any (openB cl) = false) (hz : fz = true) (h0 : cl = 0) (h : toc_Valid.f cap cl fin l = some true) :
 Calls Try.prog 19 #[.int .i64 cap, .agg #[.int .i64 cl, .bool fin, .slice A l.length c], .bool fz] w fun e w' => ∃ v2_ : Value, e = .returned (.tuple #[.agg #[.int .i64 0, .bool false, v2_], .int .i64 8]) ∧ Kd.R k40 40 w' w.heap.size (fun _ => True) v2_ [] ∧ Below w.heap.size w w' := by
 have hu38 := Try.underlying24
 have HR := Aside0.mk hr
 have HC := Aside0.mk hc
 have HV := Aside0.mk h
 have hmf : ∀ (fn : Fn) (first cap : Array Value) (w : World), (Instr.makeFunc fn first cap).run Try.prog w = .ok (.func fn first cap) w := fun _ _ _ _ => rfl
 clear hr hc h
 subst hf
 subst hz
 subst h0
 go_enter Try.func19, Try.ntmps19
 go_wp2_with (fail)
 generalize hw0 : (w.alloc _).alloc _ = w0
 obtain ⟨hb0, hb1, hB⟩ := two_new hw0
 refine (toc_Valid.calls _ _ _ A c l true w0 (Kd.C_below HR.out hB) HC.out HV.out).mono ?_
 rintro e w1 ⟨rfl, hbv⟩
 have hx0 := blk_below hb0 hbv
 have hx1 := blk_below hb1 hbv
 have HB := Aside0.mk (below_step hB hbv)
 have HR1 := Aside0.mk (Kd.C_below HR.out HB.out)
 have d0 := (blk_cell hx0 0).trans rfl
 have d1 := (blk_cell hx0 1).trans rfl
 have d2 := (blk_cell hx0 2).trans rfl
 go_wp2_with (fail)
 refine (containsFunc_any (openB _) 31 #[.pointer (some ⟨w.heap.size, 0, none⟩)] A c l w1 HR1.out (cs1 _ w.heap.size w1 d0)).mono ?_
 rintro e w2 ⟨rfl, hb2⟩
 have hx0 := blk_below hx0 hb2
 have hx1 := blk_below hx1 hb2
 have HB := Aside0.mk (below_step HB.out hb2)
 have HR2 := Aside0.mk (Kd.C_below HR.out HB.out)
 clear d0 d1 d2 HR1 hb2
 have d0 := (blk_cell hx0 0).trans rfl
 have d1 := (blk_cell hx0 1).trans rfl
 have d2 := (blk_cell hx0 2).trans rfl
 go_wp2_with (fail)
 refine (containsFunc_any unfB 32 #[] A c l w2 HR2.out (cs2 w2)).mono ?_
 rintro e w3 ⟨rfl, hb3⟩
 have hx0 := blk_below hx0 hb3
 have hx1 := blk_below hx1 hb3
 have HB := Aside0.mk (below_step HB.out hb3)
 have HR3 := Aside0.mk (Kd.C_below HR.out HB.out)
 clear d0 d1 d2 HR2 hb3
 have d0 := (blk_cell hx0 0).trans rfl
 have d1 := (blk_cell hx0 1).trans rfl
 have d2 := (blk_cell hx0 2).trans rfl
 have c0 := (blk_cell hx1 0).trans rfl
 have c1 := (blk_cell hx1 1).trans rfl
 have c2 := (blk_cell hx1 2).trans rfl
 have f0 := blk_frozen hx1 0
 have f1 := blk_frozen hx1 1
 have f2 := blk_frozen hx1 2
 go_wp2_with (fail)
 refine bodyPost_ret (results_ct rfl _ _ (w.heap.size + 1) 24 #[.int .i64 0, .bool false, .slice none 0 0] (0, 0) _ rfl (blk_put (cs := #[.int .i64 0, .bool false, .slice none 0 0]) (blk_put (cs := #[.int .i64 0, .bool false, .slice none 0 0]) (blk_put (cs := #[.int .i64 0, .bool false, .slice none 0 0]) hx1 0 _ rfl) 1 _ rfl) 2 _ rfl) Try.underlying24 rfl (by kernel_rfl)) rfl ?_
 exact ⟨_, rfl, Kd.R_nil _ _ _ _ _, below_set (below_set (below_set HB.out (by omega)) (by omega)) (by omega)⟩
set_option maxHeartbeats 400000 in
set_option maxRecDepth 100000 in
theorem cs_o1 (cap cl : Int) (fin : Bool) (A : Option Addr) (c : Nat) (l : List (S40)) (fz : Bool) (w : World) (hr : Kd.C k40 w A l.length l) (hc : l.length ≤ c) (hf : fin = false) (hl : l.length < 2513169434916) (hu : l.any unfB = false) (ho : l.any (openB cl) = true) (y : Int) (hy : wrap64 (cl + 1) = y) (h : toc_Valid.f cap cl fin l = some true) :
 Calls Try.prog 19 #[.int .i64 cap, .agg #[.int .i64 cl, .bool fin, .slice A l.length c], .bool fz] w fun e w' => ∃ v2_ : Value, e = .returned (.tuple #[.agg #[.int .i64 (y), .bool fz, v2_], .int .i64 0]) ∧ Kd.R k40 40 w' w.heap.size (fun _ => True) v2_ l ∧ Below w.heap.size w w' := by
 have hu38 := Try.underlying24
 have HR := Aside0.mk hr
 have HC := Aside0.mk hc
 have HV := Aside0.mk h
 have hmf : ∀ (fn : Fn) (first cap : Array Value) (w : World), (Instr.makeFunc fn first cap).run Try.prog w = .ok (.func fn first cap) w := fun _ _ _ _ => rfl
 clear hr hc h
 subst hf
 have HCN := Aside0.mk (show toc_clone.f cl false l = some (cl, false, l) by simp only [toc_clone.f, api_Track_44.f, if_pos hl, Option.bind])
 clear hl
 go_enter Try.func19, Try.ntmps19
 go_wp2_with (fail)
 generalize hw0 : (w.alloc _).alloc _ = w0
 obtain ⟨hb0, hb1, hB⟩ := two_new hw0
 obtain ⟨g0, hg0⟩ : ∃ g, w.heap.size = g := ⟨_, rfl⟩
 have GE0 : w.heap.size ≤ g0 := by omega
 rw [hg0] at hb0 hb1 ⊢
 obtain ⟨g1, hg1⟩ : ∃ g, g0 + 1 = g := ⟨_, rfl⟩
 have GE1 : w.heap.size ≤ g1 := by omega
 have hne : g1 ≠ g0 := by omega
 have hne' : g0 ≠ g1 := by omega
 rw [hg1] at hb1 ⊢
 refine (toc_Valid.calls _ _ _ A c l true w0 (Kd.C_below HR.out hB) HC.out HV.out).mono ?_
 rintro e w1 ⟨rfl, hbv⟩
 have hx0 := blk_below hb0 hbv
 have hx1 := blk_below hb1 hbv
 have HB := Aside0.mk (below_step hB hbv)
 have HR1 := Aside0.mk (Kd.C_below HR.out HB.out)
 have d0 := (blk_cell hx0 0).trans rfl
 have d1 := (blk_cell hx0 1).trans rfl
 have d2 := (blk_cell hx0 2).trans rfl
 go_wp2_with (fail)
 refine (containsFunc_any (openB _) 31 #[.pointer (some ⟨g0, 0, none⟩)] A c l w1 HR1.out (cs1 _ g0 w1 d0)).mono ?_
 rintro e w2 ⟨rfl, hb2⟩
 have hx0 := blk_below hx0 hb2
 have hx1 := blk_below hx1 hb2
 have HB := Aside0.mk (below_step HB.out hb2)
 have HR2 := Aside0.mk (Kd.C_below HR.out HB.out)
 clear d0 d1 d2 HR1 hb2
 have d0 := (blk_cell hx0 0).trans rfl
 have d1 := (blk_cell hx0 1).trans rfl
 have d2 := (blk_cell hx0 2).trans rfl
 go_wp2_with (fail)
 refine (containsFunc_any unfB 32 #[] A c l w2 HR2.out (cs2 w2)).mono ?_
 rintro e w3 ⟨rfl, hb3⟩
 have hx0 := blk_below hx0 hb3
 have hx1 := blk_below hx1 hb3
 have HB := Aside0.mk (below_step HB.out hb3)
 have HR3 := Aside0.mk (Kd.C_below HR.out HB.out)
 clear d0 d1 d2 HR2 hb3
 have d0 := (blk_cell hx0 0).trans rfl
 have d1 := (blk_cell hx0 1).trans rfl
 have d2 := (blk_cell hx0 2).trans rfl
 have c0 := (blk_cell hx1 0).trans rfl
 have c1 := (blk_cell hx1 1).trans rfl
 have c2 := (blk_cell hx1 2).trans rfl
 have f0 := blk_frozen hx1 0
 have f1 := blk_frozen hx1 1
 have f2 := blk_frozen hx1 2
 go_wp2_with (fail)
 refine (toc_clone.calls _ _ A c l _ _ _ w3 HR3.out HC.out HCN.out).mono ?_
 rintro e w4 ⟨v, rfl, hv, hb4⟩
 have HBP := HB
 have hx0 := blk_below hx0 hb4
 have hx1 := blk_below hx1 hb4
 have HB := Aside0.mk (below_step HB.out hb4)
 obtain ⟨A', c', rfl⟩ := Kd.R_slice hv
 have HVV := Aside0.mk (Kd.R_types (Kd.R_types (Kd.R_lower hv (below_size HBP.out)) hx0 (by decide)) hx1 (by decide))
 clear d0 d1 d2 c0 c1 c2 f0 f1 f2 hv hb4 HR3
 have d0 : w4.cell? ⟨g0, 0, none⟩ = some (.int .i64 cl) := (blk_cell hx0 0).trans rfl
 have d1 : w4.cell? ⟨g0, 1, none⟩ = some (.bool false) := (blk_cell hx0 1).trans rfl
 have d2 : w4.cell? ⟨g0, 2, none⟩ = some (.slice A l.length c) := (blk_cell hx0 2).trans rfl
 have f0 := blk_frozen hx0 0
 have f1 := blk_frozen hx0 1
 have f2 := blk_frozen hx0 2
 have c0 : w4.cell? ⟨g1, 0, none⟩ = some (.int .i64 0) := (blk_cell hx1 0).trans rfl
 have c1 : w4.cell? ⟨g1, 1, none⟩ = some (.bool false) := (blk_cell hx1 1).trans rfl
 have c2 : w4.cell? ⟨g1, 2, none⟩ = some (.slice none 0 0) := (blk_cell hx1 2).trans rfl
 have e0 := blk_frozen hx1 0
 have e1 := blk_frozen hx1 1
 have e2 := blk_frozen hx1 2
 clear hg0 hg1
 go_simp
 iterate 12 (first | go_values | go_skip | go_guarded | go_step | go_upon | go_back)
 generalize hw5 : ((w4.setCell _ _).setCell _ _).setCell _ _ = w5
 have HB5 : Below w.heap.size w w5 := hw5 ▸ below_set (below_set (below_set HB.out GE0) GE0) GE0
 have hy0 : w5.heap[g0]? = some (.cells #[.int .i64 cl, .bool false, .slice A' l.length c'] 24 (0, 0)) := hw5 ▸ blk_put (blk_put (blk_put hx0 0 _ rfl) 1 _ rfl) 2 _ rfl
 have hy1 : w5.heap[g1]? = some (.cells #[.int .i64 0, .bool false, .slice none 0 0] 24 (0, 0)) := hw5 ▸ blk_far (blk_far (blk_far hx1 hne _) hne _) hne _
 have HV5 := Aside0.mk (show Kd.R k40 40 w5 _ _ _ l from hw5 ▸ Kd.R_far (Kd.R_far (Kd.R_far HVV.out (fun _ hk => hk.1.2) _) (fun _ hk => hk.1.2) _) (fun _ hk => hk.1.2) _)
 clear d0 d1 d2 c0 c1 c2 f0 f1 f2 e0 e1 e2 hw5 HB HVV hx0 hx1
 have d0 : w5.cell? ⟨g0, 0, none⟩ = some (.int .i64 cl) := (blk_cell hy0 0).trans rfl
 have d1 : w5.cell? ⟨g0, 1, none⟩ = some (.bool false) := (blk_cell hy0 1).trans rfl
 have d2 : w5.cell? ⟨g0, 2, none⟩ = some (.slice A' l.length c') := (blk_cell hy0 2).trans rfl
 have f0 := blk_frozen hy0 0
 have f1 := blk_frozen hy0 1
 have f2 := blk_frozen hy0 2
 have c0 : w5.cell? ⟨g1, 0, none⟩ = some (.int .i64 0) := (blk_cell hy1 0).trans rfl
 have c1 : w5.cell? ⟨g1, 1, none⟩ = some (.bool false) := (blk_cell hy1 1).trans rfl
 have c2 : w5.cell? ⟨g1, 2, none⟩ = some (.slice none 0 0) := (blk_cell hy1 2).trans rfl
 have e0 := blk_frozen hy1 0
 have e1 := blk_frozen hy1 1
 have e2 := blk_frozen hy1 2
 go_wp2_with (fail)
 refine bodyPost_ret (results_ct rfl _ _ g1 24 #[.int .i64 y, .bool fz, .slice A' l.length c'] (0, 0) _ rfl (blk_put (cs := #[.int .i64 y, .bool fz, .slice none 0 0]) (blk_put (cs := #[.int .i64 y, .bool false, .slice none 0 0]) (blk_put (cs := #[.int .i64 0, .bool false, .slice none 0 0]) (blk_far (blk_far hy1 hne _) hne _) 0 _ rfl) 1 _ rfl) 2 _ rfl) Try.underlying24 rfl (by kernel_rfl)) rfl ?_
 exact ⟨_, rfl, Kd.R_mono (Kd.R_far (Kd.R_far (Kd.R_far (Kd.R_far (Kd.R_far HV5.out (fun _ hk => hk.1.2) _) (fun _ hk => hk.1.2) _) (fun _ hk => hk.2) _) (fun _ hk => hk.2) _) (fun _ hk => hk.2) _) (fun _ hk => trivial), below_set (below_set (below_set (below_set (below_set HB5 GE0) GE0) GE1) GE1) GE1⟩
set_option maxHeartbeats 400000 in
set_option maxRecDepth 100000 in
theorem cs_o2 (cap cl : Int) (fin : Bool) (A : Option Addr) (c : Nat) (l : List (S40)) (fz : Bool) (w : World) (hr : Kd.C k40 w A l.length l) (hc : l.length ≤ c) (hf : fin = false) (hl : l.length < 2513169434916) (hu : l.any unfB = false) (ho : l.any (openB cl) = false) (hz : fz = true) (h0 : cl ≠ 0) (h : toc_Valid.f cap cl fin l = some true) :
 Calls Try.prog 19 #[.int .i64 cap, .agg #[.int .i64 cl, .bool fin, .slice A l.length c], .bool fz] w fun e w' => ∃ v2_ : Value, e = .returned (.tuple #[.agg #[.int .i64 (cl), .bool fz, v2_], .int .i64 0]) ∧ Kd.R k40 40 w' w.heap.size (fun _ => True) v2_ l ∧ Below w.heap.size w w' := by
 have hu38 := Try.underlying24
 have HR := Aside0.mk hr
 have HC := Aside0.mk hc
 have HV := Aside0.mk h
 have hmf : ∀ (fn : Fn) (first cap : Array Value) (w : World), (Instr.makeFunc fn first cap).run Try.prog w = .ok (.func fn first cap) w := fun _ _ _ _ => rfl
 clear hr hc h
 subst hf
 have HCN := Aside0.mk (show toc_clone.f cl false l = some (cl, false, l) by simp only [toc_clone.f, api_Track_44.f, if_pos hl, Option.bind])
 clear hl
 subst hz
 go_enter Try.func19, Try.ntmps19
 go_wp2_with (fail)
 generalize hw0 : (w.alloc _).alloc _ = w0
 obtain ⟨hb0, hb1, hB⟩ := two_new hw0
 obtain ⟨g0, hg0⟩ : ∃ g, w.heap.size = g := ⟨_, rfl⟩
 have GE0 : w.heap.size ≤ g0 := by omega
 rw [hg0] at hb0 hb1 ⊢
 obtain ⟨g1, hg1⟩ : ∃ g, g0 + 1 = g := ⟨_, rfl⟩
 have GE1 : w.heap.size ≤ g1 := by omega
 have hne : g1 ≠ g0 := by omega
 have hne' : g0 ≠ g1 := by omega
 rw [hg1] at hb1 ⊢
 refine (toc_Valid.calls _ _ _ A c l true w0 (Kd.C_below HR.out hB) HC.out HV.out).mono ?_
 rintro e w1 ⟨rfl, hbv⟩
 have hx0 := blk_below hb0 hbv
 have hx1 := blk_below hb1 hbv
 have HB := Aside0.mk (below_step hB hbv)
 have HR1 := Aside0.mk (Kd.C_below HR.out HB.out)
 have d0 := (blk_cell hx0 0).trans rfl
 have d1 := (blk_cell hx0 1).trans rfl
 have d2 := (blk_cell hx0 2).trans rfl
 go_wp2_with (fail)
 refine (containsFunc_any (openB _) 31 #[.pointer (some ⟨g0, 0, none⟩)] A c l w1 HR1.out (cs1 _ g0 w1 d0)).mono ?_
 rintro e w2 ⟨rfl, hb2⟩
 have hx0 := blk_below hx0 hb2
 have hx1 := blk_below hx1 hb2
 have HB := Aside0.mk (below_step HB.out hb2)
 have HR2 := Aside0.mk (Kd.C_below HR.out HB.out)
 clear d0 d1 d2 HR1 hb2
 have d0 := (blk_cell hx0 0).trans rfl
 have d1 := (blk_cell hx0 1).trans rfl
 have d2 := (blk_cell hx0 2).trans rfl
 go_wp2_with (fail)
 refine (containsFunc_any unfB 32 #[] A c l w2 HR2.out (cs2 w2)).mono ?_
 rintro e w3 ⟨rfl, hb3⟩
 have hx0 := blk_below hx0 hb3
 have hx1 := blk_below hx1 hb3
 have HB := Aside0.mk (below_step HB.out hb3)
 have HR3 := Aside0.mk (Kd.C_below HR.out HB.out)
 clear d0 d1 d2 HR2 hb3
 have d0 := (blk_cell hx0 0).trans rfl
 have d1 := (blk_cell hx0 1).trans rfl
 have d2 := (blk_cell hx0 2).trans rfl
 have c0 := (blk_cell hx1 0).trans rfl
 have c1 := (blk_cell hx1 1).trans rfl
 have c2 := (blk_cell hx1 2).trans rfl
 have f0 := blk_frozen hx1 0
 have f1 := blk_frozen hx1 1
 have f2 := blk_frozen hx1 2
 go_wp2_with (fail)
 refine (toc_clone.calls _ _ A c l _ _ _ w3 HR3.out HC.out HCN.out).mono ?_
 rintro e w4 ⟨v, rfl, hv, hb4⟩
 have HBP := HB
 have hx0 := blk_below hx0 hb4
 have hx1 := blk_below hx1 hb4
 have HB := Aside0.mk (below_step HB.out hb4)
 obtain ⟨A', c', rfl⟩ := Kd.R_slice hv
 have HVV := Aside0.mk (Kd.R_types (Kd.R_types (Kd.R_lower hv (below_size HBP.out)) hx0 (by decide)) hx1 (by decide))
 clear d0 d1 d2 c0 c1 c2 f0 f1 f2 hv hb4 HR3
 have d0 : w4.cell? ⟨g0, 0, none⟩ = some (.int .i64 cl) := (blk_cell hx0 0).trans rfl
 have d1 : w4.cell? ⟨g0, 1, none⟩ = some (.bool false) := (blk_cell hx0 1).trans rfl
 have d2 : w4.cell? ⟨g0, 2, none⟩ = some (.slice A l.length c) := (blk_cell hx0 2).trans rfl
 have f0 := blk_frozen hx0 0
 have f1 := blk_frozen hx0 1
 have f2 := blk_frozen hx0 2
 have c0 : w4.cell? ⟨g1, 0, none⟩ = some (.int .i64 0) := (blk_cell hx1 0).trans rfl
 have c1 : w4.cell? ⟨g1, 1, none⟩ = some (.bool false) := (blk_cell hx1 1).trans rfl
 have c2 : w4.cell? ⟨g1, 2, none⟩ = some (.slice none 0 0) := (blk_cell hx1 2).trans rfl
 have e0 := blk_frozen hx1 0
 have e1 := blk_frozen hx1 1
 have e2 := blk_frozen hx1 2
 clear hg0 hg1
 go_simp
 iterate 12 (first | go_values | go_skip | go_guarded | go_step | go_upon | go_back)
 generalize hw5 : ((w4.setCell _ _).setCell _ _).setCell _ _ = w5
 have HB5 : Below w.heap.size w w5 := hw5 ▸ below_set (below_set (below_set HB.out GE0) GE0) GE0
 have hy0 : w5.heap[g0]? = some (.cells #[.int .i64 cl, .bool false, .slice A' l.length c'] 24 (0, 0)) := hw5 ▸ blk_put (blk_put (blk_put hx0 0 _ rfl) 1 _ rfl) 2 _ rfl
 have hy1 : w5.heap[g1]? = some (.cells #[.int .i64 0, .bool false, .slice none 0 0] 24 (0, 0)) := hw5 ▸ blk_far (blk_far (blk_far hx1 hne _) hne _) hne _
 have HV5 := Aside0.mk (show Kd.R k40 40 w5 _ _ _ l from hw5 ▸ Kd.R_far (Kd.R_far (Kd.R_far HVV.out (fun _ hk => hk.1.2) _) (fun _ hk => hk.1.2) _) (fun _ hk => hk.1.2) _)
 clear d0 d1 d2 c0 c1 c2 f0 f1 f2 e0 e1 e2 hw5 HB HVV hx0 hx1
 have d0 : w5.cell? ⟨g0, 0, none⟩ = some (.int .i64 cl) := (blk_cell hy0 0).trans rfl
 have d1 : w5.cell? ⟨g0, 1, none⟩ = some (.bool false) := (blk_cell hy0 1).trans rfl
 have d2 : w5.cell? ⟨g0, 2, none⟩ = some (.slice A' l.length c') := (blk_cell hy0 2).trans rfl
 have f0 := blk_frozen hy0 0
 have f1 := blk_frozen hy0 1
 have f2 := blk_frozen hy0 2
 have c0 : w5.cell? ⟨g1, 0, none⟩ = some (.int .i64 0) := (blk_cell hy1 0).trans rfl
 have c1 : w5.cell? ⟨g1, 1, none⟩ = some (.bool false) := (blk_cell hy1 1).trans rfl
 have c2 : w5.cell? ⟨g1, 2, none⟩ = some (.slice none 0 0) := (blk_cell hy1 2).trans rfl
 have e0 := blk_frozen hy1 0
 have e1 := blk_frozen hy1 1
 have e2 := blk_frozen hy1 2
 go_wp2_with (fail)
 refine bodyPost_ret (results_ct rfl _ _ g1 24 #[.int .i64 cl, .bool true, .slice A' l.length c'] (0, 0) _ rfl (blk_put (cs := #[.int .i64 cl, .bool true, .slice none 0 0]) (blk_put (cs := #[.int .i64 cl, .bool false, .slice none 0 0]) (blk_put (cs := #[.int .i64 0, .bool false, .slice none 0 0]) (blk_far hy1 hne _) 0 _ rfl) 1 _ rfl) 2 _ rfl) Try.underlying24 rfl (by kernel_rfl)) rfl ?_
 exact ⟨_, rfl, Kd.R_mono (Kd.R_far (Kd.R_far (Kd.R_far (Kd.R_far HV5.out (fun _ hk => hk.1.2) _) (fun _ hk => hk.2) _) (fun _ hk => hk.2) _) (fun _ hk => hk.2) _) (fun _ hk => trivial), below_set (below_set (below_set (below_set HB5 GE0) GE1) GE1) GE1⟩
theorem wrap_closed {cap cl : Int} {fin : Bool} {l : List (S40)} (h : toc_Valid.f cap cl fin l = some true) : wrap64 (cl + 1) = cl + 1 := by
 unfold toc_Valid.f at h
 by_cases hh : headB cap cl fin l.length = true
 · have := of_decide_eq_true hh
   unfold wrap64; omega
 · rw [if_neg hh] at h; cases h
theorem toc_CloseSession.calls (a0 a1_0 : Int) (a1_1 : Bool) (A1_2 : Option Addr) (c1_2 : Nat) (l1_2 : List (S40)) (a2 : Bool) (r1 : Int) (r2 : Bool) (r3 : List (S40)) (r4 : Int) (w : World) (hr1_2 : Kd.C k40 w A1_2 l1_2.length l1_2) (hc1_2 : l1_2.length ≤ c1_2) (h : toc_CloseSession.f a0 a1_0 a1_1 l1_2 a2 = some (r1, r2, r3, r4)) :
 Calls Try.prog 19 #[.int .i64 a0, .agg #[.int .i64 a1_0, .bool a1_1, .slice A1_2 l1_2.length c1_2], .bool a2] w fun e w' => ∃ v3_ : Value, e = .returned (.tuple #[.agg #[.int .i64 r1, .bool r2, v3_], .int .i64 r4]) ∧ Kd.R k40 40 w' w.heap.size (fun _ => True) v3_ r3 ∧ Below w.heap.size w w' := by
 unfold toc_CloseSession.f at h
 obtain ⟨v, hv, h⟩ := Option.bind_eq_some_iff.mp h
 cases v with
 | false => cases h; exact cs_inv a0 a1_0 a1_1 A1_2 c1_2 l1_2 a2 w hr1_2 hc1_2 hv
 | true =>
  rw [if_pos rfl] at h
  cases hf : a1_1 with
  | true => rw [hf, if_pos rfl] at h; cases h; exact cs_fin a0 a1_0 true A1_2 c1_2 l1_2 a2 w hr1_2 hc1_2 rfl (hf ▸ hv)
  | false =>
   rw [hf, if_neg (by decide)] at h
   rw [hf] at hv
   cases hu : l1_2.any unfB with
   | true => simp only [csOk, hu, Bool.not_true, Bool.false_and, Bool.false_eq_true, if_false] at h; cases h; exact cs_e1 a0 a1_0 false A1_2 c1_2 l1_2 a2 w hr1_2 hc1_2 rfl hu hv
   | false =>
    cases ho : l1_2.any (openB a1_0) with
    | true =>
     simp only [csOk, hu, ho, Bool.not_false, Bool.true_and, Bool.true_or, if_true] at h
     split at h <;> cases h
     rename_i hl
     exact cs_o1 a0 a1_0 false A1_2 c1_2 l1_2 a2 w hr1_2 hc1_2 rfl hl hu ho _ (wrap_closed hv) hv
    | false =>
     cases hz : a2 with
     | false => simp only [csOk, hu, ho, hz, Bool.not_false, Bool.true_and, Bool.false_or, Bool.false_and, Bool.false_eq_true, if_false] at h; cases h; exact cs_e2 a0 a1_0 false A1_2 c1_2 l1_2 false w hr1_2 hc1_2 rfl hu ho rfl hv
     | true =>
      by_cases h0 : a1_0 = 0
      · have hb : (a1_0 == 0) = true := by simpa using h0
        simp only [csOk, hu, ho, hz, hb, Bool.not_false, Bool.true_and, Bool.false_or, Bool.not_true, Bool.false_eq_true, if_false] at h
        cases h; exact cs_e3 a0 a1_0 false A1_2 c1_2 l1_2 true w hr1_2 hc1_2 rfl hu ho rfl h0 hv
      · have hb : (a1_0 == 0) = false := by simpa using h0
        simp only [csOk, hu, ho, hz, hb, Bool.not_false, Bool.true_and, Bool.false_or, if_true, Bool.false_eq_true, if_false] at h
        split at h <;> cases h
        rename_i hl
        exact cs_o2 a0 a1_0 false A1_2 c1_2 l1_2 true w hr1_2 hc1_2 rfl hl hu ho rfl h0 hv
end Go.Proofs.Ytjhepdcdhabcjaa.G
namespace Go.Proofs.Ytjhepdcdhabcjaa.G
open Go.RowKit Go.Proofs.YtjhepdcdhabcjaaW.PrintWords Go.Proofs.YtjhepdcdhabcjaaW.PrintLast Go.Proofs.YtjhepdcdhabcjaaW.PrintMore
set_option linter.unusedVariables false
set_option linter.unusedSimpArgs false
def TOK (cap : Int) (x : S40) : Prop := 0 ≤ x.f2 ∧ 1 ≤ x.f3 ∧ x.f2 + x.f3 ≤ cap ∧ x.f2 ≤ x.f4 ∧ x.f4 ≤ x.f2 + x.f3 ∧ 0 ≤ x.f6 ∧ x.f6 ≤ 1024 ∧ 1 ≤ x.f1 ∧ x.f1 ≤ 16
theorem rvX_tok {l : List S40} {cap cl : Int} {i : Nat} {e ses : Int} (hb : Before l cap i e ses) (hc0 : cap ≤ 449849) (hx : rvX cap cl (i : Int) (if rvT (i : Int) ses (rd_T40 l (i : Int)) = true then wrap64 (e + 16) else e) (if rvT (i : Int) ses (rd_T40 l (i : Int)) = true then wrap64 (ses + 1) else ses) (rd_T40 l (i : Int)) = true) :
 TOK cap (rd_T40 l (i : Int)) := by
 obtain ⟨e0, e1, a1, a2, -⟩ := hb
 obtain ⟨⟨-, p1, -, p2, p3, p4, p5⟩, pb, -, -, -⟩ := rvX_parts hx
 have pb := of_decide_eq_true (show decide _ = true from pb)
 generalize rd_T40 l (i : Int) = x at *
 have hw : wrap64 (ses + 1) = ses + 1 ∧ wrap64 (e + 16) = e + 16 := ⟨w64 (by omega), w64 (by omega)⟩
 have g2 : 0 ≤ x.f2 ∧ x.f2 ≤ 449849 + 16 := by
  rw [p3, hw.2]; split <;> omega
 have g1 : 1 ≤ x.f1 := by
  rw [p1, hw.1]; split <;> omega
 have hw2 : wrap64 (cap - x.f2) = cap - x.f2 := w64 (by omega)
 rw [hw2] at p5
 have hw3 : wrap64 (x.f2 + x.f3) = x.f2 + x.f3 := w64 (by omega)
 rw [hw3] at pb
 exact ⟨g2.1, p4, by omega, pb.2.2.1, pb.2.2.2, pb.1, pb.2.1, g1, p2⟩
theorem rvL_toks {l : List S40} {cap cl : Int} {fin : Bool} (hc0 : cap ≤ 449849) : ∀ (d i : Nat) (e ses : Int), Before l cap i e ses → rvL cap cl fin l d i e ses = true → ∀ j : Nat, i ≤ j → j < i + d → TOK cap (rd_T40 l (j : Int))
 | 0, i, e, ses, hb, h, j, h1, h2 => by omega
 | d + 1, i, e, ses, hb, h, j, h1, h2 => by
  rw [rvL] at h
  by_cases hx : rvX cap cl (i : Int) (if rvT (i : Int) ses (rd_T40 l (i : Int)) = true then wrap64 (e + 16) else e) (if rvT (i : Int) ses (rd_T40 l (i : Int)) = true then wrap64 (ses + 1) else ses) (rd_T40 l (i : Int)) = true
  · rw [if_pos hx] at h
    by_cases hj : j = i
    · subst hj; exact rvX_tok hb hc0 hx
    · exact rvL_toks hc0 d (i + 1) _ _ (before_step hb hc0 hx) h j (by omega) (by omega)
  · rw [if_neg hx] at h; cases h
theorem valid_toks {cap cl : Int} {fin : Bool} {l : List S40} (h : masterdiscref14_Valid.f cap cl fin l = some true) :
 (1 ≤ cap ∧ cap ≤ 449849 ∧ l.length ≤ 99 ∧ 0 ≤ cl ∧ cl ≤ 16) ∧ ∀ j : Nat, j < l.length → TOK cap (rd_T40 l (j : Int)) := by
 unfold masterdiscref14_Valid.f at h
 have h := Option.some.inj h
 by_cases hh : rvH cap cl (l.length : Int) = true
 · rw [if_pos hh] at h
   have hd := of_decide_eq_true hh
   exact ⟨by omega, fun j hj => rvL_toks hd.2.1 l.length 0 0 1 ⟨by omega, by omega, by omega, by omega, .inl ⟨rfl, rfl, rfl⟩⟩ h j (by omega) (by omega)⟩
 · rw [if_neg hh] at h; cases h
theorem valid_some (cap cl : Int) (fin : Bool) (l : List S40) : ∃ v, masterdiscref14_Valid.f cap cl fin l = some v := ⟨_, rfl⟩
def pkP (a b : Int) : Prop := 1 ≤ a ∧ 0 ≤ b ∧ b ≤ 1024 ∧ (b = 0 ∨ Int.tmod a b = 0)
instance (a b : Int) : Decidable (pkP a b) := by unfold pkP; infer_instance
theorem packets_eq (a b : Int) : toc_packets.f a b = some (decide (pkP a b)) := by
 unfold toc_packets.f
 by_cases hp : pkP a b
 · rw [decide_eq_true hp]
   obtain ⟨p1, p2, p3, p4⟩ := hp
   rw [if_pos p1, if_pos p2, if_pos p3]
   by_cases h : b = 0
   · rw [if_pos h]
   · rw [if_neg h, p4.resolve_left h]; rfl
 · rw [decide_eq_false hp]
   by_cases h1 : a ≥ 1
   · rw [if_pos h1]
     by_cases h2 : b ≥ 0
     · rw [if_pos h2]
       by_cases h3 : b ≤ 1024
       · rw [if_pos h3]
         by_cases h4 : b = 0
         · exact absurd ⟨h1, h2, h3, .inl h4⟩ hp
         · rw [if_neg h4, beq_eq_false_iff_ne.mpr (fun h => hp ⟨h1, h2, h3, .inr h⟩)]
       · rw [if_neg h3]
     · rw [if_neg h2]
   · rw [if_neg h1]
def newStart (cl : Int) (l : List S40) : Int :=
 if 0 < l.length then (if (rd_T40 l ((l.length : Int) - 1)).f1 ≤ cl then (rd_T40 l ((l.length : Int) - 1)).f2 + (rd_T40 l ((l.length : Int) - 1)).f3 + 16 else (rd_T40 l ((l.length : Int) - 1)).f2 + (rd_T40 l ((l.length : Int) - 1)).f3) else 0
theorem last_tok {cap : Int} {l : List S40} (h : ∀ j : Nat, j < l.length → TOK cap (rd_T40 l (j : Int))) (hp : 0 < l.length) : TOK cap (rd_T40 l ((l.length : Int) - 1)) := by
 have := h (l.length - 1) (by omega)
 rwa [show ((l.length - 1 : Nat) : Int) = (l.length : Int) - 1 by omega] at this
theorem start_eq {cap cl : Int} {l : List S40} (hc : cap ≤ 449849) (hcl : 0 ≤ cl ∧ cl ≤ 16) (hn : l.length ≤ 99) (h : ∀ j : Nat, j < l.length → TOK cap (rd_T40 l (j : Int))) : toc_start.f l (wrap64 (cl + 1)) = some (newStart cl l) := by
 unfold toc_start.f newStart toc_end.f
 by_cases hp : 0 < l.length
 · obtain ⟨t0, t1, t2, -⟩ := last_tok h hp
   have hw : wrap64 (cl + 1) = cl + 1 ∧ wrap64 ((l.length : Int) - 1) = (l.length : Int) - 1 := ⟨w64 (by omega), w64 (by omega)⟩
   rw [if_neg (by omega), hw.1, hw.2, if_pos (by omega), if_pos (by omega), if_pos hp]
   generalize rd_T40 l ((l.length : Int) - 1) = x at *
   have hw2 : wrap64 (x.f2 + x.f3) = x.f2 + x.f3 ∧ wrap64 (x.f2 + x.f3 + 16) = x.f2 + x.f3 + 16 := ⟨w64 (by omega), w64 (by omega)⟩
   rw [hw2.1]
   simp only [Option.bind]
   rw [hw2.2]
   by_cases hs : x.f1 ≤ cl
   · rw [if_pos (by omega), if_pos hs]
   · rw [if_neg (by omega), if_neg hs]
 · rw [if_pos (by omega), if_neg hp]
theorem clone_eq {cl : Int} {fin : Bool} {l : List S40} (hl : l.length < 2513169434916) : toc_clone.f cl fin l = some (cl, fin, l) := by simp only [toc_clone.f, api_Track_44.f, if_pos hl, Option.bind]
def opReserve (cap cl : Int) (fin : Bool) (l : List S40) (a b : Int) : Int × Bool × List S40 × Int :=
 if fin = true then (0, false, [], 15) else if pkP a b then (if (l.length : Int) = 99 ∨ cl = 16 then (0, false, [], 7) else if a > cap - newStart cl l then (0, false, [], 12)
  else (cl, fin, l ++ [⟨(l.length : Int) + 1, cl + 1, newStart cl l, a, newStart cl l, 0, b⟩], 0)) else (0, false, [], 1)
theorem newStart_bd {cap cl : Int} {l : List S40} (hc : cap ≤ 449849) (h : ∀ j : Nat, j < l.length → TOK cap (rd_T40 l (j : Int))) : 0 ≤ newStart cl l ∧ newStart cl l ≤ 449865 := by
 unfold newStart
 by_cases hp : 0 < l.length
 · obtain ⟨t0, t1, t2, -⟩ := last_tok h hp
   rw [if_pos hp]
   split <;> omega
 · rw [if_neg hp]; omega
theorem reserve_toc (k : Nat) (cap cl : Int) (fin : Bool) (l : List S40) (a b : Int) (hB : ∀ x ∈ l, BdT x) (hv : masterdiscref14_Valid.f cap cl fin l = some true) : toc_Reserve.f (k + 4) cap cl fin l a b = some (opReserve cap cl fin l a b) := by
 obtain ⟨⟨c1, c2, c3, c4, c5⟩, ht⟩ := valid_toks hv
 unfold toc_Reserve.f opReserve
 rw [valid_eq _ _ _ _ hB, hv, packets_eq]
 simp only [Option.bind, if_true]
 cases fin with
 | true => rfl
 | false =>
  simp only [Bool.false_eq_true, if_false]
  by_cases hp : pkP a b
  · rw [decide_eq_true hp, if_pos rfl, if_pos hp]
    have hs := newStart_bd (cl := cl) c2 ht
    have hw : wrap64 (cap - newStart cl l) = cap - newStart cl l ∧ wrap64 ((l.length : Int) + 1) = (l.length : Int) + 1 ∧ wrap64 (cl + 1) = cl + 1 := ⟨w64 (by omega), w64 (by omega), w64 (by omega)⟩
    by_cases h9 : (l.length : Int) = 99
    · rw [if_pos h9, if_pos (.inl h9), toc_Reserve.j0, if_pos rfl]
    · rw [if_neg h9]
      by_cases h16 : cl = 16
      · rw [if_pos (.inr h16), toc_Reserve.j0, if_pos (by simpa using h16)]
      · rw [if_neg (by omega), toc_Reserve.j0, if_neg (by simpa using h16), start_eq c2 ⟨c4, c5⟩ c3 ht, clone_eq (by omega)]
        simp only [Option.bind]
        rw [hw.1, hw.2.1, hw.2.2]
        by_cases hf : a > cap - newStart cl l
        · rw [if_pos hf, if_pos hf]
        · rw [if_neg hf, if_neg hf, if_pos (by omega)]
  · rw [decide_eq_false hp, if_neg hp]; rfl
def apFind (l : List S40) (lba : Int) : Nat → Option Nat
 | 0 => none
 | n + 1 => if ¬ (rd_T40 l (n : Int)).f5 = 2 ∧ (rd_T40 l (n : Int)).f4 = lba then some n else apFind l lba n
theorem apFind_some {l : List S40} {lba : Int} : ∀ {n i : Nat}, apFind l lba n = some i → i < n ∧ ¬ (rd_T40 l (i : Int)).f5 = 2 ∧ (rd_T40 l (i : Int)).f4 = lba
 | 0, i, h => by cases h
 | n + 1, i, h => by
  unfold apFind at h
  by_cases hc : ¬ (rd_T40 l (n : Int)).f5 = 2 ∧ (rd_T40 l (n : Int)).f4 = lba
  · rw [if_pos hc] at h
    obtain rfl := Option.some.inj h
    exact ⟨by omega, hc⟩
  · rw [if_neg hc] at h
    have := apFind_some h
    exact ⟨by omega, this.2⟩
def apNew (x : S40) (cnt : Int) : S40 := ⟨x.f0, x.f1, x.f2, x.f3, x.f4 + cnt, 1, x.f6⟩
def apRes (cl : Int) (fin : Bool) (l : List S40) (cnt : Int) : Option Nat → Int × Bool × List S40 × Int
 | none => (0, false, [], 2)
 | some i => if pkP cnt (rd_T40 l (i : Int)).f6 then (if cnt > (rd_T40 l (i : Int)).f2 + (rd_T40 l (i : Int)).f3 - (rd_T40 l (i : Int)).f4 then (0, false, [], 12) else (cl, fin, l.set i (apNew (rd_T40 l (i : Int)) cnt), 0)) else (0, false, [], 1)
def opAppend (cl : Int) (fin : Bool) (l : List S40) (lba cnt : Int) : Int × Bool × List S40 × Int := apRes cl fin l cnt (apFind l lba l.length)
theorem ap_j1 {cap cl : Int} {fin : Bool} {l : List S40} (hc : cap ≤ 449849) (hn : l.length ≤ 99) (h : ∀ j : Nat, j < l.length → TOK cap (rd_T40 l (j : Int))) (k : Nat) (cnt : Int) (i : Nat) (hi : i < l.length) :
 toc_Append.j1 (k + 1) (rd_T40 l (i : Int)).f4 cnt (i : Int) cl fin l = some (apRes cl fin l cnt (some i)) := by
 obtain ⟨t0, t1, t2, t3, t4, t5, t6, -⟩ := h i hi
 rw [toc_Append.j1, if_neg (by omega), if_pos (by omega), if_pos (by omega), packets_eq, clone_eq (by omega)]
 unfold toc_end.f apRes apNew
 simp only [Option.bind, Int.toNat_natCast]
 have hset : ∀ y, rd_T40 (l.set i y) (i : Int) = y := fun y => by
  have := rd_set_self (l := l) (i := (i : Int)) y (by omega) (by omega)
  rwa [Int.toNat_natCast] at this
 have hw : wrap64 ((rd_T40 l (i : Int)).f2 + (rd_T40 l (i : Int)).f3) = (rd_T40 l (i : Int)).f2 + (rd_T40 l (i : Int)).f3 ∧ wrap64 ((rd_T40 l (i : Int)).f2 + (rd_T40 l (i : Int)).f3 - (rd_T40 l (i : Int)).f4) = (rd_T40 l (i : Int)).f2 + (rd_T40 l (i : Int)).f3 - (rd_T40 l (i : Int)).f4 := ⟨w64 (by omega), w64 (by omega)⟩
 rw [hw.1, hw.2]
 by_cases hp : pkP cnt (rd_T40 l (i : Int)).f6
 · rw [decide_eq_true hp, if_pos rfl, if_pos hp]
   by_cases hf : cnt > (rd_T40 l (i : Int)).f2 + (rd_T40 l (i : Int)).f3 - (rd_T40 l (i : Int)).f4
   · rw [if_pos hf, if_pos hf]
   · have hw2 : wrap64 ((rd_T40 l (i : Int)).f4 + cnt) = (rd_T40 l (i : Int)).f4 + cnt := w64 (by have := hp.1; omega)
     rw [if_neg hf, if_neg hf, if_pos (by omega), hset, List.set_set, hw2]
 · rw [decide_eq_false hp, if_neg hp]; rfl
theorem ap_l0 {cap cl : Int} {fin : Bool} {l : List S40} (hc : cap ≤ 449849) (hn : l.length ≤ 99) (h : ∀ j : Nat, j < l.length → TOK cap (rd_T40 l (j : Int))) (lba cnt : Int) :
 ∀ (n k : Nat), n ≤ l.length → toc_Append.l0 (k + n + 2) lba cnt ((n : Int) - 1) cl fin l = some (apRes cl fin l cnt (apFind l lba n))
 | 0, k, hl => by
  rw [toc_Append.l0, if_neg (by omega), toc_Append.j1, if_pos (by omega)]
  rfl
 | n + 1, k, hl => by
  have e : ((n + 1 : Nat) : Int) - 1 = (n : Int) := by omega
  have hw : wrap64 ((n : Int) - 1) = (n : Int) - 1 := w64 (by omega)
  have ek : k + (n + 1) + 1 = k + n + 2 := by omega
  rw [e, toc_Append.l0, if_pos (by omega), if_pos (by omega), if_pos (by omega), hw, ek]
  unfold apFind
  by_cases h5 : (rd_T40 l (n : Int)).f5 = 2
  · rw [if_pos h5, if_neg (fun hh => hh.1 h5)]
    exact ap_l0 hc hn h lba cnt n k (by omega)
  · rw [if_neg h5]
    by_cases h4 : (rd_T40 l (n : Int)).f4 = lba
    · subst h4
      rw [if_pos rfl, if_pos ⟨h5, rfl⟩]
      exact ap_j1 hc hn h (k + n + 1) cnt n (by omega)
    · rw [if_neg h4, if_neg (fun hh => h4 hh.2)]
      exact ap_l0 hc hn h lba cnt n k (by omega)
theorem append_toc (k : Nat) (cap cl : Int) (fin : Bool) (l : List S40) (a b : Int) (hB : ∀ x ∈ l, BdT x) (hv : masterdiscref14_Valid.f cap cl fin l = some true) : toc_Append.f (k + l.length + 2) cap cl fin l a b = some (opAppend cl fin l a b) := by
 obtain ⟨⟨c1, c2, c3, c4, c5⟩, ht⟩ := valid_toks hv
 unfold toc_Append.f opAppend
 rw [valid_eq _ _ _ _ hB, hv]
 simp only [Option.bind, if_true]
 rw [w64 (n := (l.length : Int) - 1) (by omega)]
 exact ap_l0 c2 c3 ht a b l.length k (Nat.le_refl _)
def opCloseT (cl : Int) (fin : Bool) (l : List S40) (num : Int) : Int × Bool × List S40 × Int :=
 if num < 1 ∨ num > (l.length : Int) then (0, false, [], 6) else
  if (rd_T40 l (num - 1)).f5 = 1 ∧ (num = (l.length : Int) ∨ (rd_T40 l (num - 1)).f4 = (rd_T40 l (num - 1)).f2 + (rd_T40 l (num - 1)).f3) then
   (cl, fin, l.set (num - 1).toNat ⟨(rd_T40 l (num - 1)).f0, (rd_T40 l (num - 1)).f1, (rd_T40 l (num - 1)).f2, (rd_T40 l (num - 1)).f4 - (rd_T40 l (num - 1)).f2, (rd_T40 l (num - 1)).f4, 2, (rd_T40 l (num - 1)).f6⟩, 0) else (0, false, [], 8)
theorem closeT_toc (cap cl : Int) (fin : Bool) (l : List S40) (num : Int) (hB : ∀ x ∈ l, BdT x) (hv : masterdiscref14_Valid.f cap cl fin l = some true) : toc_CloseTrack.f cap cl fin l num = some (opCloseT cl fin l num) := by
 obtain ⟨⟨c1, c2, c3, c4, c5⟩, ht⟩ := valid_toks hv
 unfold toc_CloseTrack.f opCloseT
 rw [valid_eq _ _ _ _ hB, hv]
 simp only [Option.bind, if_true]
 by_cases hn : num < 1 ∨ num > (l.length : Int)
 · rw [if_pos hn, if_pos hn]
 · rw [if_neg hn, if_neg hn, if_pos (by omega)]
   obtain ⟨t0, t1, t2, t3, t4, t5, t6, -⟩ := ht (num - 1).toNat (by omega)
   rw [show (((num - 1).toNat : Nat) : Int) = num - 1 by omega] at t0 t1 t2 t3 t4 t5 t6
   generalize hx : rd_T40 l (num - 1) = x at *
   have hw : wrap64 (x.f2 + x.f3) = x.f2 + x.f3 ∧ wrap64 (x.f4 - x.f2) = x.f4 - x.f2 := ⟨w64 (by omega), w64 (by omega)⟩
   unfold ctOk ctNew ctLast
   rw [hx, hw.1, hw.2]
   by_cases h5 : x.f5 = 1
   · by_cases hl : num = (l.length : Int)
     · have hb : (x.f5 == 1 && (decide (num - 1 + 1 = (l.length : Int)) || x.f4 == x.f2 + x.f3)) = true := by rw [h5, decide_eq_true (show num - 1 + 1 = (l.length : Int) by omega)]; rfl
       have hc : x.f5 = 1 ∧ (num = (l.length : Int) ∨ x.f4 = x.f2 + x.f3) := ⟨h5, .inl hl⟩
       rw [if_pos hb, if_pos hc, decide_eq_true (show num - 1 + 1 = (l.length : Int) by omega), if_pos rfl]
     · by_cases h4 : x.f4 = x.f2 + x.f3
       · have hb : (x.f5 == 1 && (decide (num - 1 + 1 = (l.length : Int)) || x.f4 == x.f2 + x.f3)) = true := by rw [h5, beq_iff_eq.mpr h4, Bool.or_true]; rfl
         have hc : x.f5 = 1 ∧ (num = (l.length : Int) ∨ x.f4 = x.f2 + x.f3) := ⟨h5, .inr h4⟩
         rw [if_pos hb, if_pos hc, decide_eq_false (show ¬ num - 1 + 1 = (l.length : Int) by omega), if_neg (show ¬ (false = true) by decide), show x.f4 - x.f2 = x.f3 by omega]
       · have hb : (x.f5 == 1 && (decide (num - 1 + 1 = (l.length : Int)) || x.f4 == x.f2 + x.f3)) = false := by rw [decide_eq_false (show ¬ num - 1 + 1 = (l.length : Int) by omega), beq_eq_false_iff_ne.mpr h4, Bool.or_false, Bool.and_false]
         have hc : ¬ (x.f5 = 1 ∧ (num = (l.length : Int) ∨ x.f4 = x.f2 + x.f3)) := fun h => h.2.elim hl h4
         rw [hb, if_neg hc]; rfl
   · have hb : (x.f5 == 1 && (decide (num - 1 + 1 = (l.length : Int)) || x.f4 == x.f2 + x.f3)) = false := by rw [beq_eq_false_iff_ne.mpr h5]; rfl
     have hc : ¬ (x.f5 = 1 ∧ (num = (l.length : Int) ∨ x.f4 = x.f2 + x.f3)) := fun h => h5 h.1
     rw [hb, if_neg hc]; rfl
def opCloseS (cl : Int) (fin : Bool) (l : List S40) (fz : Bool) : Int × Bool × List S40 × Int :=
 if fin = true then (0, false, [], 15) else if l.any unfB = true then (0, false, [], 8) else
  if l.any (openB cl) = true then (cl + 1, fz, l, 0) else if fz = true ∧ ¬ cl = 0 then (cl, true, l, 0) else (0, false, [], 8)
theorem closeS_toc (cap cl : Int) (fin : Bool) (l : List S40) (fz : Bool) (hB : ∀ x ∈ l, BdT x) (hv : masterdiscref14_Valid.f cap cl fin l = some true) : toc_CloseSession.f cap cl fin l fz = some (opCloseS cl fin l fz) := by
 obtain ⟨⟨c1, c2, c3, c4, c5⟩, ht⟩ := valid_toks hv
 unfold toc_CloseSession.f opCloseS csOk
 rw [valid_eq _ _ _ _ hB, hv]
 simp only [Option.bind, if_true]
 cases fin with
 | true => rfl
 | false =>
  simp only [Bool.false_eq_true, if_false]
  rw [if_pos (show l.length < 2513169434916 by omega)]
  cases hu : l.any unfB with
  | true => rfl
  | false =>
   cases ho : l.any (openB cl) with
   | true => rfl
   | false =>
    cases fz with
    | false => rfl
    | true =>
     by_cases h0 : cl = 0
     · rw [if_neg (show ¬ (true = true ∧ ¬ cl = 0) from fun h => h.2 h0), beq_iff_eq.mpr h0]; rfl
     · rw [if_pos (show true = true ∧ ¬ cl = 0 from ⟨rfl, h0⟩), beq_eq_false_iff_ne.mpr h0]; rfl
end Go.Proofs.Ytjhepdcdhabcjaa.G
namespace Go.Proofs.Ytjhepdcdhabcjaa.G
open Go.RowKit Go.Proofs.YtjhepdcdhabcjaaW.PrintWords Go.Proofs.YtjhepdcdhabcjaaW.PrintLast Go.Proofs.YtjhepdcdhabcjaaW.PrintMore
set_option linter.unusedVariables false
set_option linter.unusedSimpArgs false
def pE (l : List S40) (i : Nat) : Int := if i = 0 then 0 else (rd_T40 l ((i : Int) - 1)).f2 + (rd_T40 l ((i : Int) - 1)).f3
def pS (l : List S40) (i : Nat) : Int := if i = 0 then 1 else (rd_T40 l ((i : Int) - 1)).f1
def stateP (x : S40) : Prop := (x.f5 = 2 ∧ x.f4 = x.f2 + x.f3) ∨ (x.f5 = 0 ∧ x.f4 = x.f2) ∨ (x.f5 = 1 ∧ ¬ x.f4 = x.f2)
def packP (x : S40) : Prop := 0 < x.f6 → Int.tmod x.f3 x.f6 = 0 ∧ Int.tmod (x.f4 - x.f2) x.f6 = 0
structure TK (cap cl : Int) (i e s : Int) (x : S40) : Prop where
 num : x.f0 = i + 1
 place : (x.f1 = s ∧ x.f2 = e) ∨ (0 < i ∧ x.f1 = s + 1 ∧ x.f2 = e + 16)
 ses : x.f1 ≤ cl + 1 ∧ x.f1 ≤ 16
 len : 1 ≤ x.f3 ∧ x.f3 ≤ cap - x.f2
 pk : 0 ≤ x.f6 ∧ x.f6 ≤ 1024
 nxt : x.f2 ≤ x.f4 ∧ x.f4 ≤ x.f2 + x.f3
 pack : packP x
 state : stateP x
 clo : x.f1 ≤ cl → x.f5 = 2
theorem tk_iff {cap cl : Int} {i : Nat} {e ses : Int} (x : S40) (hc0 : cap ≤ 449849) (hcl : 0 ≤ cl ∧ cl ≤ 16) (hi : i ≤ 99) (he : 0 ≤ e ∧ e ≤ cap) (hs : 1 ≤ ses ∧ ses ≤ 16) :
 rvX cap cl (i : Int) (if rvT (i : Int) ses x = true then wrap64 (e + 16) else e) (if rvT (i : Int) ses x = true then wrap64 (ses + 1) else ses) x = true ↔ TK cap cl (i : Int) e ses x := by
 have hw : wrap64 ((i : Int) + 1) = (i : Int) + 1 ∧ wrap64 (ses + 1) = ses + 1 ∧ wrap64 (e + 16) = e + 16 ∧ wrap64 (cl + 1) = cl + 1 := ⟨w64 (by omega), w64 (by omega), w64 (by omega), w64 (by omega)⟩
 rw [hw.2.1, hw.2.2.1]
 have hT : rvT (i : Int) ses x = true ↔ (0 < (i : Int) ∧ x.f1 = ses + 1) := by unfold rvT; rw [hw.2.1]; exact decide_eq_true_iff
 constructor
 · intro h
   obtain ⟨⟨p0, p1, p2, p3, p4, p5, p6⟩, pb, pc, pd, pe⟩ := rvX_parts h
   rw [hw.1] at p0
   rw [hw.2.2.2] at p2
   have hpl : (x.f1 = ses ∧ x.f2 = e) ∨ (0 < (i : Int) ∧ x.f1 = ses + 1 ∧ x.f2 = e + 16) := by
    by_cases ht : rvT (i : Int) ses x = true
    · rw [if_pos ht] at p1 p4
      exact .inr ⟨(hT.1 ht).1, p1, p4⟩
    · rw [if_neg ht] at p1 p4
      exact .inl ⟨p1, p4⟩
   clear p1 p4 hT h
   have g2 : 0 ≤ x.f2 ∧ x.f2 ≤ 449865 := by rcases hpl with ⟨-, h⟩ | ⟨-, -, h⟩ <;> omega
   have hw2 : wrap64 (cap - x.f2) = cap - x.f2 := w64 (by omega)
   rw [hw2] at p6
   have hw3 : wrap64 (x.f2 + x.f3) = x.f2 + x.f3 := w64 (by omega)
   have pb := of_decide_eq_true (show decide _ = true from pb)
   have pc := of_decide_eq_true (show decide _ = true from pc)
   have pd := of_decide_eq_true (show decide _ = true from pd)
   have pe := of_decide_eq_true (show decide _ = true from pe)
   rw [hw3] at pb pd
   have hw4 : wrap64 (x.f4 - x.f2) = x.f4 - x.f2 := w64 (by omega)
   rw [hw4] at pc
   exact ⟨p0, hpl, ⟨p2, p3⟩, ⟨p5, p6⟩, ⟨pb.1, pb.2.1⟩, ⟨pb.2.2.1, pb.2.2.2⟩, pc, pd, pe⟩
 · intro h
   obtain ⟨p0, hpl, ⟨p2, p3⟩, ⟨p5, p6⟩, ⟨b0, b1⟩, ⟨b2, b3⟩, pc, pd, pe⟩ := h
   have g2 : 0 ≤ x.f2 ∧ x.f2 ≤ 449865 := by rcases hpl with ⟨-, h⟩ | ⟨-, -, h⟩ <;> omega
   have hw2 : wrap64 (cap - x.f2) = cap - x.f2 ∧ wrap64 (x.f2 + x.f3) = x.f2 + x.f3 ∧ wrap64 (x.f4 - x.f2) = x.f4 - x.f2 := ⟨w64 (by omega), w64 (by omega), w64 (by omega)⟩
   have hst : x.f1 = (if rvT (i : Int) ses x = true then ses + 1 else ses) ∧ x.f2 = (if rvT (i : Int) ses x = true then e + 16 else e) := by
    rcases hpl with ⟨h1, h2⟩ | ⟨h0, h1, h2⟩
    · have hn : ¬ rvT (i : Int) ses x = true := fun ht => by have := (hT.1 ht).2; omega
      rw [if_neg hn, if_neg hn]; exact ⟨h1, h2⟩
    · have hn : rvT (i : Int) ses x = true := hT.2 ⟨h0, h1⟩
      rw [if_pos hn, if_pos hn]; exact ⟨h1, h2⟩
   have hA : rvA cap cl (i : Int) (if rvT (i : Int) ses x = true then e + 16 else e) (if rvT (i : Int) ses x = true then ses + 1 else ses) x = true := decide_eq_true ⟨p0.trans hw.1.symm, hst.1, by rw [hw.2.2.2]; exact p2, p3, hst.2, p5, by rw [hw2.1]; exact p6⟩
   have hB : rvB x = true := decide_eq_true ⟨b0, b1, b2, by rw [hw2.2.1]; exact b3⟩
   have hC : rvC x = true := decide_eq_true (by rw [hw2.2.2]; exact pc)
   have hD : rvD x = true := decide_eq_true (by rw [hw2.2.1]; exact pd)
   have hE : rvE cl x = true := decide_eq_true pe
   rw [rvX, hA, hB, hC, hD, hE]
   rfl
def lastS (l : List S40) : Int := if 0 < l.length then pS l l.length else 0
structure VALID (cap cl : Int) (fin : Bool) (l : List S40) : Prop where
 cap0 : 1 ≤ cap ∧ cap ≤ 449849
 cnt : l.length ≤ 99
 cl0 : 0 ≤ cl ∧ cl ≤ 16
 tk : ∀ i : Nat, i < l.length → TK cap cl (i : Int) (pE l i) (pS l i) (rd_T40 l (i : Int))
 en : cl ≤ lastS l ∧ (fin = true → 1 ≤ cl ∧ lastS l = cl)
theorem pE_succ (l : List S40) (i : Nat) : pE l (i + 1) = (rd_T40 l (i : Int)).f2 + (rd_T40 l (i : Int)).f3 := by
 unfold pE
 rw [if_neg (by omega), show ((i + 1 : Nat) : Int) - 1 = (i : Int) by omega]
theorem pS_succ (l : List S40) (i : Nat) : pS l (i + 1) = (rd_T40 l (i : Int)).f1 := by
 unfold pS
 rw [if_neg (by omega), show ((i + 1 : Nat) : Int) - 1 = (i : Int) by omega]
theorem tk_next {cap cl i e s : Int} {x : S40} (h : TK cap cl i e s x) (he : 0 ≤ e) (hs : 1 ≤ s) : 0 ≤ x.f2 ∧ 0 ≤ x.f2 + x.f3 ∧ x.f2 + x.f3 ≤ cap ∧ 1 ≤ x.f1 ∧ x.f1 ≤ 16 ∧ e ≤ x.f2 ∧ s ≤ x.f1 := by
 obtain ⟨-, hp, h2, h3, -, -, -, -, -⟩ := h
 rcases hp with ⟨a, b⟩ | ⟨a, b, c⟩ <;> omega
theorem rvL_iff {cap cl : Int} {fin : Bool} {l : List S40} (hc0 : cap ≤ 449849) (hcl : 0 ≤ cl ∧ cl ≤ 16) (hn : l.length ≤ 99) : ∀ (d i : Nat), i + d = l.length → 0 ≤ pE l i ∧ pE l i ≤ cap → 1 ≤ pS l i ∧ pS l i ≤ 16 →
 (rvL cap cl fin l d i (pE l i) (pS l i) = true ↔ (∀ j : Nat, i ≤ j → j < l.length → TK cap cl (j : Int) (pE l j) (pS l j) (rd_T40 l (j : Int))) ∧ (cl ≤ lastS l ∧ (fin = true → 1 ≤ cl ∧ lastS l = cl)))
 | 0, i, hd, he, hs => by
  obtain rfl : i = l.length := by omega
  have hl : (if 0 < (l.length : Int) then pS l l.length else 0) = lastS l := by
   unfold lastS
   by_cases h : 0 < l.length
   · rw [if_pos h, if_pos (by omega)]
   · rw [if_neg h, if_neg (by omega)]
  show (decide _ = true) ↔ _
  rw [decide_eq_true_iff, hl]
  exact ⟨fun h => ⟨fun j h1 h2 => by omega, h⟩, fun h => h.2⟩
 | d + 1, i, hd, he, hs => by
  have hil : i < l.length := by omega
  rw [rvL]
  by_cases hx : rvX cap cl (i : Int) (if rvT (i : Int) (pS l i) (rd_T40 l (i : Int)) = true then wrap64 (pE l i + 16) else pE l i) (if rvT (i : Int) (pS l i) (rd_T40 l (i : Int)) = true then wrap64 (pS l i + 1) else pS l i) (rd_T40 l (i : Int)) = true
  · have ht := (tk_iff _ hc0 hcl (by omega) he hs).1 hx
    obtain ⟨n0, n1, n2, n3, n4, -⟩ := tk_next ht he.1 hs.1
    have hw : wrap64 ((rd_T40 l (i : Int)).f2 + (rd_T40 l (i : Int)).f3) = pE l (i + 1) := by rw [pE_succ]; exact w64 (by omega)
    have hs2 : (if rvT (i : Int) (pS l i) (rd_T40 l (i : Int)) = true then wrap64 (pS l i + 1) else pS l i) = pS l (i + 1) := by rw [pS_succ]; exact (rvX_parts hx).1.2.1.symm
    rw [if_pos hx, hw, hs2, rvL_iff hc0 hcl hn d (i + 1) (by omega) (by rw [pE_succ]; exact ⟨n1, n2⟩) (by rw [pS_succ]; exact ⟨n3, n4⟩)]
    constructor
    · rintro ⟨h1, h2⟩
      refine ⟨fun j hj1 hj2 => ?_, h2⟩
      by_cases hji : j = i
      · subst hji; exact ht
      · exact h1 j (by omega) hj2
    · rintro ⟨h1, h2⟩
      exact ⟨fun j hj1 hj2 => h1 j (by omega) hj2, h2⟩
  · rw [if_neg hx]
    constructor
    · intro h; cases h
    · rintro ⟨h1, -⟩
      exact absurd ((tk_iff _ hc0 hcl (by omega) he hs).2 (h1 i (Nat.le_refl _) hil)) hx
theorem valid_iff (cap cl : Int) (fin : Bool) (l : List S40) : masterdiscref14_Valid.f cap cl fin l = some true ↔ VALID cap cl fin l := by
 unfold masterdiscref14_Valid.f
 have e0 : pE l 0 = 0 := rfl
 have s0 : pS l 0 = 1 := rfl
 constructor
 · intro h
   have h := Option.some.inj h
   by_cases hh : rvH cap cl (l.length : Int) = true
   · rw [if_pos hh] at h
     have hd := of_decide_eq_true hh
     have := (rvL_iff (l := l) (fin := fin) hd.2.1 hd.2.2.2 (by omega) l.length 0 (by omega) (by rw [e0]; omega) (by rw [s0]; omega)).1 (by rw [e0, s0]; exact h)
     exact ⟨⟨hd.1, hd.2.1⟩, by omega, hd.2.2.2, fun i hi => this.1 i (Nat.zero_le _) hi, this.2⟩
   · rw [if_neg hh] at h; cases h
 · rintro ⟨⟨c1, c2⟩, c3, c4, ht, he⟩
   have hh : rvH cap cl (l.length : Int) = true := decide_eq_true ⟨c1, c2, by omega, c4⟩
   have := (rvL_iff (l := l) (fin := fin) c2 c4 c3 l.length 0 (by omega) (by rw [e0]; omega) (by rw [s0]; omega)).2 ⟨fun j _ hj => ht j hj, he⟩
   rw [e0, s0] at this
   rw [if_pos hh, this]
theorem v_bd {cap cl : Int} {fin : Bool} {l : List S40} (h : VALID cap cl fin l) : ∀ i : Nat, i ≤ l.length → 0 ≤ pE l i ∧ pE l i ≤ cap ∧ 1 ≤ pS l i ∧ pS l i ≤ 16
 | 0, _ => by have := h.cap0; exact ⟨Int.le_refl _, by show (0 : Int) ≤ cap; omega, Int.le_refl _, by show (1 : Int) ≤ 16; omega⟩
 | i + 1, hi => by
  have ih := v_bd h i (by omega)
  obtain ⟨n0, n1, n2, n3, n4, -⟩ := tk_next (h.tk i (by omega)) ih.1 ih.2.2.1
  rw [pE_succ, pS_succ]
  exact ⟨n1, n2, n3, n4⟩
theorem v_tk {cap cl : Int} {fin : Bool} {l : List S40} (h : VALID cap cl fin l) {i : Nat} (hi : i < l.length) : TK cap cl (i : Int) (pE l i) (pS l i) (rd_T40 l (i : Int)) ∧ 0 ≤ (rd_T40 l (i : Int)).f2 ∧ (rd_T40 l (i : Int)).f2 + (rd_T40 l (i : Int)).f3 ≤ cap := by
 have ih := v_bd h i (by omega)
 obtain ⟨n0, n1, n2, -⟩ := tk_next (h.tk i hi) ih.1 ih.2.2.1
 exact ⟨h.tk i hi, n0, n2⟩
theorem v_order {cap cl : Int} {fin : Bool} {l : List S40} (h : VALID cap cl fin l) {i : Nat} : ∀ j : Nat, i < j → j < l.length → (rd_T40 l (i : Int)).f2 + (rd_T40 l (i : Int)).f3 ≤ (rd_T40 l (j : Int)).f2 ∧ (rd_T40 l (i : Int)).f1 ≤ (rd_T40 l (j : Int)).f1
 | 0, h1, _ => by omega
 | j + 1, h1, h2 => by
  have ih := v_bd h (j + 1) (by omega)
  obtain ⟨n0, n1, n2, n3, n4, n5, n6⟩ := tk_next (h.tk (j + 1) h2) ih.1 ih.2.2.1
  rw [pE_succ] at n5
  rw [pS_succ] at n6
  by_cases hij : i = j
  · subst hij; exact ⟨n5, n6⟩
  · have := v_order (i := i) h j (by omega) (by omega)
    have hl := (h.tk j (by omega)).len
    exact ⟨by omega, by omega⟩
theorem v_last {cap cl : Int} {fin : Bool} {l : List S40} (h : VALID cap cl fin l) {i : Nat} (hi : i < l.length) : (rd_T40 l (i : Int)).f1 ≤ lastS l ∧ lastS l ≤ cl + 1 ∧ lastS l ≤ 16 := by
 have hl : lastS l = (rd_T40 l ((l.length - 1 : Nat) : Int)).f1 := by
  unfold lastS
  rw [if_pos (by omega)]
  have := pS_succ l (l.length - 1)
  rwa [show l.length - 1 + 1 = l.length by omega] at this
 rw [hl]
 have ht := (h.tk (l.length - 1) (by omega)).ses
 refine ⟨?_, ht.1, ht.2⟩
 by_cases hij : i = l.length - 1
 · subst hij; exact Int.le_refl _
 · exact (v_order h (l.length - 1) (by omega) (by omega)).2
end Go.Proofs.Ytjhepdcdhabcjaa.G
