/- Texts of one claim, merged by a program of this session; what is proved stands in the last of them. -/
import Derived.Test.YtjhepdcdhabcjaaKa1
import Derived.Test.YtjhepdcdhabcjaaKa2
import Derived.Test.YtjhepdcdhabcjaaKa3
import Derived.Test.YtjhepdcdhabcjaaKa4
namespace Go.Proofs.Ytjhepdcdhabcjaa.G
open Go.RowKit Go.Proofs.YtjhepdcdhabcjaaW.PrintWords Go.Proofs.YtjhepdcdhabcjaaW.PrintLast Go.Proofs.YtjhepdcdhabcjaaW.PrintMore
attribute [local go_sem] max2_int min2_int max_two min_two max_three min_three max_four min_four   -- for this text's walks alone
set_option linter.unusedVariables false
set_option linter.unusedSimpArgs false
mutual
def masterdiscref14_Append.l0 : Nat → Int → Int → Int → Int → Bool → List (S40) → Option (Int × Bool × (List (S40)) × Int)
 | 0, _, _, _, _, _, _ => none
 | k + 1, x2, x3, x10, x239000, x239001, x239002 => if x10 ≥ 0 then (if 0 ≤ x10 then (if x10 < (x239002.length : Int) then (if ((rd_T40 x239002 x10).f5) = 2 then (masterdiscref14_Append.j1 k x2 x3 x10 true x239000 x239001 x239002 ((rd_T40 x239002 x10).f0) ((rd_T40 x239002 x10).f1) ((rd_T40 x239002 x10).f2) ((rd_T40 x239002 x10).f3) ((rd_T40 x239002 x10).f4) ((rd_T40 x239002 x10).f5) ((rd_T40 x239002 x10).f6)) else (masterdiscref14_Append.j1 k x2 x3 x10 (((rd_T40 x239002 x10).f4) != x2) x239000 x239001 x239002 ((rd_T40 x239002 x10).f0) ((rd_T40 x239002 x10).f1) ((rd_T40 x239002 x10).f2) ((rd_T40 x239002 x10).f3) ((rd_T40 x239002 x10).f4) ((rd_T40 x239002 x10).f5) ((rd_T40 x239002 x10).f6))) else (none)) else (none)) else (some (0, false, ([] : List (S40)), 2))
def masterdiscref14_Append.j1 : Nat → Int → Int → Int → Bool → Int → Bool → List (S40) → Int → Int → Int → Int → Int → Int → Int → Option (Int × Bool × (List (S40)) × Int)
 | 0, _, _, _, _, _, _, _, _, _, _, _, _, _, _ => none
 | k + 1, x2, x3, x10, x38, x239000, x239001, x239002, x243000, x243001, x243002, x243003, x243004, x243005, x243006 => if x38 = true then (masterdiscref14_Append.l0 k x2 x3 (wrap64 (x10 - 1)) x239000 x239001 x239002) else (if x3 < 1 then (masterdiscref14_Append.j2 k x3 x10 true x239000 x239001 x239002 x243000 x243001 x243002 x243003 x243004 x243005 x243006) else (if x243006 > 0 then (if x243006 = 0 then (none) else (masterdiscref14_Append.j2 k x3 x10 ((Int.tmod x3 x243006) != 0) x239000 x239001 x239002 x243000 x243001 x243002 x243003 x243004 x243005 x243006)) else (masterdiscref14_Append.j2 k x3 x10 false x239000 x239001 x239002 x243000 x243001 x243002 x243003 x243004 x243005 x243006)))
def masterdiscref14_Append.j2 : Nat → Int → Int → Bool → Int → Bool → List (S40) → Int → Int → Int → Int → Int → Int → Int → Option (Int × Bool × (List (S40)) × Int)
 | 0, _, _, _, _, _, _, _, _, _, _, _, _, _ => none
 | k + 1, x3, x10, x52, x239000, x239001, x239002, x243000, x243001, x243002, x243003, x243004, x243005, x243006 => if x52 = true then (some (0, false, ([] : List (S40)), 1)) else (if x3 > (wrap64 ((wrap64 (x243002 + x243003)) - x243004)) then (some (0, false, ([] : List (S40)), 12)) else ((masterdiscref14_changed.f x239000 x239001 x239002 x10 x243000 x243001 x243002 x243003 (wrap64 (x243004 + x3)) 1 x243006).bind fun bt243 => (some (bt243.1, bt243.2.1, bt243.2.2, 0))))
end
def masterdiscref14_Append.f (k : Nat) (a0 : Int) (a1_0 : Int) (a1_1 : Bool) (l1_2 : List (S40)) (a2 : Int) (a3 : Int) : Option (Int × Bool × (List (S40)) × Int) := (masterdiscref14_Valid.f a0 a1_0 a1_1 l1_2).bind fun t240 => (if t240 = true then (masterdiscref14_Append.l0 k a2 a3 (wrap64 ((l1_2.length : Int) - 1)) a1_0 a1_1 l1_2) else (some (0, false, ([] : List (S40)), 1)))
theorem masterdiscref14_Append.mono_l : ∀ k, (∀ y0 y1 y2 y3 y4 y5, LeO (masterdiscref14_Append.l0 k y0 y1 y2 y3 y4 y5) (masterdiscref14_Append.l0 (k + 1) y0 y1 y2 y3 y4 y5)) ∧ (∀ y0 y1 y2 y3 y4 y5 y6 y7 y8 y9 y10 y11 y12 y13, LeO (masterdiscref14_Append.j1 k y0 y1 y2 y3 y4 y5 y6 y7 y8 y9 y10 y11 y12 y13) (masterdiscref14_Append.j1 (k + 1) y0 y1 y2 y3 y4 y5 y6 y7 y8 y9 y10 y11 y12 y13)) ∧ (∀ y0 y1 y2 y3 y4 y5 y6 y7 y8 y9 y10 y11 y12, LeO (masterdiscref14_Append.j2 k y0 y1 y2 y3 y4 y5 y6 y7 y8 y9 y10 y11 y12) (masterdiscref14_Append.j2 (k + 1) y0 y1 y2 y3 y4 y5 y6 y7 y8 y9 y10 y11 y12))
 | 0 => ⟨fun _ _ _ _ _ _ r h => by simp [masterdiscref14_Append.l0] at h, fun _ _ _ _ _ _ _ _ _ _ _ _ _ _ r h => by simp [masterdiscref14_Append.j1] at h, fun _ _ _ _ _ _ _ _ _ _ _ _ _ r h => by simp [masterdiscref14_Append.j2] at h⟩
 | k + 1 => by
  obtain ⟨ih0, ih1, ih2⟩ := masterdiscref14_Append.mono_l k
  refine ⟨?_, ?_, ?_⟩
  · intro y0 y1 y2 y3 y4 y5
    unfold masterdiscref14_Append.l0
    repeat' first
    | (with_reducible exact ih0 _ _ _ _ _ _)
    | (with_reducible exact ih1 _ _ _ _ _ _ _ _ _ _ _ _ _ _)
    | (with_reducible exact ih2 _ _ _ _ _ _ _ _ _ _ _ _ _)
    | (with_reducible exact LeO.refl _)
    | (with_reducible exact LeO.none _)
    | (with_reducible refine LeO.ite ?_ ?_)
    | (with_reducible refine LeO.bind ?_ (fun _ => ?_))
    | exact ih0 _ _ _ _ _ _
    | exact ih1 _ _ _ _ _ _ _ _ _ _ _ _ _ _
    | exact ih2 _ _ _ _ _ _ _ _ _ _ _ _ _
    | exact LeO.none _
    | refine LeO.ite ?_ ?_
    | refine LeO.bind ?_ (fun _ => ?_)
  · intro y0 y1 y2 y3 y4 y5 y6 y7 y8 y9 y10 y11 y12 y13
    unfold masterdiscref14_Append.j1
    repeat' first
    | (with_reducible exact ih0 _ _ _ _ _ _)
    | (with_reducible exact ih1 _ _ _ _ _ _ _ _ _ _ _ _ _ _)
    | (with_reducible exact ih2 _ _ _ _ _ _ _ _ _ _ _ _ _)
    | (with_reducible exact LeO.refl _)
    | (with_reducible exact LeO.none _)
    | (with_reducible refine LeO.ite ?_ ?_)
    | (with_reducible refine LeO.bind ?_ (fun _ => ?_))
    | exact ih0 _ _ _ _ _ _
    | exact ih1 _ _ _ _ _ _ _ _ _ _ _ _ _ _
    | exact ih2 _ _ _ _ _ _ _ _ _ _ _ _ _
    | exact LeO.none _
    | refine LeO.ite ?_ ?_
    | refine LeO.bind ?_ (fun _ => ?_)
  · intro y0 y1 y2 y3 y4 y5 y6 y7 y8 y9 y10 y11 y12
    unfold masterdiscref14_Append.j2
    repeat' first
    | (with_reducible exact ih0 _ _ _ _ _ _)
    | (with_reducible exact ih1 _ _ _ _ _ _ _ _ _ _ _ _ _ _)
    | (with_reducible exact ih2 _ _ _ _ _ _ _ _ _ _ _ _ _)
    | (with_reducible exact LeO.refl _)
    | (with_reducible exact LeO.none _)
    | (with_reducible refine LeO.ite ?_ ?_)
    | (with_reducible refine LeO.bind ?_ (fun _ => ?_))
    | exact ih0 _ _ _ _ _ _
    | exact ih1 _ _ _ _ _ _ _ _ _ _ _ _ _ _
    | exact ih2 _ _ _ _ _ _ _ _ _ _ _ _ _
    | exact LeO.none _
    | refine LeO.ite ?_ ?_
    | refine LeO.bind ?_ (fun _ => ?_)
theorem masterdiscref14_Append.mono : ∀ a0 a1 a2 a3 a4 a5 k, LeO (masterdiscref14_Append.f k a0 a1 a2 a3 a4 a5) (masterdiscref14_Append.f (k + 1) a0 a1 a2 a3 a4 a5) := by
 intro a0 a1 a2 a3 a4 a5 k
 obtain ⟨ih0, ih1, ih2⟩ := masterdiscref14_Append.mono_l k
 unfold masterdiscref14_Append.f
 repeat' first
  | (with_reducible exact ih0 _ _ _ _ _ _)
  | (with_reducible exact ih1 _ _ _ _ _ _ _ _ _ _ _ _ _ _)
  | (with_reducible exact ih2 _ _ _ _ _ _ _ _ _ _ _ _ _)
  | (with_reducible exact LeO.refl _)
  | (with_reducible exact LeO.none _)
  | (with_reducible refine LeO.ite ?_ ?_)
  | (with_reducible refine LeO.bind ?_ (fun _ => ?_))
  | exact ih0 _ _ _ _ _ _
  | exact ih1 _ _ _ _ _ _ _ _ _ _ _ _ _ _
  | exact ih2 _ _ _ _ _ _ _ _ _ _ _ _ _
  | exact LeO.none _
  | refine LeO.ite ?_ ?_
  | refine LeO.bind ?_ (fun _ => ?_)
set_option maxHeartbeats 8000000 in
set_option maxRecDepth 100000 in
theorem masterdiscref14_Append.calls (k : Nat) (a0 : Int) (a1_0 : Int) (a1_1 : Bool) (A1_2 : Option Addr) (c1_2 : Nat) (l1_2 : List (S40)) (a2 : Int) (a3 : Int) (r1 : Int) (r2 : Bool) (r3 : List (S40)) (r4 : Int) (w : World) (hr1_2 : Kd.C k40 w A1_2 l1_2.length l1_2) (hc1_2 : l1_2.length ≤ c1_2) (h : masterdiscref14_Append.f k a0 a1_0 a1_1 l1_2 a2 a3 = some (r1, r2, r3, r4)) :
 Calls Try.prog 21 #[.int .i64 a0, .agg #[.int .i64 a1_0, .bool a1_1, .slice A1_2 l1_2.length c1_2], .int .i64 a2, .int .i64 a3] w fun e w' => ∃ v2_ : Value, e = .returned (.tuple #[.agg #[.int .i64 r1, .bool r2, v2_], .int .i64 r4]) ∧ Kd.R k40 40 w' w.heap.size (fun _ => True) v2_ r3 ∧ Below w.heap.size w w' := by
 have hu24 := Try.underlying24
 have hu40 := Try.underlying40
 have HR1_2 := Aside0.mk hr1_2
 have HC1_2 := Aside0.mk hc1_2
 clear hr1_2 hc1_2
 have HB := Aside0.mk (Below.refl w.heap.size w)
 have H : ((masterdiscref14_Valid.f a0 a1_0 a1_1 l1_2).bind fun t240 => (if t240 = true then (masterdiscref14_Append.l0 k a2 a3 (wrap64 ((l1_2.length : Int) - 1)) a1_0 a1_1 l1_2) else (some (0, false, ([] : List (S40)), 1)))) = some (r1, r2, r3, r4) := h
 clear h
 replace H := Option.bind_eq_some_iff.mp H
 obtain ⟨t240, A50, H⟩ := H
 replace H : (if t240 = true then (masterdiscref14_Append.l0 k a2 a3 (wrap64 ((l1_2.length : Int) - 1)) a1_0 a1_1 l1_2) else (some (0, false, ([] : List (S40)), 1))) = some (r1, r2, r3, r4) := H
 have A5 := Aside0.mk A50
 clear A50
 by_cases c6 : t240 = true
 · subst c6
   have H1 : (masterdiscref14_Append.l0 k a2 a3 (wrap64 ((l1_2.length : Int) - 1)) a1_0 a1_1 l1_2) = some (r1, r2, r3, r4) := by rw [if_pos rfl] at H; exact H
   clear H
   have H := H1
   clear H1
   have H' := Aside0.mk H
   clear H
   go_enter Try.func21, Try.ntmps21
   go_wp2_with (first | ((with_reducible refine gate_dst (N := 5) rfl ?_); refine box_event ?hg (N := 5) ?hd (cs := #[.int .i64 a1_0, .bool a1_1, .slice A1_2 l1_2.length c1_2]) (t := 24) ?hr ?_; (case hd => rfl); (case hg => rfl); (case hr => first | (go_simp; done) | (go_simp; rfl)); intro gb238 hg w7 hbox hb; have n0_ := Aside0.mk (below_step (by repeat (first | (with_reducible first | exact HB.out | apply below_alloc | apply pw_below_drewN | apply below_drew1) | exact HB.out)) hb); have n1_ := Aside0.mk (hbox); have n2_ := Aside0.mk ((by rw [hg]; exact (below_size (by repeat (first | (with_reducible first | exact HB.out | apply below_alloc | apply pw_below_drewN | apply below_drew1) | exact HB.out))) : w.heap.size ≤ gb238)); have n3_ := Aside0.mk ((by rw [hg]; exact (below_size (by repeat (first | (with_reducible first | exact HB.out | apply below_alloc | apply pw_below_drewN | apply below_drew1) | exact HB.out))) : w.heap.size ≤ gb238)); clear HB; have HB := n0_; have BK238 := n1_; have GW238 := n2_; have GE238 := n3_; clear n0_ n1_ n2_ n3_; clear hb hbox hg) | ((with_reducible refine gate_dst (N := 8) rfl ?_); refine box_event ?hg (N := 8) ?hd (cs := #[.int .i64 0, .bool false, .slice none 0 0]) (t := 24) ?hr ?_; (case hd => rfl); (case hg => rfl); (case hr => first | (go_simp; done) | (go_simp; rfl)); intro gb239 hg w8 hbox hb; have n0_ := Aside0.mk (blk_below (g := gb238) (o := .cells #[.int .i64 a1_0, .bool a1_1, .slice A1_2 l1_2.length c1_2] 24 (0, 0)) (by (with_reducible repeat (first | refine blk_drewN ?_ _ | refine blk_drew ?_ | refine blk_alloc ?_ _)); exact BK238.out) hb); have n1_ := Aside0.mk (below_step (by repeat (first | (with_reducible first | exact HB.out | apply below_alloc | apply pw_below_drewN | apply below_drew1 | refine below_set ?_ GE238.out) | exact HB.out)) hb); have n2_ := Aside0.mk (hbox); have n3_ := Aside0.mk ((by rw [hg]; exact (below_size (by repeat (first | (with_reducible first | exact HB.out | apply below_alloc | apply pw_below_drewN | apply below_drew1 | refine below_set ?_ GE238.out) | exact HB.out))) : w.heap.size ≤ gb239)); have n4_ := Aside0.mk ((by rw [hg]; exact (below_size (by repeat (first | (with_reducible first | exact HB.out | apply below_alloc | apply pw_below_drewN | apply below_drew1 | refine below_set ?_ GE238.out) | exact HB.out))) : w.heap.size ≤ gb239)); have n5_ := Aside0.mk ((by rw [hg]; exact Nat.ne_of_lt (blk_lt (g := gb238) (o := .cells #[.int .i64 a1_0, .bool a1_1, .slice A1_2 l1_2.length c1_2] 24 (0, 0)) (by (with_reducible repeat (first | refine blk_drewN ?_ _ | refine blk_drew ?_ | refine blk_alloc ?_ _)); exact BK238.out)) : gb238 ≠ gb239)); have n6_ := Aside0.mk ((by rw [hg]; exact Nat.ne_of_gt (blk_lt (g := gb238) (o := .cells #[.int .i64 a1_0, .bool a1_1, .slice A1_2 l1_2.length c1_2] 24 (0, 0)) (by (with_reducible repeat (first | refine blk_drewN ?_ _ | refine blk_drew ?_ | refine blk_alloc ?_ _)); exact BK238.out)) : gb239 ≠ gb238)); clear BK238; clear HB; have BK238 := n0_; have HB := n1_; have BK239 := n2_; have GW239 := n3_; have GE239 := n4_; have NB238_239 := n5_; have NB239_238 := n6_; clear n0_ n1_ n2_ n3_ n4_ n5_ n6_; clear hb hbox hg; have hnb9 := NB238_239.out; have hnc9 := NB239_238.out; obtain ⟨hcz10_0, hcz10_1, hcz10_2⟩ := cel3 BK238.out; obtain ⟨hfz10_0, hfz10_1, hfz10_2⟩ := frz3 BK238.out) | ((with_reducible refine gate_callee (f := 11) rfl ?_); refine goesL_ (some 14) rfl rfl Try.func11 (by kernel_rfl) rfl #[.int .i64 a0, .agg #[.int .i64 a1_0, .bool a1_1, .slice A1_2 l1_2.length c1_2]] rfl (by (try simp only [List.map_toArray, List.map_cons, List.map_nil]); first | done | rfl | (simp only [List.length_drop, List.length_take]; rfl)) ?_; (with_reducible refine (masterdiscref14_Valid.calls a0 a1_0 a1_1 _ _ l1_2 true _ ?side1 ?side2 A5.out).mono ?_); (case side1 => repeat (first | exact (Kd.C_below HR1_2.out HB.out) | (with_reducible refine Kd.C_alloc ?_ _) | (with_reducible refine Kd.C_drewN ?_ _) | (with_reducible refine Kd.C_drew ?_))); (case side2 => exact HC1_2.out); rintro e w11 ⟨rfl, hb⟩; refine ⟨_, rfl, ?_⟩; have n0_ := Aside0.mk (blk_below (g := gb238) (o := .cells #[.int .i64 a1_0, .bool a1_1, .slice A1_2 l1_2.length c1_2] 24 (0, 0)) (by (with_reducible repeat (first | refine blk_drewN ?_ _ | refine blk_drew ?_ | refine blk_alloc ?_ _)); exact BK238.out) hb); have n1_ := Aside0.mk (blk_below (g := gb239) (o := .cells #[.int .i64 0, .bool false, .slice none 0 0] 24 (0, 0)) (by (with_reducible repeat (first | refine blk_drewN ?_ _ | refine blk_drew ?_ | refine blk_alloc ?_ _)); exact BK239.out) hb); have n2_ := Aside0.mk (below_step (by repeat (first | (with_reducible first | exact HB.out | apply below_alloc | apply pw_below_drewN | apply below_drew1 | refine below_set ?_ GE238.out | refine below_set ?_ GE239.out) | exact HB.out)) hb); clear BK238; clear BK239; clear HB; have BK238 := n0_; have BK239 := n1_; have HB := n2_; clear n0_ n1_ n2_; (try clear hb); (try clear hb2); (try clear hk); (try clear hi); obtain ⟨hcz12_0, hcz12_1, hcz12_2⟩ := cel3 BK238.out; obtain ⟨hfz12_0, hfz12_1, hfz12_2⟩ := frz3 BK238.out))
   go_loopg [10] k (fun kq v10 w' => ∃ (x10_1 : Int) (x240000_1 : Int) (x240001_1 : Bool), v10 = .int .i64 x10_1 ∧ Aside0 (masterdiscref14_Append.l0 kq a2 a3 x10_1 a1_0 a1_1 l1_2 = some (r1, r2, r3, r4)) ∧ Aside0 (kq ≤ k) ∧ Aside0 (w'.heap[gb238]? = some (.cells #[.int .i64 a1_0, .bool a1_1, (.slice A1_2 l1_2.length c1_2)] 24 (0, 0))) ∧ Aside0 (w'.heap[gb239]? = some (.cells #[.int .i64 x240000_1, .bool x240001_1, (.slice none 0 0)] 24 (0, 0))) ∧ Aside0 (Below w.heap.size w w'))
   case atStart => exact ⟨(wrap64 ((l1_2.length : Int) - 1)), (0), (false), (by first | rfl | (simp; done) | (simp [*]; done)), H', ⟨Nat.le_refl _⟩, ⟨by (with_reducible repeat (first | refine blk_drewN ?_ _ | refine blk_drew ?_ | refine blk_alloc ?_ _)); exact BK238.out⟩, ⟨by (with_reducible repeat (first | refine blk_drewN ?_ _ | refine blk_drew ?_ | refine blk_alloc ?_ _)); exact BK239.out⟩, ⟨by repeat (first | (with_reducible first | exact HB.out | apply below_alloc | apply pw_below_drewN | apply below_drew1 | refine below_set ?_ GE238.out | refine below_set ?_ GE239.out) | exact HB.out)⟩⟩
   case round =>
    clear H'
    try clear c1
    try clear c2
    try clear p2
    try clear c6
    try clear p6
    try clear c9
    try clear c11
    try clear hcz10_0
    try clear hcz10_1
    try clear hcz10_2
    try clear hcz12_0
    try clear hcz12_1
    try clear hcz12_2
    try clear hfz10_0
    try clear hfz10_1
    try clear hfz10_2
    try clear hfz12_0
    try clear hfz12_1
    try clear hfz12_2
    obtain ⟨x10_1, x240000_1, x240001_1, rfl, HA, HK1, BK238, BK239, HB⟩ := hrel
    cases gk with
    | zero => exact absurd HA.out (by simp [masterdiscref14_Append.l0])
    | succ k1 =>
     have H := HA.out
     clear HA
     simp only [masterdiscref14_Append.l0] at H
     by_cases c13 : x10_1 ≥ 0
     · rw [if_pos c13] at H
       have c13b0 : decide (0 ≤ x10_1) = true := decide_eq_true c13
       clear c13
       by_cases c14 : 0 ≤ x10_1
       · rw [if_pos c14] at H
         have c14b0 : decide (0 ≤ x10_1) = true := decide_eq_true c14
         clear c14
         by_cases c15 : x10_1 < (l1_2.length : Int)
         · rw [if_pos c15] at H
           have c15b0 : decide (x10_1 < (l1_2.length : Int)) = true := decide_eq_true c15
           clear c15
           have HC16 := Aside0.mk H
           clear H
           have hnb17 := NB238_239.out
           have hnc17 := NB239_238.out
           obtain ⟨hcz18_0, hcz18_1, hcz18_2⟩ := cel3 BK238.out
           obtain ⟨hfz18_0, hfz18_1, hfz18_2⟩ := frz3 BK238.out
           have p241 : 0 ≤ (x10_1 : Int) := of_decide_eq_true (by first | (with_reducible assumption) | assumption)
           have q241 : x10_1 < (l1_2.length : Int) := of_decide_eq_true (by first | (with_reducible assumption) | assumption)
           obtain ⟨ad241, e241, hx241_0, hx241_1, hx241_2, hx241_3, hx241_4, hx241_5, hx241_6⟩ := at_T40 HR1_2.out x10_1 p241 q241
           cases e241
           replace hx241_0 := upc HB.out hx241_0
           replace hx241_1 := upc HB.out hx241_1
           replace hx241_2 := upc HB.out hx241_2
           replace hx241_3 := upc HB.out hx241_3
           replace hx241_4 := upc HB.out hx241_4
           replace hx241_5 := upc HB.out hx241_5
           replace hx241_6 := upc HB.out hx241_6
           replace p241 := eq_true p241
           replace q241 := eq_true q241
           go_upto_region 7 with (first | ((with_reducible refine gate_dst (N := 11) rfl ?_); refine box_event ?hg (N := 11) ?hd (cs := #[.int .i64 0, .int .i64 0, .int .i64 0, .int .i64 0, .int .i64 0, .int .i64 0, .int .i64 0]) (t := 40) ?hr ?_; (case hd => rfl); (case hg => rfl); (case hr => first | (go_simp; done) | (go_simp; rfl)); intro gb242 hg w19 hbox hb; have n0_ := Aside0.mk (blk_below (g := gb238) (o := .cells #[.int .i64 a1_0, .bool a1_1, .slice (some ad241) l1_2.length c1_2] 24 (0, 0)) (by (with_reducible repeat (first | refine blk_drewN ?_ _ | refine blk_drew ?_ | refine blk_alloc ?_ _)); exact BK238.out) hb); have n1_ := Aside0.mk (blk_below (g := gb239) (o := .cells #[.int .i64 x240000_1, .bool x240001_1, .slice none 0 0] 24 (0, 0)) (by (with_reducible repeat (first | refine blk_drewN ?_ _ | refine blk_drew ?_ | refine blk_alloc ?_ _)); exact BK239.out) hb); have n2_ := Aside0.mk (below_step (by repeat (first | (with_reducible first | exact HB.out | apply below_alloc | apply pw_below_drewN | apply below_drew1 | refine below_set ?_ GE238.out | refine below_set ?_ GE239.out) | exact HB.out)) hb); have n3_ := Aside0.mk (hbox); have n4_ := Aside0.mk ((by rw [hg]; exact (below_size (by repeat (first | (with_reducible first | exact HB.out | apply below_alloc | apply pw_below_drewN | apply below_drew1 | refine below_set ?_ GE238.out | refine below_set ?_ GE239.out) | exact HB.out))) : w.heap.size ≤ gb242)); have n5_ := Aside0.mk ((by rw [hg]; exact (below_size (by repeat (first | (with_reducible first | exact HB.out | apply below_alloc | apply pw_below_drewN | apply below_drew1 | refine below_set ?_ GE238.out | refine below_set ?_ GE239.out) | exact HB.out))) : w.heap.size ≤ gb242)); have n6_ := Aside0.mk ((by rw [hg]; exact Nat.ne_of_lt (blk_lt (g := gb238) (o := .cells #[.int .i64 a1_0, .bool a1_1, .slice (some ad241) l1_2.length c1_2] 24 (0, 0)) (by (with_reducible repeat (first | refine blk_drewN ?_ _ | refine blk_drew ?_ | refine blk_alloc ?_ _)); exact BK238.out)) : gb238 ≠ gb242)); have n7_ := Aside0.mk ((by rw [hg]; exact Nat.ne_of_gt (blk_lt (g := gb238) (o := .cells #[.int .i64 a1_0, .bool a1_1, .slice (some ad241) l1_2.length c1_2] 24 (0, 0)) (by (with_reducible repeat (first | refine blk_drewN ?_ _ | refine blk_drew ?_ | refine blk_alloc ?_ _)); exact BK238.out)) : gb242 ≠ gb238)); have n8_ := Aside0.mk ((by rw [hg]; exact Nat.ne_of_lt (blk_lt (g := gb239) (o := .cells #[.int .i64 x240000_1, .bool x240001_1, .slice none 0 0] 24 (0, 0)) (by (with_reducible repeat (first | refine blk_drewN ?_ _ | refine blk_drew ?_ | refine blk_alloc ?_ _)); exact BK239.out)) : gb239 ≠ gb242)); have n9_ := Aside0.mk ((by rw [hg]; exact Nat.ne_of_gt (blk_lt (g := gb239) (o := .cells #[.int .i64 x240000_1, .bool x240001_1, .slice none 0 0] 24 (0, 0)) (by (with_reducible repeat (first | refine blk_drewN ?_ _ | refine blk_drew ?_ | refine blk_alloc ?_ _)); exact BK239.out)) : gb242 ≠ gb239)); clear BK238; clear BK239; clear HB; have BK238 := n0_; have BK239 := n1_; have HB := n2_; have BK242 := n3_; have GW242 := n4_; have GE242 := n5_; have NB238_242 := n6_; have NB242_238 := n7_; have NB239_242 := n8_; have NB242_239 := n9_; clear n0_ n1_ n2_ n3_ n4_ n5_ n6_ n7_ n8_ n9_; clear hb hbox hg; have hnb20 := NB242_238.out; have hnc20 := NB238_242.out; have hnb21 := NB242_239.out; have hnc21 := NB239_242.out; obtain ⟨hcz22_0, hcz22_1, hcz22_2, hcz22_3, hcz22_4, hcz22_5, hcz22_6⟩ := cel7 BK242.out; obtain ⟨hfz22_0, hfz22_1, hfz22_2, hfz22_3, hfz22_4, hfz22_5, hfz22_6⟩ := frz7 BK242.out))
           (try simp only [Act.put, List.setIfInBounds_toArray, List.set_cons_zero, List.set_cons_succ])
           go_cut [38] (fun v38 wc => ∃ (kq : Nat) (x38_15 : Bool), v38 = .bool x38_15 ∧ Aside0 (masterdiscref14_Append.j1 kq a2 a3 x10_1 x38_15 a1_0 a1_1 l1_2 ((rd_T40 l1_2 x10_1).f0) ((rd_T40 l1_2 x10_1).f1) ((rd_T40 l1_2 x10_1).f2) ((rd_T40 l1_2 x10_1).f3) ((rd_T40 l1_2 x10_1).f4) ((rd_T40 l1_2 x10_1).f5) ((rd_T40 l1_2 x10_1).f6) = some (r1, r2, r3, r4)) ∧ Aside0 (kq ≤ k1) ∧ Aside0 (wc.heap[gb238]? = some (.cells #[.int .i64 a1_0, .bool a1_1, (.slice (some ad241) l1_2.length c1_2)] 24 (0, 0))) ∧ Aside0 (wc.heap[gb239]? = some (.cells #[.int .i64 x240000_1, .bool x240001_1, (.slice none 0 0)] 24 (0, 0))) ∧ Aside0 (wc.heap[gb242]? = some (.cells #[.int .i64 ((rd_T40 l1_2 x10_1).f0), .int .i64 ((rd_T40 l1_2 x10_1).f1), .int .i64 ((rd_T40 l1_2 x10_1).f2), .int .i64 ((rd_T40 l1_2 x10_1).f3), .int .i64 ((rd_T40 l1_2 x10_1).f4), .int .i64 ((rd_T40 l1_2 x10_1).f5), .int .i64 ((rd_T40 l1_2 x10_1).f6)] 40 (0, 0))) ∧ Aside0 (Below w.heap.size w wc))
           case first =>
            have H := HC16.out
            clear HC16
            by_cases c23 : ((rd_T40 l1_2 x10_1).f5) = 2
            · rw [if_pos c23] at H
              have c23b0 : (((rd_T40 l1_2 x10_1).f5) == 2) = true := beq_iff_eq.mpr c23
              have c23b1 : (((rd_T40 l1_2 x10_1).f5) != 2) = false := bne_eq_false_iff_eq.mpr c23
              clear c23
              (first | rw [c23b0] | (simp only [i64_w, i32_w]; rw [c23b0]) | skip)
              have H' := Aside0.mk H
              clear H
              have hnb24 := NB242_238.out
              have hnc24 := NB238_242.out
              have hnb25 := NB242_239.out
              have hnc25 := NB239_242.out
              obtain ⟨hcz26_0, hcz26_1, hcz26_2, hcz26_3, hcz26_4, hcz26_5, hcz26_6⟩ := cel7 BK242.out
              obtain ⟨hfz26_0, hfz26_1, hfz26_2, hfz26_3, hfz26_4, hfz26_5, hfz26_6⟩ := frz7 BK242.out
              go_wp2
              go_meet
              case rel => exact ⟨_, (true), (by first | rfl | (simp; done) | (simp [*]; done)), H', ⟨by have := HK1.out; first | omega | exact Nat.le_refl _⟩, ⟨by (with_reducible repeat (first | refine blk_drewN ?_ _ | refine blk_drew ?_ | refine blk_alloc ?_ _)); refine blk_far ?_ NB238_242.out _; (with_reducible repeat (first | refine blk_drewN ?_ _ | refine blk_drew ?_ | refine blk_alloc ?_ _)); refine blk_far ?_ NB238_242.out _; (with_reducible repeat (first | refine blk_drewN ?_ _ | refine blk_drew ?_ | refine blk_alloc ?_ _)); refine blk_far ?_ NB238_242.out _; (with_reducible repeat (first | refine blk_drewN ?_ _ | refine blk_drew ?_ | refine blk_alloc ?_ _)); refine blk_far ?_ NB238_242.out _; (with_reducible repeat (first | refine blk_drewN ?_ _ | refine blk_drew ?_ | refine blk_alloc ?_ _)); refine blk_far ?_ NB238_242.out _; (with_reducible repeat (first | refine blk_drewN ?_ _ | refine blk_drew ?_ | refine blk_alloc ?_ _)); refine blk_far ?_ NB238_242.out _; (with_reducible repeat (first | refine blk_drewN ?_ _ | refine blk_drew ?_ | refine blk_alloc ?_ _)); refine blk_far ?_ NB238_242.out _; (with_reducible repeat (first | refine blk_drewN ?_ _ | refine blk_drew ?_ | refine blk_alloc ?_ _)); exact BK238.out⟩, ⟨by (with_reducible repeat (first | refine blk_drewN ?_ _ | refine blk_drew ?_ | refine blk_alloc ?_ _)); refine blk_far ?_ NB239_242.out _; (with_reducible repeat (first | refine blk_drewN ?_ _ | refine blk_drew ?_ | refine blk_alloc ?_ _)); refine blk_far ?_ NB239_242.out _; (with_reducible repeat (first | refine blk_drewN ?_ _ | refine blk_drew ?_ | refine blk_alloc ?_ _)); refine blk_far ?_ NB239_242.out _; (with_reducible repeat (first | refine blk_drewN ?_ _ | refine blk_drew ?_ | refine blk_alloc ?_ _)); refine blk_far ?_ NB239_242.out _; (with_reducible repeat (first | refine blk_drewN ?_ _ | refine blk_drew ?_ | refine blk_alloc ?_ _)); refine blk_far ?_ NB239_242.out _; (with_reducible repeat (first | refine blk_drewN ?_ _ | refine blk_drew ?_ | refine blk_alloc ?_ _)); refine blk_far ?_ NB239_242.out _; (with_reducible repeat (first | refine blk_drewN ?_ _ | refine blk_drew ?_ | refine blk_alloc ?_ _)); refine blk_far ?_ NB239_242.out _; (with_reducible repeat (first | refine blk_drewN ?_ _ | refine blk_drew ?_ | refine blk_alloc ?_ _)); exact BK239.out⟩, ⟨by (with_reducible repeat (first | refine blk_drewN ?_ _ | refine blk_drew ?_ | refine blk_alloc ?_ _)); refine blk_put (cs := #[.int .i64 ((rd_T40 l1_2 x10_1).f0), .int .i64 ((rd_T40 l1_2 x10_1).f1), .int .i64 ((rd_T40 l1_2 x10_1).f2), .int .i64 ((rd_T40 l1_2 x10_1).f3), .int .i64 ((rd_T40 l1_2 x10_1).f4), .int .i64 ((rd_T40 l1_2 x10_1).f5), .int .i64 0]) ?_ 6 _ rfl; (with_reducible repeat (first | refine blk_drewN ?_ _ | refine blk_drew ?_ | refine blk_alloc ?_ _)); refine blk_put (cs := #[.int .i64 ((rd_T40 l1_2 x10_1).f0), .int .i64 ((rd_T40 l1_2 x10_1).f1), .int .i64 ((rd_T40 l1_2 x10_1).f2), .int .i64 ((rd_T40 l1_2 x10_1).f3), .int .i64 ((rd_T40 l1_2 x10_1).f4), .int .i64 0, .int .i64 0]) ?_ 5 _ rfl; (with_reducible repeat (first | refine blk_drewN ?_ _ | refine blk_drew ?_ | refine blk_alloc ?_ _)); refine blk_put (cs := #[.int .i64 ((rd_T40 l1_2 x10_1).f0), .int .i64 ((rd_T40 l1_2 x10_1).f1), .int .i64 ((rd_T40 l1_2 x10_1).f2), .int .i64 ((rd_T40 l1_2 x10_1).f3), .int .i64 0, .int .i64 0, .int .i64 0]) ?_ 4 _ rfl; (with_reducible repeat (first | refine blk_drewN ?_ _ | refine blk_drew ?_ | refine blk_alloc ?_ _)); refine blk_put (cs := #[.int .i64 ((rd_T40 l1_2 x10_1).f0), .int .i64 ((rd_T40 l1_2 x10_1).f1), .int .i64 ((rd_T40 l1_2 x10_1).f2), .int .i64 0, .int .i64 0, .int .i64 0, .int .i64 0]) ?_ 3 _ rfl; (with_reducible repeat (first | refine blk_drewN ?_ _ | refine blk_drew ?_ | refine blk_alloc ?_ _)); refine blk_put (cs := #[.int .i64 ((rd_T40 l1_2 x10_1).f0), .int .i64 ((rd_T40 l1_2 x10_1).f1), .int .i64 0, .int .i64 0, .int .i64 0, .int .i64 0, .int .i64 0]) ?_ 2 _ rfl; (with_reducible repeat (first | refine blk_drewN ?_ _ | refine blk_drew ?_ | refine blk_alloc ?_ _)); refine blk_put (cs := #[.int .i64 ((rd_T40 l1_2 x10_1).f0), .int .i64 0, .int .i64 0, .int .i64 0, .int .i64 0, .int .i64 0, .int .i64 0]) ?_ 1 _ rfl; (with_reducible repeat (first | refine blk_drewN ?_ _ | refine blk_drew ?_ | refine blk_alloc ?_ _)); refine blk_put (cs := #[.int .i64 0, .int .i64 0, .int .i64 0, .int .i64 0, .int .i64 0, .int .i64 0, .int .i64 0]) ?_ 0 _ rfl; (with_reducible repeat (first | refine blk_drewN ?_ _ | refine blk_drew ?_ | refine blk_alloc ?_ _)); exact BK242.out⟩, ⟨by repeat (first | (with_reducible first | exact HB.out | apply below_alloc | apply pw_below_drewN | apply below_drew1 | refine below_set ?_ GE238.out | refine below_set ?_ GE239.out | refine below_set ?_ GE242.out) | exact HB.out)⟩⟩
            · rw [if_neg c23] at H
              have c23b0 : (((rd_T40 l1_2 x10_1).f5) == 2) = false := beq_eq_false_iff_ne.mpr c23
              have c23b1 : (((rd_T40 l1_2 x10_1).f5) != 2) = true := bne_iff_ne.mpr c23
              (first | rw [c23b0] | (simp only [i64_w, i32_w]; rw [c23b0]) | skip)
              have H' := Aside0.mk H
              clear H
              have hnb27 := NB242_238.out
              have hnc27 := NB238_242.out
              have hnb28 := NB242_239.out
              have hnc28 := NB239_242.out
              obtain ⟨hcz29_0, hcz29_1, hcz29_2, hcz29_3, hcz29_4, hcz29_5, hcz29_6⟩ := cel7 BK242.out
              obtain ⟨hfz29_0, hfz29_1, hfz29_2, hfz29_3, hfz29_4, hfz29_5, hfz29_6⟩ := frz7 BK242.out
              go_wp2
              go_meet
              case rel => exact ⟨_, ((((rd_T40 l1_2 x10_1).f4) != a2)), (by first | rfl | (simp; done) | (simp [*]; done)), H', ⟨by have := HK1.out; first | omega | exact Nat.le_refl _⟩, ⟨by (with_reducible repeat (first | refine blk_drewN ?_ _ | refine blk_drew ?_ | refine blk_alloc ?_ _)); refine blk_far ?_ NB238_242.out _; (with_reducible repeat (first | refine blk_drewN ?_ _ | refine blk_drew ?_ | refine blk_alloc ?_ _)); refine blk_far ?_ NB238_242.out _; (with_reducible repeat (first | refine blk_drewN ?_ _ | refine blk_drew ?_ | refine blk_alloc ?_ _)); refine blk_far ?_ NB238_242.out _; (with_reducible repeat (first | refine blk_drewN ?_ _ | refine blk_drew ?_ | refine blk_alloc ?_ _)); refine blk_far ?_ NB238_242.out _; (with_reducible repeat (first | refine blk_drewN ?_ _ | refine blk_drew ?_ | refine blk_alloc ?_ _)); refine blk_far ?_ NB238_242.out _; (with_reducible repeat (first | refine blk_drewN ?_ _ | refine blk_drew ?_ | refine blk_alloc ?_ _)); refine blk_far ?_ NB238_242.out _; (with_reducible repeat (first | refine blk_drewN ?_ _ | refine blk_drew ?_ | refine blk_alloc ?_ _)); refine blk_far ?_ NB238_242.out _; (with_reducible repeat (first | refine blk_drewN ?_ _ | refine blk_drew ?_ | refine blk_alloc ?_ _)); exact BK238.out⟩, ⟨by (with_reducible repeat (first | refine blk_drewN ?_ _ | refine blk_drew ?_ | refine blk_alloc ?_ _)); refine blk_far ?_ NB239_242.out _; (with_reducible repeat (first | refine blk_drewN ?_ _ | refine blk_drew ?_ | refine blk_alloc ?_ _)); refine blk_far ?_ NB239_242.out _; (with_reducible repeat (first | refine blk_drewN ?_ _ | refine blk_drew ?_ | refine blk_alloc ?_ _)); refine blk_far ?_ NB239_242.out _; (with_reducible repeat (first | refine blk_drewN ?_ _ | refine blk_drew ?_ | refine blk_alloc ?_ _)); refine blk_far ?_ NB239_242.out _; (with_reducible repeat (first | refine blk_drewN ?_ _ | refine blk_drew ?_ | refine blk_alloc ?_ _)); refine blk_far ?_ NB239_242.out _; (with_reducible repeat (first | refine blk_drewN ?_ _ | refine blk_drew ?_ | refine blk_alloc ?_ _)); refine blk_far ?_ NB239_242.out _; (with_reducible repeat (first | refine blk_drewN ?_ _ | refine blk_drew ?_ | refine blk_alloc ?_ _)); refine blk_far ?_ NB239_242.out _; (with_reducible repeat (first | refine blk_drewN ?_ _ | refine blk_drew ?_ | refine blk_alloc ?_ _)); exact BK239.out⟩, ⟨by (with_reducible repeat (first | refine blk_drewN ?_ _ | refine blk_drew ?_ | refine blk_alloc ?_ _)); refine blk_put (cs := #[.int .i64 ((rd_T40 l1_2 x10_1).f0), .int .i64 ((rd_T40 l1_2 x10_1).f1), .int .i64 ((rd_T40 l1_2 x10_1).f2), .int .i64 ((rd_T40 l1_2 x10_1).f3), .int .i64 ((rd_T40 l1_2 x10_1).f4), .int .i64 ((rd_T40 l1_2 x10_1).f5), .int .i64 0]) ?_ 6 _ rfl; (with_reducible repeat (first | refine blk_drewN ?_ _ | refine blk_drew ?_ | refine blk_alloc ?_ _)); refine blk_put (cs := #[.int .i64 ((rd_T40 l1_2 x10_1).f0), .int .i64 ((rd_T40 l1_2 x10_1).f1), .int .i64 ((rd_T40 l1_2 x10_1).f2), .int .i64 ((rd_T40 l1_2 x10_1).f3), .int .i64 ((rd_T40 l1_2 x10_1).f4), .int .i64 0, .int .i64 0]) ?_ 5 _ rfl; (with_reducible repeat (first | refine blk_drewN ?_ _ | refine blk_drew ?_ | refine blk_alloc ?_ _)); refine blk_put (cs := #[.int .i64 ((rd_T40 l1_2 x10_1).f0), .int .i64 ((rd_T40 l1_2 x10_1).f1), .int .i64 ((rd_T40 l1_2 x10_1).f2), .int .i64 ((rd_T40 l1_2 x10_1).f3), .int .i64 0, .int .i64 0, .int .i64 0]) ?_ 4 _ rfl; (with_reducible repeat (first | refine blk_drewN ?_ _ | refine blk_drew ?_ | refine blk_alloc ?_ _)); refine blk_put (cs := #[.int .i64 ((rd_T40 l1_2 x10_1).f0), .int .i64 ((rd_T40 l1_2 x10_1).f1), .int .i64 ((rd_T40 l1_2 x10_1).f2), .int .i64 0, .int .i64 0, .int .i64 0, .int .i64 0]) ?_ 3 _ rfl; (with_reducible repeat (first | refine blk_drewN ?_ _ | refine blk_drew ?_ | refine blk_alloc ?_ _)); refine blk_put (cs := #[.int .i64 ((rd_T40 l1_2 x10_1).f0), .int .i64 ((rd_T40 l1_2 x10_1).f1), .int .i64 0, .int .i64 0, .int .i64 0, .int .i64 0, .int .i64 0]) ?_ 2 _ rfl; (with_reducible repeat (first | refine blk_drewN ?_ _ | refine blk_drew ?_ | refine blk_alloc ?_ _)); refine blk_put (cs := #[.int .i64 ((rd_T40 l1_2 x10_1).f0), .int .i64 0, .int .i64 0, .int .i64 0, .int .i64 0, .int .i64 0, .int .i64 0]) ?_ 1 _ rfl; (with_reducible repeat (first | refine blk_drewN ?_ _ | refine blk_drew ?_ | refine blk_alloc ?_ _)); refine blk_put (cs := #[.int .i64 0, .int .i64 0, .int .i64 0, .int .i64 0, .int .i64 0, .int .i64 0, .int .i64 0]) ?_ 0 _ rfl; (with_reducible repeat (first | refine blk_drewN ?_ _ | refine blk_drew ?_ | refine blk_alloc ?_ _)); exact BK242.out⟩, ⟨by repeat (first | (with_reducible first | exact HB.out | apply below_alloc | apply pw_below_drewN | apply below_drew1 | refine below_set ?_ GE238.out | refine below_set ?_ GE239.out | refine below_set ?_ GE242.out) | exact HB.out)⟩⟩
           case rest =>
            clear HC16
            try clear c1
            try clear c2
            try clear p2
            try clear q2
            try clear hx2
            try clear c6
            try clear p6
            try clear c9
            try clear c11
            try clear c13
            try clear c13b0
            try clear c14
            try clear c14b0
            try clear c15
            try clear c15b0
            try clear c17
            try clear c20
            try clear c21
            try clear c23
            try clear c23b0
            try clear c23b1
            try clear c24
            try clear p24
            try clear q24
            try clear hx24
            try clear c25
            try clear c27
            try clear c28
            try clear hcz10_0
            try clear hcz10_1
            try clear hcz10_2
            try clear hcz12_0
            try clear hcz12_1
            try clear hcz12_2
            try clear hcz18_0
            try clear hcz18_1
            try clear hcz18_2
            try clear hcz22_0
            try clear hcz22_1
            try clear hcz22_2
            try clear hcz22_3
            try clear hcz22_4
            try clear hcz22_5
            try clear hcz22_6
            try clear hcz26_0
            try clear hcz26_1
            try clear hcz26_2
            try clear hcz26_3
            try clear hcz26_4
            try clear hcz26_5
            try clear hcz26_6
            try clear hcz29_0
            try clear hcz29_1
            try clear hcz29_2
            try clear hcz29_3
            try clear hcz29_4
            try clear hcz29_5
            try clear hcz29_6
            try clear hfz10_0
            try clear hfz10_1
            try clear hfz10_2
            try clear hfz12_0
            try clear hfz12_1
            try clear hfz12_2
            try clear hfz18_0
            try clear hfz18_1
            try clear hfz18_2
            try clear hfz22_0
            try clear hfz22_1
            try clear hfz22_2
            try clear hfz22_3
            try clear hfz22_4
            try clear hfz22_5
            try clear hfz22_6
            try clear hfz26_0
            try clear hfz26_1
            try clear hfz26_2
            try clear hfz26_3
            try clear hfz26_4
            try clear hfz26_5
            try clear hfz26_6
            try clear hfz29_0
            try clear hfz29_1
            try clear hfz29_2
            try clear hfz29_3
            try clear hfz29_4
            try clear hfz29_5
            try clear hfz29_6
            try clear hx241_0
            try clear hx241_1
            try clear hx241_2
            try clear hx241_3
            try clear hx241_4
            try clear hx241_5
            try clear hx241_6
            try clear p2
            try clear p241
            try clear p6
            try clear q241
            obtain ⟨kq, x38_15, rfl, HA, HJ15, BK238, BK239, BK242, HB⟩ := hcut
            cases kq with
            | zero => exact absurd HA.out (by simp [masterdiscref14_Append.j1])
            | succ kj15 =>
             have H := HA.out
             clear HA
             simp only [masterdiscref14_Append.j1] at H
             by_cases c30 : x38_15 = true
             · subst c30
               have H1 : (masterdiscref14_Append.l0 kj15 a2 a3 (wrap64 (x10_1 - 1)) a1_0 a1_1 l1_2) = some (r1, r2, r3, r4) := by rw [if_pos rfl] at H; exact H
               clear H
               have H := H1
               clear H1
               have H' := Aside0.mk H
               clear H
               go_wp2
               go_roundg kj15
               case measure => have := HK1.out; have := HJ15.out; omega
               case rel => exact ⟨(wrap64 (x10_1 - 1)), (x240000_1), (x240001_1), (by first | rfl | (simp; done) | (simp [*]; done)), H', ⟨by have := HK1.out; have := HJ15.out; omega⟩, ⟨by (with_reducible repeat (first | refine blk_drewN ?_ _ | refine blk_drew ?_ | refine blk_alloc ?_ _)); exact BK238.out⟩, ⟨by (with_reducible repeat (first | refine blk_drewN ?_ _ | refine blk_drew ?_ | refine blk_alloc ?_ _)); exact BK239.out⟩, ⟨by repeat (first | (with_reducible first | exact HB.out | apply below_alloc | apply pw_below_drewN | apply below_drew1 | refine below_set ?_ GE238.out | refine below_set ?_ GE239.out | refine below_set ?_ GE242.out) | exact HB.out)⟩⟩
             · replace c30 := Bool.eq_false_iff.mpr c30
               subst c30
               have H1 : (if a3 < 1 then (masterdiscref14_Append.j2 kj15 a3 x10_1 true a1_0 a1_1 l1_2 ((rd_T40 l1_2 x10_1).f0) ((rd_T40 l1_2 x10_1).f1) ((rd_T40 l1_2 x10_1).f2) ((rd_T40 l1_2 x10_1).f3) ((rd_T40 l1_2 x10_1).f4) ((rd_T40 l1_2 x10_1).f5) ((rd_T40 l1_2 x10_1).f6)) else (if ((rd_T40 l1_2 x10_1).f6) > 0 then (if ((rd_T40 l1_2 x10_1).f6) = 0 then (none) else (masterdiscref14_Append.j2 kj15 a3 x10_1 ((Int.tmod a3 ((rd_T40 l1_2 x10_1).f6)) != 0) a1_0 a1_1 l1_2 ((rd_T40 l1_2 x10_1).f0) ((rd_T40 l1_2 x10_1).f1) ((rd_T40 l1_2 x10_1).f2) ((rd_T40 l1_2 x10_1).f3) ((rd_T40 l1_2 x10_1).f4) ((rd_T40 l1_2 x10_1).f5) ((rd_T40 l1_2 x10_1).f6))) else (masterdiscref14_Append.j2 kj15 a3 x10_1 false a1_0 a1_1 l1_2 ((rd_T40 l1_2 x10_1).f0) ((rd_T40 l1_2 x10_1).f1) ((rd_T40 l1_2 x10_1).f2) ((rd_T40 l1_2 x10_1).f3) ((rd_T40 l1_2 x10_1).f4) ((rd_T40 l1_2 x10_1).f5) ((rd_T40 l1_2 x10_1).f6)))) = some (r1, r2, r3, r4) := by rw [if_neg (show ¬ (false = true) by decide)] at H; exact H
               clear H
               have H := H1
               clear H1
               have HC31 := Aside0.mk H
               clear H
               go_upto_region 8 with (fail)
               go_cut [52] (fun v52 wc => ∃ (kq : Nat) (x52_30 : Bool), v52 = .bool x52_30 ∧ Aside0 (masterdiscref14_Append.j2 kq a3 x10_1 x52_30 a1_0 a1_1 l1_2 ((rd_T40 l1_2 x10_1).f0) ((rd_T40 l1_2 x10_1).f1) ((rd_T40 l1_2 x10_1).f2) ((rd_T40 l1_2 x10_1).f3) ((rd_T40 l1_2 x10_1).f4) ((rd_T40 l1_2 x10_1).f5) ((rd_T40 l1_2 x10_1).f6) = some (r1, r2, r3, r4)) ∧ Aside0 (kq ≤ kj15) ∧ Aside0 (wc.heap[gb238]? = some (.cells #[.int .i64 a1_0, .bool a1_1, (.slice (some ad241) l1_2.length c1_2)] 24 (0, 0))) ∧ Aside0 (wc.heap[gb239]? = some (.cells #[.int .i64 x240000_1, .bool x240001_1, (.slice none 0 0)] 24 (0, 0))) ∧ Aside0 (wc.heap[gb242]? = some (.cells #[.int .i64 ((rd_T40 l1_2 x10_1).f0), .int .i64 ((rd_T40 l1_2 x10_1).f1), .int .i64 ((rd_T40 l1_2 x10_1).f2), .int .i64 ((rd_T40 l1_2 x10_1).f3), .int .i64 ((rd_T40 l1_2 x10_1).f4), .int .i64 ((rd_T40 l1_2 x10_1).f5), .int .i64 ((rd_T40 l1_2 x10_1).f6)] 40 (0, 0))) ∧ Aside0 (Below w.heap.size w wc))
               case first =>
                have H := HC31.out
                clear HC31
                by_cases c32 : a3 < 1
                · rw [if_pos c32] at H
                  have c32b0 : decide (a3 < 1) = true := decide_eq_true c32
                  clear c32
                  (first | rw [c32b0] | (simp only [i64_w, i32_w]; rw [c32b0]) | skip)
                  have H' := Aside0.mk H
                  clear H
                  go_wp2
                  go_meet
                  case rel => exact ⟨_, (true), (by first | rfl | (simp; done) | (simp [*]; done)), H', ⟨by have := HK1.out; have := HJ15.out; first | omega | exact Nat.le_refl _⟩, ⟨by (with_reducible repeat (first | refine blk_drewN ?_ _ | refine blk_drew ?_ | refine blk_alloc ?_ _)); exact BK238.out⟩, ⟨by (with_reducible repeat (first | refine blk_drewN ?_ _ | refine blk_drew ?_ | refine blk_alloc ?_ _)); exact BK239.out⟩, ⟨by (with_reducible repeat (first | refine blk_drewN ?_ _ | refine blk_drew ?_ | refine blk_alloc ?_ _)); exact BK242.out⟩, ⟨by repeat (first | (with_reducible first | exact HB.out | apply below_alloc | apply pw_below_drewN | apply below_drew1 | refine below_set ?_ GE238.out | refine below_set ?_ GE239.out | refine below_set ?_ GE242.out) | exact HB.out)⟩⟩
                · rw [if_neg c32] at H
                  have c32b0 : decide (a3 < 1) = false := decide_eq_false c32
                  clear c32
                  (first | rw [c32b0] | (simp only [i64_w, i32_w]; rw [c32b0]) | skip)
                  by_cases c33 : ((rd_T40 l1_2 x10_1).f6) > 0
                  · rw [if_pos c33] at H
                    have c33b0 : decide (0 < ((rd_T40 l1_2 x10_1).f6)) = true := decide_eq_true c33
                    clear c33
                    by_cases c34 : ((rd_T40 l1_2 x10_1).f6) = 0
                    · rw [if_pos c34] at H
                      exact absurd H (by simp)
                    · rw [if_neg c34] at H
                      have c34b0 : (((rd_T40 l1_2 x10_1).f6) == 0) = false := beq_eq_false_iff_ne.mpr c34
                      have c34b1 : (((rd_T40 l1_2 x10_1).f6) != 0) = true := bne_iff_ne.mpr c34
                      have H' := Aside0.mk H
                      clear H
                      have hnb35 := NB242_238.out
                      have hnc35 := NB238_242.out
                      have hnb36 := NB242_239.out
                      have hnc36 := NB239_242.out
                      obtain ⟨hcz37_0, hcz37_1, hcz37_2, hcz37_3, hcz37_4, hcz37_5, hcz37_6⟩ := cel7 BK242.out
                      obtain ⟨hfz37_0, hfz37_1, hfz37_2, hfz37_3, hfz37_4, hfz37_5, hfz37_6⟩ := frz7 BK242.out
                      go_wp2
                      go_meet
                      case rel => exact ⟨_, (((Int.tmod a3 ((rd_T40 l1_2 x10_1).f6)) != 0)), (by first | rfl | (simp; done) | (simp [*]; done)), H', ⟨by have := HK1.out; have := HJ15.out; first | omega | exact Nat.le_refl _⟩, ⟨by (with_reducible repeat (first | refine blk_drewN ?_ _ | refine blk_drew ?_ | refine blk_alloc ?_ _)); exact BK238.out⟩, ⟨by (with_reducible repeat (first | refine blk_drewN ?_ _ | refine blk_drew ?_ | refine blk_alloc ?_ _)); exact BK239.out⟩, ⟨by (with_reducible repeat (first | refine blk_drewN ?_ _ | refine blk_drew ?_ | refine blk_alloc ?_ _)); exact BK242.out⟩, ⟨by repeat (first | (with_reducible first | exact HB.out | apply below_alloc | apply pw_below_drewN | apply below_drew1 | refine below_set ?_ GE238.out | refine below_set ?_ GE239.out | refine below_set ?_ GE242.out) | exact HB.out)⟩⟩
                  · rw [if_neg c33] at H
                    have c33b0 : decide (0 < ((rd_T40 l1_2 x10_1).f6)) = false := decide_eq_false c33
                    clear c33
                    have H' := Aside0.mk H
                    clear H
                    have hnb38 := NB242_238.out
                    have hnc38 := NB238_242.out
                    have hnb39 := NB242_239.out
                    have hnc39 := NB239_242.out
                    obtain ⟨hcz40_0, hcz40_1, hcz40_2, hcz40_3, hcz40_4, hcz40_5, hcz40_6⟩ := cel7 BK242.out
                    obtain ⟨hfz40_0, hfz40_1, hfz40_2, hfz40_3, hfz40_4, hfz40_5, hfz40_6⟩ := frz7 BK242.out
                    go_wp2
                    go_meet
                    case rel => exact ⟨_, (false), (by first | rfl | (simp; done) | (simp [*]; done)), H', ⟨by have := HK1.out; have := HJ15.out; first | omega | exact Nat.le_refl _⟩, ⟨by (with_reducible repeat (first | refine blk_drewN ?_ _ | refine blk_drew ?_ | refine blk_alloc ?_ _)); exact BK238.out⟩, ⟨by (with_reducible repeat (first | refine blk_drewN ?_ _ | refine blk_drew ?_ | refine blk_alloc ?_ _)); exact BK239.out⟩, ⟨by (with_reducible repeat (first | refine blk_drewN ?_ _ | refine blk_drew ?_ | refine blk_alloc ?_ _)); exact BK242.out⟩, ⟨by repeat (first | (with_reducible first | exact HB.out | apply below_alloc | apply pw_below_drewN | apply below_drew1 | refine below_set ?_ GE238.out | refine below_set ?_ GE239.out | refine below_set ?_ GE242.out) | exact HB.out)⟩⟩
               case rest =>
                clear HC31
                try clear c1
                try clear c2
                try clear p2
                try clear q2
                try clear hx2
                try clear c3
                try clear c6
                try clear p6
                try clear c9
                try clear c11
                try clear c13
                try clear c13b0
                try clear c14
                try clear c14b0
                try clear c15
                try clear c15b0
                try clear c17
                try clear c20
                try clear c21
                try clear c23
                try clear c23b0
                try clear c23b1
                try clear c24
                try clear p24
                try clear q24
                try clear hx24
                try clear c25
                try clear c27
                try clear c28
                try clear c30
                try clear c32
                try clear c32b0
                try clear c33
                try clear c33b0
                try clear c34
                try clear c34b0
                try clear c34b1
                try clear c35
                try clear c36
                try clear c38
                try clear c39
                try clear hcz10_0
                try clear hcz10_1
                try clear hcz10_2
                try clear hcz12_0
                try clear hcz12_1
                try clear hcz12_2
                try clear hcz18_0
                try clear hcz18_1
                try clear hcz18_2
                try clear hcz22_0
                try clear hcz22_1
                try clear hcz22_2
                try clear hcz22_3
                try clear hcz22_4
                try clear hcz22_5
                try clear hcz22_6
                try clear hcz26_0
                try clear hcz26_1
                try clear hcz26_2
                try clear hcz26_3
                try clear hcz26_4
                try clear hcz26_5
                try clear hcz26_6
                try clear hcz29_0
                try clear hcz29_1
                try clear hcz29_2
                try clear hcz29_3
                try clear hcz29_4
                try clear hcz29_5
                try clear hcz29_6
                try clear hcz37_0
                try clear hcz37_1
                try clear hcz37_2
                try clear hcz37_3
                try clear hcz37_4
                try clear hcz37_5
                try clear hcz37_6
                try clear hcz40_0
                try clear hcz40_1
                try clear hcz40_2
                try clear hcz40_3
                try clear hcz40_4
                try clear hcz40_5
                try clear hcz40_6
                try clear hfz10_0
                try clear hfz10_1
                try clear hfz10_2
                try clear hfz12_0
                try clear hfz12_1
                try clear hfz12_2
                try clear hfz18_0
                try clear hfz18_1
                try clear hfz18_2
                try clear hfz22_0
                try clear hfz22_1
                try clear hfz22_2
                try clear hfz22_3
                try clear hfz22_4
                try clear hfz22_5
                try clear hfz22_6
                try clear hfz26_0
                try clear hfz26_1
                try clear hfz26_2
                try clear hfz26_3
                try clear hfz26_4
                try clear hfz26_5
                try clear hfz26_6
                try clear hfz29_0
                try clear hfz29_1
                try clear hfz29_2
                try clear hfz29_3
                try clear hfz29_4
                try clear hfz29_5
                try clear hfz29_6
                try clear hfz37_0
                try clear hfz37_1
                try clear hfz37_2
                try clear hfz37_3
                try clear hfz37_4
                try clear hfz37_5
                try clear hfz37_6
                try clear hfz40_0
                try clear hfz40_1
                try clear hfz40_2
                try clear hfz40_3
                try clear hfz40_4
                try clear hfz40_5
                try clear hfz40_6
                try clear hx241_0
                try clear hx241_1
                try clear hx241_2
                try clear hx241_3
                try clear hx241_4
                try clear hx241_5
                try clear hx241_6
                try clear p2
                try clear p24
                try clear p241
                try clear p6
                try clear q2
                try clear q24
                try clear q241
                obtain ⟨kq, x52_30, rfl, HA, HJ30, BK238, BK239, BK242, HB⟩ := hcut
                cases kq with
                | zero => exact absurd HA.out (by simp [masterdiscref14_Append.j2])
                | succ kj30 =>
                 have H := HA.out
                 clear HA
                 simp only [masterdiscref14_Append.j2] at H
                 by_cases c41 : x52_30 = true
                 · subst c41
                   have H1 : (some (0, false, ([] : List (S40)), 1)) = some (r1, r2, r3, r4) := by rw [if_pos rfl] at H; exact H
                   clear H
                   have H := H1
                   clear H1
                   simp only [Option.some.injEq, Prod.mk.injEq] at H
                   obtain ⟨rfl, rfl, rfl, rfl⟩ := H
                   have hnb42 := NB239_238.out
                   have hnc42 := NB238_239.out
                   have hnb43 := NB239_242.out
                   have hnc43 := NB242_239.out
                   obtain ⟨hcz44_0, hcz44_1, hcz44_2⟩ := cel3 BK239.out
                   obtain ⟨hfz44_0, hfz44_1, hfz44_2⟩ := frz3 BK239.out
                   go_wp2
                   refine bodyPost_ret (results_ct rfl _ _ gb239 24 #[.int .i64 0, .bool false, .slice none 0 0] (0, 0) _ rfl (by (with_reducible repeat (first | refine blk_drewN ?_ _ | refine blk_drew ?_ | refine blk_alloc ?_ _)); refine blk_put (cs := #[.int .i64 0, .bool false, .slice none 0 0]) ?_ 2 _ rfl; (with_reducible repeat (first | refine blk_drewN ?_ _ | refine blk_drew ?_ | refine blk_alloc ?_ _)); refine blk_put (cs := #[.int .i64 0, .bool x240001_1, .slice none 0 0]) ?_ 1 _ rfl; (with_reducible repeat (first | refine blk_drewN ?_ _ | refine blk_drew ?_ | refine blk_alloc ?_ _)); refine blk_put (cs := #[.int .i64 x240000_1, .bool x240001_1, .slice none 0 0]) ?_ 0 _ rfl; (with_reducible repeat (first | refine blk_drewN ?_ _ | refine blk_drew ?_ | refine blk_alloc ?_ _)); exact BK239.out) Try.underlying24 rfl (by kernel_rfl)) rfl ?_
                   exact ⟨_, by first | rfl | (simp [errW_none, errW_some] <;> rfl) | (simp [*, errW_none, errW_some] <;> rfl), by first | exact Kd.R_nil _ _ _ _ _ | exact Kd.N_nil _ _ _ _ _ | exact Kd.V_nil _ _ _ _ _ | exact Kd.Q_nil _ _ _ _ _ | exact Kd.S_nil _ _ _ _ _, by repeat (first | (with_reducible first | exact HB.out | apply below_alloc | apply pw_below_drewN | apply below_drew1 | refine below_set ?_ GE238.out | refine below_set ?_ GE239.out | refine below_set ?_ GE242.out) | exact HB.out)⟩
                 · replace c41 := Bool.eq_false_iff.mpr c41
                   subst c41
                   have H1 : (if a3 > (wrap64 ((wrap64 (((rd_T40 l1_2 x10_1).f2) + ((rd_T40 l1_2 x10_1).f3))) - ((rd_T40 l1_2 x10_1).f4))) then (some (0, false, ([] : List (S40)), 12)) else ((masterdiscref14_changed.f a1_0 a1_1 l1_2 x10_1 ((rd_T40 l1_2 x10_1).f0) ((rd_T40 l1_2 x10_1).f1) ((rd_T40 l1_2 x10_1).f2) ((rd_T40 l1_2 x10_1).f3) (wrap64 (((rd_T40 l1_2 x10_1).f4) + a3)) 1 ((rd_T40 l1_2 x10_1).f6)).bind fun bt243 => (some (bt243.1, bt243.2.1, bt243.2.2, 0)))) = some (r1, r2, r3, r4) := by rw [if_neg (show ¬ (false = true) by decide)] at H; exact H
                   clear H
                   have H := H1
                   clear H1
                   by_cases c45 : a3 > (wrap64 ((wrap64 (((rd_T40 l1_2 x10_1).f2) + ((rd_T40 l1_2 x10_1).f3))) - ((rd_T40 l1_2 x10_1).f4)))
                   · rw [if_pos c45] at H
                     have c45b0 : decide ((wrap64 ((wrap64 (((rd_T40 l1_2 x10_1).f2) + ((rd_T40 l1_2 x10_1).f3))) - ((rd_T40 l1_2 x10_1).f4))) < a3) = true := decide_eq_true c45
                     clear c45
                     simp only [Option.some.injEq, Prod.mk.injEq] at H
                     obtain ⟨rfl, rfl, rfl, rfl⟩ := H
                     have hnb46 := NB242_238.out
                     have hnc46 := NB238_242.out
                     have hnb47 := NB242_239.out
                     have hnc47 := NB239_242.out
                     obtain ⟨hcz48_0, hcz48_1, hcz48_2, hcz48_3, hcz48_4, hcz48_5, hcz48_6⟩ := cel7 BK242.out
                     obtain ⟨hfz48_0, hfz48_1, hfz48_2, hfz48_3, hfz48_4, hfz48_5, hfz48_6⟩ := frz7 BK242.out
                     have hnb49 := NB239_238.out
                     have hnc49 := NB238_239.out
                     obtain ⟨hcz50_0, hcz50_1, hcz50_2⟩ := cel3 BK239.out
                     obtain ⟨hfz50_0, hfz50_1, hfz50_2⟩ := frz3 BK239.out
                     go_wp2
                     refine bodyPost_ret (results_ct rfl _ _ gb239 24 #[.int .i64 0, .bool false, .slice none 0 0] (0, 0) _ rfl (by (with_reducible repeat (first | refine blk_drewN ?_ _ | refine blk_drew ?_ | refine blk_alloc ?_ _)); refine blk_put (cs := #[.int .i64 0, .bool false, .slice none 0 0]) ?_ 2 _ rfl; (with_reducible repeat (first | refine blk_drewN ?_ _ | refine blk_drew ?_ | refine blk_alloc ?_ _)); refine blk_put (cs := #[.int .i64 0, .bool x240001_1, .slice none 0 0]) ?_ 1 _ rfl; (with_reducible repeat (first | refine blk_drewN ?_ _ | refine blk_drew ?_ | refine blk_alloc ?_ _)); refine blk_put (cs := #[.int .i64 x240000_1, .bool x240001_1, .slice none 0 0]) ?_ 0 _ rfl; (with_reducible repeat (first | refine blk_drewN ?_ _ | refine blk_drew ?_ | refine blk_alloc ?_ _)); exact BK239.out) Try.underlying24 rfl (by kernel_rfl)) rfl ?_
                     exact ⟨_, by first | rfl | (simp [errW_none, errW_some] <;> rfl) | (simp [*, errW_none, errW_some] <;> rfl), by first | exact Kd.R_nil _ _ _ _ _ | exact Kd.N_nil _ _ _ _ _ | exact Kd.V_nil _ _ _ _ _ | exact Kd.Q_nil _ _ _ _ _ | exact Kd.S_nil _ _ _ _ _, by repeat (first | (with_reducible first | exact HB.out | apply below_alloc | apply pw_below_drewN | apply below_drew1 | refine below_set ?_ GE238.out | refine below_set ?_ GE239.out | refine below_set ?_ GE242.out) | exact HB.out)⟩
                   · rw [if_neg c45] at H
                     have c45b0 : decide ((wrap64 ((wrap64 (((rd_T40 l1_2 x10_1).f2) + ((rd_T40 l1_2 x10_1).f3))) - ((rd_T40 l1_2 x10_1).f4))) < a3) = false := decide_eq_false c45
                     clear c45
                     replace H := Option.bind_eq_some_iff.mp H
                     obtain ⟨⟨t243, t244, t245⟩, A510, H⟩ := H
                     replace H : (some (t243, t244, t245, 0)) = some (r1, r2, r3, r4) := H
                     have A51 := Aside0.mk A510
                     clear A510
                     simp only [Option.some.injEq, Prod.mk.injEq] at H
                     obtain ⟨rfl, rfl, rfl, rfl⟩ := H
                     have hnb52 := NB242_238.out
                     have hnc52 := NB238_242.out
                     have hnb53 := NB242_239.out
                     have hnc53 := NB239_242.out
                     obtain ⟨hcz54_0, hcz54_1, hcz54_2, hcz54_3, hcz54_4, hcz54_5, hcz54_6⟩ := cel7 BK242.out
                     obtain ⟨hfz54_0, hfz54_1, hfz54_2, hfz54_3, hfz54_4, hfz54_5, hfz54_6⟩ := frz7 BK242.out
                     have hnb55 := NB238_239.out
                     have hnc55 := NB239_238.out
                     obtain ⟨hcz56_0, hcz56_1, hcz56_2⟩ := cel3 BK238.out
                     obtain ⟨hfz56_0, hfz56_1, hfz56_2⟩ := frz3 BK238.out
                     go_wp2_with (first | ((with_reducible refine gate_callee (f := 33) rfl ?_); refine goesL_ (some 74) rfl rfl Try.func33 (by kernel_rfl) rfl #[.agg #[.int .i64 a1_0, .bool a1_1, .slice (some ad241) l1_2.length c1_2], .int .i64 x10_1, .agg #[.int .i64 ((rd_T40 l1_2 x10_1).f0), .int .i64 ((rd_T40 l1_2 x10_1).f1), .int .i64 ((rd_T40 l1_2 x10_1).f2), .int .i64 ((rd_T40 l1_2 x10_1).f3), .int .i64 (wrap64 (((rd_T40 l1_2 x10_1).f4) + a3)), .int .i64 1, .int .i64 ((rd_T40 l1_2 x10_1).f6)]] rfl (by (try simp only [List.map_toArray, List.map_cons, List.map_nil]); first | done | rfl | (simp only [List.length_drop, List.length_take]; rfl)) ?_; (with_reducible refine (masterdiscref14_changed.calls a1_0 a1_1 _ _ l1_2 x10_1 ((rd_T40 l1_2 x10_1).f0) ((rd_T40 l1_2 x10_1).f1) ((rd_T40 l1_2 x10_1).f2) ((rd_T40 l1_2 x10_1).f3) (wrap64 (((rd_T40 l1_2 x10_1).f4) + a3)) 1 ((rd_T40 l1_2 x10_1).f6) t243 t244 t245 _ ?side1 ?side2 A51.out).mono ?_); (case side1 => exact Kd.C_below HR1_2.out (by repeat (first | (with_reducible first | exact HB.out | apply below_alloc | apply pw_below_drewN | apply below_drew1 | refine below_set ?_ GE238.out | refine below_set ?_ GE239.out | refine below_set ?_ GE242.out) | exact HB.out))); (case side2 => exact HC1_2.out); rintro e w57 ⟨v246, rfl, ho0, hb⟩; refine ⟨_, rfl, ?_⟩; have n0_ := Aside0.mk (Kd.R_lower (Kd.R_newB ho0 (g := gb242) (o := .cells #[.int .i64 ((rd_T40 l1_2 x10_1).f0), .int .i64 ((rd_T40 l1_2 x10_1).f1), .int .i64 ((rd_T40 l1_2 x10_1).f2), .int .i64 ((rd_T40 l1_2 x10_1).f3), .int .i64 (wrap64 (((rd_T40 l1_2 x10_1).f4) + a3)), .int .i64 1, .int .i64 ((rd_T40 l1_2 x10_1).f6)] 40 (0, 0)) (by (with_reducible repeat (first | refine blk_drewN ?_ _ | refine blk_drew ?_ | refine blk_alloc ?_ _)); refine blk_put (cs := #[.int .i64 ((rd_T40 l1_2 x10_1).f0), .int .i64 ((rd_T40 l1_2 x10_1).f1), .int .i64 ((rd_T40 l1_2 x10_1).f2), .int .i64 ((rd_T40 l1_2 x10_1).f3), .int .i64 (wrap64 (((rd_T40 l1_2 x10_1).f4) + a3)), .int .i64 ((rd_T40 l1_2 x10_1).f5), .int .i64 ((rd_T40 l1_2 x10_1).f6)]) ?_ 5 _ rfl; (with_reducible repeat (first | refine blk_drewN ?_ _ | refine blk_drew ?_ | refine blk_alloc ?_ _)); refine blk_put (cs := #[.int .i64 ((rd_T40 l1_2 x10_1).f0), .int .i64 ((rd_T40 l1_2 x10_1).f1), .int .i64 ((rd_T40 l1_2 x10_1).f2), .int .i64 ((rd_T40 l1_2 x10_1).f3), .int .i64 ((rd_T40 l1_2 x10_1).f4), .int .i64 ((rd_T40 l1_2 x10_1).f5), .int .i64 ((rd_T40 l1_2 x10_1).f6)]) ?_ 4 _ rfl; (with_reducible repeat (first | refine blk_drewN ?_ _ | refine blk_drew ?_ | refine blk_alloc ?_ _)); exact BK242.out)) (below_size (by repeat (first | (with_reducible first | exact HB.out | apply below_alloc | apply pw_below_drewN | apply below_drew1 | refine below_set ?_ GE238.out | refine below_set ?_ GE239.out | refine below_set ?_ GE242.out) | exact HB.out)))); have n1_ := Aside0.mk (blk_below (g := gb238) (o := .cells #[.int .i64 a1_0, .bool a1_1, .slice (some ad241) l1_2.length c1_2] 24 (0, 0)) (by (with_reducible repeat (first | refine blk_drewN ?_ _ | refine blk_drew ?_ | refine blk_alloc ?_ _)); refine blk_far ?_ NB238_242.out _; (with_reducible repeat (first | refine blk_drewN ?_ _ | refine blk_drew ?_ | refine blk_alloc ?_ _)); refine blk_far ?_ NB238_242.out _; (with_reducible repeat (first | refine blk_drewN ?_ _ | refine blk_drew ?_ | refine blk_alloc ?_ _)); exact BK238.out) hb); have n2_ := Aside0.mk (blk_below (g := gb239) (o := .cells #[.int .i64 x240000_1, .bool x240001_1, .slice none 0 0] 24 (0, 0)) (by (with_reducible repeat (first | refine blk_drewN ?_ _ | refine blk_drew ?_ | refine blk_alloc ?_ _)); refine blk_far ?_ NB239_242.out _; (with_reducible repeat (first | refine blk_drewN ?_ _ | refine blk_drew ?_ | refine blk_alloc ?_ _)); refine blk_far ?_ NB239_242.out _; (with_reducible repeat (first | refine blk_drewN ?_ _ | refine blk_drew ?_ | refine blk_alloc ?_ _)); exact BK239.out) hb); have n3_ := Aside0.mk (blk_below (g := gb242) (o := .cells #[.int .i64 ((rd_T40 l1_2 x10_1).f0), .int .i64 ((rd_T40 l1_2 x10_1).f1), .int .i64 ((rd_T40 l1_2 x10_1).f2), .int .i64 ((rd_T40 l1_2 x10_1).f3), .int .i64 (wrap64 (((rd_T40 l1_2 x10_1).f4) + a3)), .int .i64 1, .int .i64 ((rd_T40 l1_2 x10_1).f6)] 40 (0, 0)) (by (with_reducible repeat (first | refine blk_drewN ?_ _ | refine blk_drew ?_ | refine blk_alloc ?_ _)); refine blk_put (cs := #[.int .i64 ((rd_T40 l1_2 x10_1).f0), .int .i64 ((rd_T40 l1_2 x10_1).f1), .int .i64 ((rd_T40 l1_2 x10_1).f2), .int .i64 ((rd_T40 l1_2 x10_1).f3), .int .i64 (wrap64 (((rd_T40 l1_2 x10_1).f4) + a3)), .int .i64 ((rd_T40 l1_2 x10_1).f5), .int .i64 ((rd_T40 l1_2 x10_1).f6)]) ?_ 5 _ rfl; (with_reducible repeat (first | refine blk_drewN ?_ _ | refine blk_drew ?_ | refine blk_alloc ?_ _)); refine blk_put (cs := #[.int .i64 ((rd_T40 l1_2 x10_1).f0), .int .i64 ((rd_T40 l1_2 x10_1).f1), .int .i64 ((rd_T40 l1_2 x10_1).f2), .int .i64 ((rd_T40 l1_2 x10_1).f3), .int .i64 ((rd_T40 l1_2 x10_1).f4), .int .i64 ((rd_T40 l1_2 x10_1).f5), .int .i64 ((rd_T40 l1_2 x10_1).f6)]) ?_ 4 _ rfl; (with_reducible repeat (first | refine blk_drewN ?_ _ | refine blk_drew ?_ | refine blk_alloc ?_ _)); exact BK242.out) hb); have n4_ := Aside0.mk (below_step (by repeat (first | (with_reducible first | exact HB.out | apply below_alloc | apply pw_below_drewN | apply below_drew1 | refine below_set ?_ GE238.out | refine below_set ?_ GE239.out | refine below_set ?_ GE242.out) | exact HB.out)) hb); clear BK238; clear BK239; clear BK242; clear HB; have HO247 := n0_; have BK238 := n1_; have BK239 := n2_; have BK242 := n3_; have HB := n4_; clear n0_ n1_ n2_ n3_ n4_; (try clear hb); (try clear hb2); (try clear hk); (try clear hi); (try clear ho0); obtain ⟨hcz58_0, hcz58_1, hcz58_2⟩ := cel3 BK239.out; obtain ⟨hfz58_0, hfz58_1, hfz58_2⟩ := frz3 BK239.out; obtain ⟨Ao59, co59, eo59⟩ := Kd.R_slice HO247.out; subst eo59))
                     refine bodyPost_ret (results_ct rfl _ _ gb239 24 #[.int .i64 t243, .bool t244, .slice Ao59 t245.length co59] (0, 0) _ rfl (by (with_reducible repeat (first | refine blk_drewN ?_ _ | refine blk_drew ?_ | refine blk_alloc ?_ _)); refine blk_put (cs := #[.int .i64 t243, .bool t244, .slice none 0 0]) ?_ 2 _ rfl; (with_reducible repeat (first | refine blk_drewN ?_ _ | refine blk_drew ?_ | refine blk_alloc ?_ _)); refine blk_put (cs := #[.int .i64 t243, .bool x240001_1, .slice none 0 0]) ?_ 1 _ rfl; (with_reducible repeat (first | refine blk_drewN ?_ _ | refine blk_drew ?_ | refine blk_alloc ?_ _)); refine blk_put (cs := #[.int .i64 x240000_1, .bool x240001_1, .slice none 0 0]) ?_ 0 _ rfl; (with_reducible repeat (first | refine blk_drewN ?_ _ | refine blk_drew ?_ | refine blk_alloc ?_ _)); exact BK239.out) Try.underlying24 rfl (by kernel_rfl)) rfl ?_
                     exact ⟨_, by first | rfl | (simp [errW_none, errW_some] <;> rfl) | (simp [*, errW_none, errW_some] <;> rfl), by (with_reducible repeat (first | apply Kd.R_alloc | apply Kd.R_drewN | apply Kd.R_drew)); exact Kd.R_mono (Kd.R_far (p := ⟨gb239, 2, none⟩) (Kd.R_far (p := ⟨gb239, 1, none⟩) (Kd.R_far (p := ⟨gb239, 0, none⟩) (Kd.R_types HO247.out BK239.out (by decide)) (fun _ hk => hk.2) (.int .i64 t243)) (fun _ hk => hk.2) (.bool t244)) (fun _ hk => hk.2) (.slice Ao59 t245.length co59)) (fun _ hk => trivial), by repeat (first | (with_reducible first | exact HB.out | apply below_alloc | apply pw_below_drewN | apply below_drew1 | refine below_set ?_ GE238.out | refine below_set ?_ GE239.out | refine below_set ?_ GE242.out) | exact HB.out)⟩
         · rw [if_neg c15] at H
           exact absurd H (by simp)
       · rw [if_neg c14] at H
         exact absurd H (by simp)
     · rw [if_neg c13] at H
       have c13b0 : decide (0 ≤ x10_1) = false := decide_eq_false c13
       clear c13
       simp only [Option.some.injEq, Prod.mk.injEq] at H
       obtain ⟨rfl, rfl, rfl, rfl⟩ := H
       have hnb60 := NB239_238.out
       have hnc60 := NB238_239.out
       obtain ⟨hcz61_0, hcz61_1, hcz61_2⟩ := cel3 BK239.out
       obtain ⟨hfz61_0, hfz61_1, hfz61_2⟩ := frz3 BK239.out
       go_wp2
       refine bodyPost_ret (results_ct rfl _ _ gb239 24 #[.int .i64 0, .bool false, .slice none 0 0] (0, 0) _ rfl (by (with_reducible repeat (first | refine blk_drewN ?_ _ | refine blk_drew ?_ | refine blk_alloc ?_ _)); refine blk_put (cs := #[.int .i64 0, .bool false, .slice none 0 0]) ?_ 2 _ rfl; (with_reducible repeat (first | refine blk_drewN ?_ _ | refine blk_drew ?_ | refine blk_alloc ?_ _)); refine blk_put (cs := #[.int .i64 0, .bool x240001_1, .slice none 0 0]) ?_ 1 _ rfl; (with_reducible repeat (first | refine blk_drewN ?_ _ | refine blk_drew ?_ | refine blk_alloc ?_ _)); refine blk_put (cs := #[.int .i64 x240000_1, .bool x240001_1, .slice none 0 0]) ?_ 0 _ rfl; (with_reducible repeat (first | refine blk_drewN ?_ _ | refine blk_drew ?_ | refine blk_alloc ?_ _)); exact BK239.out) Try.underlying24 rfl (by kernel_rfl)) rfl ?_
       exact ⟨_, by first | rfl | (simp [errW_none, errW_some] <;> rfl) | (simp [*, errW_none, errW_some] <;> rfl), by first | exact Kd.R_nil _ _ _ _ _ | exact Kd.N_nil _ _ _ _ _ | exact Kd.V_nil _ _ _ _ _ | exact Kd.Q_nil _ _ _ _ _ | exact Kd.S_nil _ _ _ _ _, by repeat (first | (with_reducible first | exact HB.out | apply below_alloc | apply pw_below_drewN | apply below_drew1 | refine below_set ?_ GE238.out | refine below_set ?_ GE239.out) | exact HB.out)⟩
 · replace c6 := Bool.eq_false_iff.mpr c6
   subst c6
   have H1 : (some (0, false, ([] : List (S40)), 1)) = some (r1, r2, r3, r4) := by rw [if_neg (show ¬ (false = true) by decide)] at H; exact H
   clear H
   have H := H1
   clear H1
   simp only [Option.some.injEq, Prod.mk.injEq] at H
   obtain ⟨rfl, rfl, rfl, rfl⟩ := H
   go_enter Try.func21, Try.ntmps21
   go_wp2_with (first | ((with_reducible refine gate_dst (N := 5) rfl ?_); refine box_event ?hg (N := 5) ?hd (cs := #[.int .i64 a1_0, .bool a1_1, .slice A1_2 l1_2.length c1_2]) (t := 24) ?hr ?_; (case hd => rfl); (case hg => rfl); (case hr => first | (go_simp; done) | (go_simp; rfl)); intro gb238 hg w62 hbox hb; have n0_ := Aside0.mk (below_step (by repeat (first | (with_reducible first | exact HB.out | apply below_alloc | apply pw_below_drewN | apply below_drew1) | exact HB.out)) hb); have n1_ := Aside0.mk (hbox); have n2_ := Aside0.mk ((by rw [hg]; exact (below_size (by repeat (first | (with_reducible first | exact HB.out | apply below_alloc | apply pw_below_drewN | apply below_drew1) | exact HB.out))) : w.heap.size ≤ gb238)); have n3_ := Aside0.mk ((by rw [hg]; exact (below_size (by repeat (first | (with_reducible first | exact HB.out | apply below_alloc | apply pw_below_drewN | apply below_drew1) | exact HB.out))) : w.heap.size ≤ gb238)); clear HB; have HB := n0_; have BK238 := n1_; have GW238 := n2_; have GE238 := n3_; clear n0_ n1_ n2_ n3_; clear hb hbox hg) | ((with_reducible refine gate_dst (N := 8) rfl ?_); refine box_event ?hg (N := 8) ?hd (cs := #[.int .i64 0, .bool false, .slice none 0 0]) (t := 24) ?hr ?_; (case hd => rfl); (case hg => rfl); (case hr => first | (go_simp; done) | (go_simp; rfl)); intro gb239 hg w63 hbox hb; have n0_ := Aside0.mk (blk_below (g := gb238) (o := .cells #[.int .i64 a1_0, .bool a1_1, .slice A1_2 l1_2.length c1_2] 24 (0, 0)) (by (with_reducible repeat (first | refine blk_drewN ?_ _ | refine blk_drew ?_ | refine blk_alloc ?_ _)); exact BK238.out) hb); have n1_ := Aside0.mk (below_step (by repeat (first | (with_reducible first | exact HB.out | apply below_alloc | apply pw_below_drewN | apply below_drew1 | refine below_set ?_ GE238.out) | exact HB.out)) hb); have n2_ := Aside0.mk (hbox); have n3_ := Aside0.mk ((by rw [hg]; exact (below_size (by repeat (first | (with_reducible first | exact HB.out | apply below_alloc | apply pw_below_drewN | apply below_drew1 | refine below_set ?_ GE238.out) | exact HB.out))) : w.heap.size ≤ gb239)); have n4_ := Aside0.mk ((by rw [hg]; exact (below_size (by repeat (first | (with_reducible first | exact HB.out | apply below_alloc | apply pw_below_drewN | apply below_drew1 | refine below_set ?_ GE238.out) | exact HB.out))) : w.heap.size ≤ gb239)); have n5_ := Aside0.mk ((by rw [hg]; exact Nat.ne_of_lt (blk_lt (g := gb238) (o := .cells #[.int .i64 a1_0, .bool a1_1, .slice A1_2 l1_2.length c1_2] 24 (0, 0)) (by (with_reducible repeat (first | refine blk_drewN ?_ _ | refine blk_drew ?_ | refine blk_alloc ?_ _)); exact BK238.out)) : gb238 ≠ gb239)); have n6_ := Aside0.mk ((by rw [hg]; exact Nat.ne_of_gt (blk_lt (g := gb238) (o := .cells #[.int .i64 a1_0, .bool a1_1, .slice A1_2 l1_2.length c1_2] 24 (0, 0)) (by (with_reducible repeat (first | refine blk_drewN ?_ _ | refine blk_drew ?_ | refine blk_alloc ?_ _)); exact BK238.out)) : gb239 ≠ gb238)); clear BK238; clear HB; have BK238 := n0_; have HB := n1_; have BK239 := n2_; have GW239 := n3_; have GE239 := n4_; have NB238_239 := n5_; have NB239_238 := n6_; clear n0_ n1_ n2_ n3_ n4_ n5_ n6_; clear hb hbox hg; have hnb64 := NB238_239.out; have hnc64 := NB239_238.out; obtain ⟨hcz65_0, hcz65_1, hcz65_2⟩ := cel3 BK238.out; obtain ⟨hfz65_0, hfz65_1, hfz65_2⟩ := frz3 BK238.out) | ((with_reducible refine gate_callee (f := 11) rfl ?_); refine goesL_ (some 14) rfl rfl Try.func11 (by kernel_rfl) rfl #[.int .i64 a0, .agg #[.int .i64 a1_0, .bool a1_1, .slice A1_2 l1_2.length c1_2]] rfl (by (try simp only [List.map_toArray, List.map_cons, List.map_nil]); first | done | rfl | (simp only [List.length_drop, List.length_take]; rfl)) ?_; (with_reducible refine (masterdiscref14_Valid.calls a0 a1_0 a1_1 _ _ l1_2 false _ ?side1 ?side2 A5.out).mono ?_); (case side1 => repeat (first | exact (Kd.C_below HR1_2.out HB.out) | (with_reducible refine Kd.C_alloc ?_ _) | (with_reducible refine Kd.C_drewN ?_ _) | (with_reducible refine Kd.C_drew ?_))); (case side2 => exact HC1_2.out); rintro e w66 ⟨rfl, hb⟩; refine ⟨_, rfl, ?_⟩; have n0_ := Aside0.mk (blk_below (g := gb238) (o := .cells #[.int .i64 a1_0, .bool a1_1, .slice A1_2 l1_2.length c1_2] 24 (0, 0)) (by (with_reducible repeat (first | refine blk_drewN ?_ _ | refine blk_drew ?_ | refine blk_alloc ?_ _)); exact BK238.out) hb); have n1_ := Aside0.mk (blk_below (g := gb239) (o := .cells #[.int .i64 0, .bool false, .slice none 0 0] 24 (0, 0)) (by (with_reducible repeat (first | refine blk_drewN ?_ _ | refine blk_drew ?_ | refine blk_alloc ?_ _)); exact BK239.out) hb); have n2_ := Aside0.mk (below_step (by repeat (first | (with_reducible first | exact HB.out | apply below_alloc | apply pw_below_drewN | apply below_drew1 | refine below_set ?_ GE238.out | refine below_set ?_ GE239.out) | exact HB.out)) hb); clear BK238; clear BK239; clear HB; have BK238 := n0_; have BK239 := n1_; have HB := n2_; clear n0_ n1_ n2_; (try clear hb); (try clear hb2); (try clear hk); (try clear hi); obtain ⟨hcz67_0, hcz67_1, hcz67_2⟩ := cel3 BK239.out; obtain ⟨hfz67_0, hfz67_1, hfz67_2⟩ := frz3 BK239.out))
   refine bodyPost_ret (results_ct rfl _ _ gb239 24 #[.int .i64 0, .bool false, .slice none 0 0] (0, 0) _ rfl (by (with_reducible repeat (first | refine blk_drewN ?_ _ | refine blk_drew ?_ | refine blk_alloc ?_ _)); refine blk_put (cs := #[.int .i64 0, .bool false, .slice none 0 0]) ?_ 2 _ rfl; (with_reducible repeat (first | refine blk_drewN ?_ _ | refine blk_drew ?_ | refine blk_alloc ?_ _)); refine blk_put (cs := #[.int .i64 0, .bool false, .slice none 0 0]) ?_ 1 _ rfl; (with_reducible repeat (first | refine blk_drewN ?_ _ | refine blk_drew ?_ | refine blk_alloc ?_ _)); refine blk_put (cs := #[.int .i64 0, .bool false, .slice none 0 0]) ?_ 0 _ rfl; (with_reducible repeat (first | refine blk_drewN ?_ _ | refine blk_drew ?_ | refine blk_alloc ?_ _)); exact BK239.out) Try.underlying24 rfl (by kernel_rfl)) rfl ?_
   exact ⟨_, by first | rfl | (simp [errW_none, errW_some] <;> rfl) | (simp [*, errW_none, errW_some] <;> rfl), by first | exact Kd.R_nil _ _ _ _ _ | exact Kd.N_nil _ _ _ _ _ | exact Kd.V_nil _ _ _ _ _ | exact Kd.Q_nil _ _ _ _ _ | exact Kd.S_nil _ _ _ _ _, by repeat (first | (with_reducible first | exact HB.out | apply below_alloc | apply pw_below_drewN | apply below_drew1 | refine below_set ?_ GE238.out | refine below_set ?_ GE239.out) | exact HB.out)⟩
end Go.Proofs.Ytjhepdcdhabcjaa.G
namespace Go.Proofs.Ytjhepdcdhabcjaa.G
open Go.RowKit Go.Proofs.YtjhepdcdhabcjaaW.PrintWords Go.Proofs.YtjhepdcdhabcjaaW.PrintLast Go.Proofs.YtjhepdcdhabcjaaW.PrintMore
attribute [local go_sem] max2_int min2_int max_two min_two max_three min_three max_four min_four   -- for this text's walks alone
set_option linter.unusedVariables false
set_option linter.unusedSimpArgs false
mutual
def masterdiscref14_CloseTrack.j0 : Nat → Int → Bool → Int → Bool → List (S40) → Option (Int × Bool × (List (S40)) × Int)
 | 0, _, _, _, _, _ => none
 | k + 1, x2, x23, x249000, x249001, x249002 => if x23 = true then (some (0, false, ([] : List (S40)), 6)) else (if 0 ≤ (wrap64 (x2 - 1)) then (if (wrap64 (x2 - 1)) < (x249002.length : Int) then (if ((rd_T40 x249002 (wrap64 (x2 - 1))).f5) = 1 then (if (x2 = (x249002.length : Int)) then (masterdiscref14_CloseTrack.j1 k x2 false x249000 x249001 x249002 ((rd_T40 x249002 (wrap64 (x2 - 1))).f0) ((rd_T40 x249002 (wrap64 (x2 - 1))).f1) ((rd_T40 x249002 (wrap64 (x2 - 1))).f2) ((rd_T40 x249002 (wrap64 (x2 - 1))).f3) ((rd_T40 x249002 (wrap64 (x2 - 1))).f4) ((rd_T40 x249002 (wrap64 (x2 - 1))).f5) ((rd_T40 x249002 (wrap64 (x2 - 1))).f6)) else (masterdiscref14_CloseTrack.j1 k x2 (((rd_T40 x249002 (wrap64 (x2 - 1))).f4) != (wrap64 (((rd_T40 x249002 (wrap64 (x2 - 1))).f2) + ((rd_T40 x249002 (wrap64 (x2 - 1))).f3)))) x249000 x249001 x249002 ((rd_T40 x249002 (wrap64 (x2 - 1))).f0) ((rd_T40 x249002 (wrap64 (x2 - 1))).f1) ((rd_T40 x249002 (wrap64 (x2 - 1))).f2) ((rd_T40 x249002 (wrap64 (x2 - 1))).f3) ((rd_T40 x249002 (wrap64 (x2 - 1))).f4) ((rd_T40 x249002 (wrap64 (x2 - 1))).f5) ((rd_T40 x249002 (wrap64 (x2 - 1))).f6))) else (masterdiscref14_CloseTrack.j1 k x2 true x249000 x249001 x249002 ((rd_T40 x249002 (wrap64 (x2 - 1))).f0) ((rd_T40 x249002 (wrap64 (x2 - 1))).f1) ((rd_T40 x249002 (wrap64 (x2 - 1))).f2) ((rd_T40 x249002 (wrap64 (x2 - 1))).f3) ((rd_T40 x249002 (wrap64 (x2 - 1))).f4) ((rd_T40 x249002 (wrap64 (x2 - 1))).f5) ((rd_T40 x249002 (wrap64 (x2 - 1))).f6))) else (none)) else (none))
def masterdiscref14_CloseTrack.j1 : Nat → Int → Bool → Int → Bool → List (S40) → Int → Int → Int → Int → Int → Int → Int → Option (Int × Bool × (List (S40)) × Int)
 | 0, _, _, _, _, _, _, _, _, _, _, _, _ => none
 | k + 1, x2, x52, x249000, x249001, x249002, x253000, x253001, x253002, x253003, x253004, x253005, x253006 => if x52 = true then (some (0, false, ([] : List (S40)), 8)) else ((masterdiscref14_changed.f x249000 x249001 x249002 (wrap64 (x2 - 1)) x253000 x253001 x253002 (wrap64 (x253004 - x253002)) x253004 2 x253006).bind fun bt253 => (some (bt253.1, bt253.2.1, bt253.2.2, 0)))
end
def masterdiscref14_CloseTrack.f (k : Nat) (a0 : Int) (a1_0 : Int) (a1_1 : Bool) (l1_2 : List (S40)) (a2 : Int) : Option (Int × Bool × (List (S40)) × Int) := (masterdiscref14_Valid.f a0 a1_0 a1_1 l1_2).bind fun t250 => (if t250 = true then (if a2 < 1 then (masterdiscref14_CloseTrack.j0 k a2 true a1_0 a1_1 l1_2) else (masterdiscref14_CloseTrack.j0 k a2 (decide (a2 > (l1_2.length : Int))) a1_0 a1_1 l1_2)) else (some (0, false, ([] : List (S40)), 1)))
theorem masterdiscref14_CloseTrack.mono_l : ∀ k, (∀ y0 y1 y2 y3 y4, LeO (masterdiscref14_CloseTrack.j0 k y0 y1 y2 y3 y4) (masterdiscref14_CloseTrack.j0 (k + 1) y0 y1 y2 y3 y4)) ∧ (∀ y0 y1 y2 y3 y4 y5 y6 y7 y8 y9 y10 y11, LeO (masterdiscref14_CloseTrack.j1 k y0 y1 y2 y3 y4 y5 y6 y7 y8 y9 y10 y11) (masterdiscref14_CloseTrack.j1 (k + 1) y0 y1 y2 y3 y4 y5 y6 y7 y8 y9 y10 y11))
 | 0 => ⟨fun _ _ _ _ _ r h => by simp [masterdiscref14_CloseTrack.j0] at h, fun _ _ _ _ _ _ _ _ _ _ _ _ r h => by simp [masterdiscref14_CloseTrack.j1] at h⟩
 | k + 1 => by
  obtain ⟨ih0, ih1⟩ := masterdiscref14_CloseTrack.mono_l k
  refine ⟨?_, ?_⟩
  · intro y0 y1 y2 y3 y4
    unfold masterdiscref14_CloseTrack.j0
    repeat' first
    | (with_reducible exact ih0 _ _ _ _ _)
    | (with_reducible exact ih1 _ _ _ _ _ _ _ _ _ _ _ _)
    | (with_reducible exact LeO.refl _)
    | (with_reducible exact LeO.none _)
    | (with_reducible refine LeO.ite ?_ ?_)
    | (with_reducible refine LeO.bind ?_ (fun _ => ?_))
    | exact ih0 _ _ _ _ _
    | exact ih1 _ _ _ _ _ _ _ _ _ _ _ _
    | exact LeO.none _
    | refine LeO.ite ?_ ?_
    | refine LeO.bind ?_ (fun _ => ?_)
  · intro y0 y1 y2 y3 y4 y5 y6 y7 y8 y9 y10 y11
    unfold masterdiscref14_CloseTrack.j1
    repeat' first
    | (with_reducible exact ih0 _ _ _ _ _)
    | (with_reducible exact ih1 _ _ _ _ _ _ _ _ _ _ _ _)
    | (with_reducible exact LeO.refl _)
    | (with_reducible exact LeO.none _)
    | (with_reducible refine LeO.ite ?_ ?_)
    | (with_reducible refine LeO.bind ?_ (fun _ => ?_))
    | exact ih0 _ _ _ _ _
    | exact ih1 _ _ _ _ _ _ _ _ _ _ _ _
    | exact LeO.none _
    | refine LeO.ite ?_ ?_
    | refine LeO.bind ?_ (fun _ => ?_)
theorem masterdiscref14_CloseTrack.mono : ∀ a0 a1 a2 a3 a4 k, LeO (masterdiscref14_CloseTrack.f k a0 a1 a2 a3 a4) (masterdiscref14_CloseTrack.f (k + 1) a0 a1 a2 a3 a4) := by
 intro a0 a1 a2 a3 a4 k
 obtain ⟨ih0, ih1⟩ := masterdiscref14_CloseTrack.mono_l k
 unfold masterdiscref14_CloseTrack.f
 repeat' first
  | (with_reducible exact ih0 _ _ _ _ _)
  | (with_reducible exact ih1 _ _ _ _ _ _ _ _ _ _ _ _)
  | (with_reducible exact LeO.refl _)
  | (with_reducible exact LeO.none _)
  | (with_reducible refine LeO.ite ?_ ?_)
  | (with_reducible refine LeO.bind ?_ (fun _ => ?_))
  | exact ih0 _ _ _ _ _
  | exact ih1 _ _ _ _ _ _ _ _ _ _ _ _
  | exact LeO.none _
  | refine LeO.ite ?_ ?_
  | refine LeO.bind ?_ (fun _ => ?_)
set_option maxHeartbeats 8000000 in
set_option maxRecDepth 100000 in
theorem masterdiscref14_CloseTrack.calls (k : Nat) (a0 : Int) (a1_0 : Int) (a1_1 : Bool) (A1_2 : Option Addr) (c1_2 : Nat) (l1_2 : List (S40)) (a2 : Int) (r1 : Int) (r2 : Bool) (r3 : List (S40)) (r4 : Int) (w : World) (hr1_2 : Kd.C k40 w A1_2 l1_2.length l1_2) (hc1_2 : l1_2.length ≤ c1_2) (h : masterdiscref14_CloseTrack.f k a0 a1_0 a1_1 l1_2 a2 = some (r1, r2, r3, r4)) :
 Calls Try.prog 22 #[.int .i64 a0, .agg #[.int .i64 a1_0, .bool a1_1, .slice A1_2 l1_2.length c1_2], .int .i64 a2] w fun e w' => ∃ v2_ : Value, e = .returned (.tuple #[.agg #[.int .i64 r1, .bool r2, v2_], .int .i64 r4]) ∧ Kd.R k40 40 w' w.heap.size (fun _ => True) v2_ r3 ∧ Below w.heap.size w w' := by
 have hu24 := Try.underlying24
 have hu40 := Try.underlying40
 have HR1_2 := Aside0.mk hr1_2
 have HC1_2 := Aside0.mk hc1_2
 clear hr1_2 hc1_2
 have HB := Aside0.mk (Below.refl w.heap.size w)
 have H : ((masterdiscref14_Valid.f a0 a1_0 a1_1 l1_2).bind fun t250 => (if t250 = true then (if a2 < 1 then (masterdiscref14_CloseTrack.j0 k a2 true a1_0 a1_1 l1_2) else (masterdiscref14_CloseTrack.j0 k a2 (decide (a2 > (l1_2.length : Int))) a1_0 a1_1 l1_2)) else (some (0, false, ([] : List (S40)), 1)))) = some (r1, r2, r3, r4) := h
 clear h
 replace H := Option.bind_eq_some_iff.mp H
 obtain ⟨t250, A40, H⟩ := H
 replace H : (if t250 = true then (if a2 < 1 then (masterdiscref14_CloseTrack.j0 k a2 true a1_0 a1_1 l1_2) else (masterdiscref14_CloseTrack.j0 k a2 (decide (a2 > (l1_2.length : Int))) a1_0 a1_1 l1_2)) else (some (0, false, ([] : List (S40)), 1))) = some (r1, r2, r3, r4) := H
 have A4 := Aside0.mk A40
 clear A40
 by_cases c5 : t250 = true
 · subst c5
   have H1 : (if a2 < 1 then (masterdiscref14_CloseTrack.j0 k a2 true a1_0 a1_1 l1_2) else (masterdiscref14_CloseTrack.j0 k a2 (decide (a2 > (l1_2.length : Int))) a1_0 a1_1 l1_2)) = some (r1, r2, r3, r4) := by rw [if_pos rfl] at H; exact H
   clear H
   have H := H1
   clear H1
   have HC6 := Aside0.mk H
   clear H
   go_enter Try.func22, Try.ntmps22
   go_upto_region 3 with (first | ((with_reducible refine gate_dst (N := 4) rfl ?_); (try (refine gate_guard (by rfl) ?_; dsimp only)); refine box_event ?hg (N := 4) ?hd (cs := #[.int .i64 a1_0, .bool a1_1, .slice A1_2 l1_2.length c1_2]) (t := 24) ?hr ?_; (case hd => rfl); (case hg => rfl); (case hr => first | (go_simp; done) | (go_simp; rfl)); intro gb248 hg w7 hbox hb; have n0_ := Aside0.mk (below_step (by repeat (first | (with_reducible first | exact HB.out | apply below_alloc | apply pw_below_drewN | apply below_drew1) | exact HB.out)) hb); have n1_ := Aside0.mk (hbox); have n2_ := Aside0.mk ((by rw [hg]; exact (below_size (by repeat (first | (with_reducible first | exact HB.out | apply below_alloc | apply pw_below_drewN | apply below_drew1) | exact HB.out))) : w.heap.size ≤ gb248)); have n3_ := Aside0.mk ((by rw [hg]; exact (below_size (by repeat (first | (with_reducible first | exact HB.out | apply below_alloc | apply pw_below_drewN | apply below_drew1) | exact HB.out))) : w.heap.size ≤ gb248)); clear HB; have HB := n0_; have BK248 := n1_; have GW248 := n2_; have GE248 := n3_; clear n0_ n1_ n2_ n3_; clear hb hbox hg) | ((with_reducible refine gate_dst (N := 6) rfl ?_); (try (refine gate_guard (by rfl) ?_; dsimp only)); refine box_event ?hg (N := 6) ?hd (cs := #[.int .i64 0, .bool false, .slice none 0 0]) (t := 24) ?hr ?_; (case hd => rfl); (case hg => rfl); (case hr => first | (go_simp; done) | (go_simp; rfl)); intro gb249 hg w8 hbox hb; have n0_ := Aside0.mk (blk_below (g := gb248) (o := .cells #[.int .i64 a1_0, .bool a1_1, .slice A1_2 l1_2.length c1_2] 24 (0, 0)) (by (with_reducible repeat (first | refine blk_drewN ?_ _ | refine blk_drew ?_ | refine blk_alloc ?_ _)); exact BK248.out) hb); have n1_ := Aside0.mk (below_step (by repeat (first | (with_reducible first | exact HB.out | apply below_alloc | apply pw_below_drewN | apply below_drew1 | refine below_set ?_ GE248.out) | exact HB.out)) hb); have n2_ := Aside0.mk (hbox); have n3_ := Aside0.mk ((by rw [hg]; exact (below_size (by repeat (first | (with_reducible first | exact HB.out | apply below_alloc | apply pw_below_drewN | apply below_drew1 | refine below_set ?_ GE248.out) | exact HB.out))) : w.heap.size ≤ gb249)); have n4_ := Aside0.mk ((by rw [hg]; exact (below_size (by repeat (first | (with_reducible first | exact HB.out | apply below_alloc | apply pw_below_drewN | apply below_drew1 | refine below_set ?_ GE248.out) | exact HB.out))) : w.heap.size ≤ gb249)); have n5_ := Aside0.mk ((by rw [hg]; exact Nat.ne_of_lt (blk_lt (g := gb248) (o := .cells #[.int .i64 a1_0, .bool a1_1, .slice A1_2 l1_2.length c1_2] 24 (0, 0)) (by (with_reducible repeat (first | refine blk_drewN ?_ _ | refine blk_drew ?_ | refine blk_alloc ?_ _)); exact BK248.out)) : gb248 ≠ gb249)); have n6_ := Aside0.mk ((by rw [hg]; exact Nat.ne_of_gt (blk_lt (g := gb248) (o := .cells #[.int .i64 a1_0, .bool a1_1, .slice A1_2 l1_2.length c1_2] 24 (0, 0)) (by (with_reducible repeat (first | refine blk_drewN ?_ _ | refine blk_drew ?_ | refine blk_alloc ?_ _)); exact BK248.out)) : gb249 ≠ gb248)); clear BK248; clear HB; have BK248 := n0_; have HB := n1_; have BK249 := n2_; have GW249 := n3_; have GE249 := n4_; have NB248_249 := n5_; have NB249_248 := n6_; clear n0_ n1_ n2_ n3_ n4_ n5_ n6_; clear hb hbox hg; have hnb9 := NB248_249.out; have hnc9 := NB249_248.out; obtain ⟨hcz10_0, hcz10_1, hcz10_2⟩ := cel3 BK248.out; obtain ⟨hfz10_0, hfz10_1, hfz10_2⟩ := frz3 BK248.out) | ((with_reducible refine gate_callee (f := 11) rfl ?_); refine goesL_ (some 12) rfl rfl Try.func11 (by kernel_rfl) rfl #[.int .i64 a0, .agg #[.int .i64 a1_0, .bool a1_1, .slice A1_2 l1_2.length c1_2]] rfl (by (try simp only [List.map_toArray, List.map_cons, List.map_nil]); first | done | rfl | (simp only [List.length_drop, List.length_take]; rfl)) ?_; (with_reducible refine (masterdiscref14_Valid.calls a0 a1_0 a1_1 _ _ l1_2 true _ ?side1 ?side2 A4.out).mono ?_); (case side1 => repeat (first | exact (Kd.C_below HR1_2.out HB.out) | (with_reducible refine Kd.C_alloc ?_ _) | (with_reducible refine Kd.C_drewN ?_ _) | (with_reducible refine Kd.C_drew ?_))); (case side2 => exact HC1_2.out); rintro e w11 ⟨rfl, hb⟩; refine ⟨_, rfl, ?_⟩; have n0_ := Aside0.mk (blk_below (g := gb248) (o := .cells #[.int .i64 a1_0, .bool a1_1, .slice A1_2 l1_2.length c1_2] 24 (0, 0)) (by (with_reducible repeat (first | refine blk_drewN ?_ _ | refine blk_drew ?_ | refine blk_alloc ?_ _)); exact BK248.out) hb); have n1_ := Aside0.mk (blk_below (g := gb249) (o := .cells #[.int .i64 0, .bool false, .slice none 0 0] 24 (0, 0)) (by (with_reducible repeat (first | refine blk_drewN ?_ _ | refine blk_drew ?_ | refine blk_alloc ?_ _)); exact BK249.out) hb); have n2_ := Aside0.mk (below_step (by repeat (first | (with_reducible first | exact HB.out | apply below_alloc | apply pw_below_drewN | apply below_drew1 | refine below_set ?_ GE248.out | refine below_set ?_ GE249.out) | exact HB.out)) hb); clear BK248; clear BK249; clear HB; have BK248 := n0_; have BK249 := n1_; have HB := n2_; clear n0_ n1_ n2_; (try clear hb); (try clear hb2); (try clear hk); (try clear hi)))
   (try simp only [Act.put, List.setIfInBounds_toArray, List.set_cons_zero, List.set_cons_succ])
   go_cut [23] (fun v23 wc => ∃ (kq : Nat) (x23_5 : Bool), v23 = .bool x23_5 ∧ Aside0 (masterdiscref14_CloseTrack.j0 kq a2 x23_5 a1_0 a1_1 l1_2 = some (r1, r2, r3, r4)) ∧ Aside0 (kq ≤ k) ∧ Aside0 (wc.heap[gb248]? = some (.cells #[.int .i64 a1_0, .bool a1_1, (.slice A1_2 l1_2.length c1_2)] 24 (0, 0))) ∧ Aside0 (wc.heap[gb249]? = some (.cells #[.int .i64 0, .bool false, (.slice none 0 0)] 24 (0, 0))) ∧ Aside0 (Below w.heap.size w wc))
   case first =>
    have H := HC6.out
    clear HC6
    by_cases c12 : a2 < 1
    · rw [if_pos c12] at H
      have c12b0 : decide (a2 < 1) = true := decide_eq_true c12
      clear c12
      (first | rw [c12b0] | (simp only [i64_w, i32_w]; rw [c12b0]) | skip)
      have H' := Aside0.mk H
      clear H
      go_wp2
      go_meet
      case rel => exact ⟨_, (true), (by first | rfl | (simp; done) | (simp [*]; done)), H', ⟨by first | omega | exact Nat.le_refl _⟩, ⟨by (with_reducible repeat (first | refine blk_drewN ?_ _ | refine blk_drew ?_ | refine blk_alloc ?_ _)); exact BK248.out⟩, ⟨by (with_reducible repeat (first | refine blk_drewN ?_ _ | refine blk_drew ?_ | refine blk_alloc ?_ _)); exact BK249.out⟩, ⟨by repeat (first | (with_reducible first | exact HB.out | apply below_alloc | apply pw_below_drewN | apply below_drew1 | refine below_set ?_ GE248.out | refine below_set ?_ GE249.out) | exact HB.out)⟩⟩
    · rw [if_neg c12] at H
      have c12b0 : decide (a2 < 1) = false := decide_eq_false c12
      clear c12
      (first | rw [c12b0] | (simp only [i64_w, i32_w]; rw [c12b0]) | skip)
      have H' := Aside0.mk H
      clear H
      have hnb13 := NB248_249.out
      have hnc13 := NB249_248.out
      obtain ⟨hcz14_0, hcz14_1, hcz14_2⟩ := cel3 BK248.out
      obtain ⟨hfz14_0, hfz14_1, hfz14_2⟩ := frz3 BK248.out
      go_wp2
      go_meet
      case rel => exact ⟨_, (decide (a2 > (l1_2.length : Int))), (by first | rfl | (simp; done) | (simp [*]; done)), H', ⟨by first | omega | exact Nat.le_refl _⟩, ⟨by (with_reducible repeat (first | refine blk_drewN ?_ _ | refine blk_drew ?_ | refine blk_alloc ?_ _)); exact BK248.out⟩, ⟨by (with_reducible repeat (first | refine blk_drewN ?_ _ | refine blk_drew ?_ | refine blk_alloc ?_ _)); exact BK249.out⟩, ⟨by repeat (first | (with_reducible first | exact HB.out | apply below_alloc | apply pw_below_drewN | apply below_drew1 | refine below_set ?_ GE248.out | refine below_set ?_ GE249.out) | exact HB.out)⟩⟩
   case rest =>
    clear HC6
    try clear c1
    try clear c2
    try clear p2
    try clear c5
    try clear c9
    try clear c11
    try clear c12
    try clear c12b0
    try clear c13
    try clear hcz10_0
    try clear hcz10_1
    try clear hcz10_2
    try clear hcz14_0
    try clear hcz14_1
    try clear hcz14_2
    try clear hfz10_0
    try clear hfz10_1
    try clear hfz10_2
    try clear hfz14_0
    try clear hfz14_1
    try clear hfz14_2
    obtain ⟨kq, x23_5, rfl, HA, HJ5, BK248, BK249, HB⟩ := hcut
    cases kq with
    | zero => exact absurd HA.out (by simp [masterdiscref14_CloseTrack.j0])
    | succ kj5 =>
     have H := HA.out
     clear HA
     simp only [masterdiscref14_CloseTrack.j0] at H
     by_cases c15 : x23_5 = true
     · subst c15
       have H1 : (some (0, false, ([] : List (S40)), 6)) = some (r1, r2, r3, r4) := by rw [if_pos rfl] at H; exact H
       clear H
       have H := H1
       clear H1
       simp only [Option.some.injEq, Prod.mk.injEq] at H
       obtain ⟨rfl, rfl, rfl, rfl⟩ := H
       have hnb16 := NB249_248.out
       have hnc16 := NB248_249.out
       obtain ⟨hcz17_0, hcz17_1, hcz17_2⟩ := cel3 BK249.out
       obtain ⟨hfz17_0, hfz17_1, hfz17_2⟩ := frz3 BK249.out
       go_wp2
       refine bodyPost_ret (results_ct rfl _ _ gb249 24 #[.int .i64 0, .bool false, .slice none 0 0] (0, 0) _ rfl (by (with_reducible repeat (first | refine blk_drewN ?_ _ | refine blk_drew ?_ | refine blk_alloc ?_ _)); refine blk_put (cs := #[.int .i64 0, .bool false, .slice none 0 0]) ?_ 2 _ rfl; (with_reducible repeat (first | refine blk_drewN ?_ _ | refine blk_drew ?_ | refine blk_alloc ?_ _)); refine blk_put (cs := #[.int .i64 0, .bool false, .slice none 0 0]) ?_ 1 _ rfl; (with_reducible repeat (first | refine blk_drewN ?_ _ | refine blk_drew ?_ | refine blk_alloc ?_ _)); refine blk_put (cs := #[.int .i64 0, .bool false, .slice none 0 0]) ?_ 0 _ rfl; (with_reducible repeat (first | refine blk_drewN ?_ _ | refine blk_drew ?_ | refine blk_alloc ?_ _)); exact BK249.out) Try.underlying24 rfl (by kernel_rfl)) rfl ?_
       exact ⟨_, by first | rfl | (simp [errW_none, errW_some] <;> rfl) | (simp [*, errW_none, errW_some] <;> rfl), by first | exact Kd.R_nil _ _ _ _ _ | exact Kd.N_nil _ _ _ _ _ | exact Kd.V_nil _ _ _ _ _ | exact Kd.Q_nil _ _ _ _ _ | exact Kd.S_nil _ _ _ _ _, by repeat (first | (with_reducible first | exact HB.out | apply below_alloc | apply pw_below_drewN | apply below_drew1 | refine below_set ?_ GE248.out | refine below_set ?_ GE249.out) | exact HB.out)⟩
     · replace c15 := Bool.eq_false_iff.mpr c15
       subst c15
       have H1 : (if 0 ≤ (wrap64 (a2 - 1)) then (if (wrap64 (a2 - 1)) < (l1_2.length : Int) then (if ((rd_T40 l1_2 (wrap64 (a2 - 1))).f5) = 1 then (if (a2 = (l1_2.length : Int)) then (masterdiscref14_CloseTrack.j1 kj5 a2 false a1_0 a1_1 l1_2 ((rd_T40 l1_2 (wrap64 (a2 - 1))).f0) ((rd_T40 l1_2 (wrap64 (a2 - 1))).f1) ((rd_T40 l1_2 (wrap64 (a2 - 1))).f2) ((rd_T40 l1_2 (wrap64 (a2 - 1))).f3) ((rd_T40 l1_2 (wrap64 (a2 - 1))).f4) ((rd_T40 l1_2 (wrap64 (a2 - 1))).f5) ((rd_T40 l1_2 (wrap64 (a2 - 1))).f6)) else (masterdiscref14_CloseTrack.j1 kj5 a2 (((rd_T40 l1_2 (wrap64 (a2 - 1))).f4) != (wrap64 (((rd_T40 l1_2 (wrap64 (a2 - 1))).f2) + ((rd_T40 l1_2 (wrap64 (a2 - 1))).f3)))) a1_0 a1_1 l1_2 ((rd_T40 l1_2 (wrap64 (a2 - 1))).f0) ((rd_T40 l1_2 (wrap64 (a2 - 1))).f1) ((rd_T40 l1_2 (wrap64 (a2 - 1))).f2) ((rd_T40 l1_2 (wrap64 (a2 - 1))).f3) ((rd_T40 l1_2 (wrap64 (a2 - 1))).f4) ((rd_T40 l1_2 (wrap64 (a2 - 1))).f5) ((rd_T40 l1_2 (wrap64 (a2 - 1))).f6))) else (masterdiscref14_CloseTrack.j1 kj5 a2 true a1_0 a1_1 l1_2 ((rd_T40 l1_2 (wrap64 (a2 - 1))).f0) ((rd_T40 l1_2 (wrap64 (a2 - 1))).f1) ((rd_T40 l1_2 (wrap64 (a2 - 1))).f2) ((rd_T40 l1_2 (wrap64 (a2 - 1))).f3) ((rd_T40 l1_2 (wrap64 (a2 - 1))).f4) ((rd_T40 l1_2 (wrap64 (a2 - 1))).f5) ((rd_T40 l1_2 (wrap64 (a2 - 1))).f6))) else (none)) else (none)) = some (r1, r2, r3, r4) := by rw [if_neg (show ¬ (false = true) by decide)] at H; exact H
       clear H
       have H := H1
       clear H1
       obtain ⟨ji18, hji18⟩ : ∃ j_ : Int, (wrap64 (a2 - 1)) = j_ := ⟨_, rfl⟩
       replace H : (if 0 ≤ (ji18) then (if (ji18) < (l1_2.length : Int) then (if ((rd_T40 l1_2 (ji18)).f5) = 1 then (if (a2 = (l1_2.length : Int)) then (masterdiscref14_CloseTrack.j1 kj5 a2 false a1_0 a1_1 l1_2 ((rd_T40 l1_2 (ji18)).f0) ((rd_T40 l1_2 (ji18)).f1) ((rd_T40 l1_2 (ji18)).f2) ((rd_T40 l1_2 (ji18)).f3) ((rd_T40 l1_2 (ji18)).f4) ((rd_T40 l1_2 (ji18)).f5) ((rd_T40 l1_2 (ji18)).f6)) else (masterdiscref14_CloseTrack.j1 kj5 a2 (((rd_T40 l1_2 (ji18)).f4) != (wrap64 (((rd_T40 l1_2 (ji18)).f2) + ((rd_T40 l1_2 (ji18)).f3)))) a1_0 a1_1 l1_2 ((rd_T40 l1_2 (ji18)).f0) ((rd_T40 l1_2 (ji18)).f1) ((rd_T40 l1_2 (ji18)).f2) ((rd_T40 l1_2 (ji18)).f3) ((rd_T40 l1_2 (ji18)).f4) ((rd_T40 l1_2 (ji18)).f5) ((rd_T40 l1_2 (ji18)).f6))) else (masterdiscref14_CloseTrack.j1 kj5 a2 true a1_0 a1_1 l1_2 ((rd_T40 l1_2 (ji18)).f0) ((rd_T40 l1_2 (ji18)).f1) ((rd_T40 l1_2 (ji18)).f2) ((rd_T40 l1_2 (ji18)).f3) ((rd_T40 l1_2 (ji18)).f4) ((rd_T40 l1_2 (ji18)).f5) ((rd_T40 l1_2 (ji18)).f6))) else (none)) else (none)) = some (r1, r2, r3, r4) := by first | (rw [hji18] at H; exact H) | (simp only [hji18] at H ⊢; exact H)
       have hji18w : (IntKind.i64.wrap (a2 - 1)) = ji18 := (i64_w _).trans hji18
       by_cases c19 : 0 ≤ (ji18)
       · rw [if_pos c19] at H
         have c19b0 : decide (0 ≤ (ji18)) = true := decide_eq_true c19
         clear c19
         by_cases c20 : (ji18) < (l1_2.length : Int)
         · rw [if_pos c20] at H
           have c20b0 : decide ((ji18) < (l1_2.length : Int)) = true := decide_eq_true c20
           clear c20
           have HC21 := Aside0.mk H
           clear H
           have hnb22 := NB248_249.out
           have hnc22 := NB249_248.out
           obtain ⟨hcz23_0, hcz23_1, hcz23_2⟩ := cel3 BK248.out
           obtain ⟨hfz23_0, hfz23_1, hfz23_2⟩ := frz3 BK248.out
           have p251 : 0 ≤ ((ji18) : Int) := of_decide_eq_true (by first | (with_reducible assumption) | assumption)
           have q251 : (ji18) < (l1_2.length : Int) := of_decide_eq_true (by first | (with_reducible assumption) | assumption)
           obtain ⟨ad251, e251, hx251_0, hx251_1, hx251_2, hx251_3, hx251_4, hx251_5, hx251_6⟩ := at_T40 HR1_2.out (ji18) p251 q251
           cases e251
           replace hx251_0 := upc HB.out hx251_0
           replace hx251_1 := upc HB.out hx251_1
           replace hx251_2 := upc HB.out hx251_2
           replace hx251_3 := upc HB.out hx251_3
           replace hx251_4 := upc HB.out hx251_4
           replace hx251_5 := upc HB.out hx251_5
           replace hx251_6 := upc HB.out hx251_6
           replace p251 := eq_true p251
           replace q251 := eq_true q251
           go_upto_region 7 with (first | ((with_reducible refine gate_dst (N := 8) rfl ?_); (try (refine gate_guard (by rfl) ?_; dsimp only)); refine box_event ?hg (N := 8) ?hd (cs := #[.int .i64 0, .int .i64 0, .int .i64 0, .int .i64 0, .int .i64 0, .int .i64 0, .int .i64 0]) (t := 40) ?hr ?_; (case hd => rfl); (case hg => rfl); (case hr => first | (go_simp; done) | (go_simp; rfl)); intro gb252 hg w24 hbox hb; have n0_ := Aside0.mk (blk_below (g := gb248) (o := .cells #[.int .i64 a1_0, .bool a1_1, .slice (some ad251) l1_2.length c1_2] 24 (0, 0)) (by (with_reducible repeat (first | refine blk_drewN ?_ _ | refine blk_drew ?_ | refine blk_alloc ?_ _)); exact BK248.out) hb); have n1_ := Aside0.mk (blk_below (g := gb249) (o := .cells #[.int .i64 0, .bool false, .slice none 0 0] 24 (0, 0)) (by (with_reducible repeat (first | refine blk_drewN ?_ _ | refine blk_drew ?_ | refine blk_alloc ?_ _)); exact BK249.out) hb); have n2_ := Aside0.mk (below_step (by repeat (first | (with_reducible first | exact HB.out | apply below_alloc | apply pw_below_drewN | apply below_drew1 | refine below_set ?_ GE248.out | refine below_set ?_ GE249.out) | exact HB.out)) hb); have n3_ := Aside0.mk (hbox); have n4_ := Aside0.mk ((by rw [hg]; exact (below_size (by repeat (first | (with_reducible first | exact HB.out | apply below_alloc | apply pw_below_drewN | apply below_drew1 | refine below_set ?_ GE248.out | refine below_set ?_ GE249.out) | exact HB.out))) : w.heap.size ≤ gb252)); have n5_ := Aside0.mk ((by rw [hg]; exact (below_size (by repeat (first | (with_reducible first | exact HB.out | apply below_alloc | apply pw_below_drewN | apply below_drew1 | refine below_set ?_ GE248.out | refine below_set ?_ GE249.out) | exact HB.out))) : w.heap.size ≤ gb252)); have n6_ := Aside0.mk ((by rw [hg]; exact Nat.ne_of_lt (blk_lt (g := gb248) (o := .cells #[.int .i64 a1_0, .bool a1_1, .slice (some ad251) l1_2.length c1_2] 24 (0, 0)) (by (with_reducible repeat (first | refine blk_drewN ?_ _ | refine blk_drew ?_ | refine blk_alloc ?_ _)); exact BK248.out)) : gb248 ≠ gb252)); have n7_ := Aside0.mk ((by rw [hg]; exact Nat.ne_of_gt (blk_lt (g := gb248) (o := .cells #[.int .i64 a1_0, .bool a1_1, .slice (some ad251) l1_2.length c1_2] 24 (0, 0)) (by (with_reducible repeat (first | refine blk_drewN ?_ _ | refine blk_drew ?_ | refine blk_alloc ?_ _)); exact BK248.out)) : gb252 ≠ gb248)); have n8_ := Aside0.mk ((by rw [hg]; exact Nat.ne_of_lt (blk_lt (g := gb249) (o := .cells #[.int .i64 0, .bool false, .slice none 0 0] 24 (0, 0)) (by (with_reducible repeat (first | refine blk_drewN ?_ _ | refine blk_drew ?_ | refine blk_alloc ?_ _)); exact BK249.out)) : gb249 ≠ gb252)); have n9_ := Aside0.mk ((by rw [hg]; exact Nat.ne_of_gt (blk_lt (g := gb249) (o := .cells #[.int .i64 0, .bool false, .slice none 0 0] 24 (0, 0)) (by (with_reducible repeat (first | refine blk_drewN ?_ _ | refine blk_drew ?_ | refine blk_alloc ?_ _)); exact BK249.out)) : gb252 ≠ gb249)); clear BK248; clear BK249; clear HB; have BK248 := n0_; have BK249 := n1_; have HB := n2_; have BK252 := n3_; have GW252 := n4_; have GE252 := n5_; have NB248_252 := n6_; have NB252_248 := n7_; have NB249_252 := n8_; have NB252_249 := n9_; clear n0_ n1_ n2_ n3_ n4_ n5_ n6_ n7_ n8_ n9_; clear hb hbox hg; have hnb25 := NB252_248.out; have hnc25 := NB248_252.out; have hnb26 := NB252_249.out; have hnc26 := NB249_252.out; obtain ⟨hcz27_0, hcz27_1, hcz27_2, hcz27_3, hcz27_4, hcz27_5, hcz27_6⟩ := cel7 BK252.out; obtain ⟨hfz27_0, hfz27_1, hfz27_2, hfz27_3, hfz27_4, hfz27_5, hfz27_6⟩ := frz7 BK252.out; obtain ⟨hcz28_0, hcz28_1, hcz28_2⟩ := cel3 BK248.out; obtain ⟨hfz28_0, hfz28_1, hfz28_2⟩ := frz3 BK248.out))
           (try simp only [Act.put, List.setIfInBounds_toArray, List.set_cons_zero, List.set_cons_succ])
           go_cut [52] (fun v52 wc => ∃ (kq : Nat) (x52_20 : Bool), v52 = .bool x52_20 ∧ Aside0 (masterdiscref14_CloseTrack.j1 kq a2 x52_20 a1_0 a1_1 l1_2 ((rd_T40 l1_2 (ji18)).f0) ((rd_T40 l1_2 (ji18)).f1) ((rd_T40 l1_2 (ji18)).f2) ((rd_T40 l1_2 (ji18)).f3) ((rd_T40 l1_2 (ji18)).f4) ((rd_T40 l1_2 (ji18)).f5) ((rd_T40 l1_2 (ji18)).f6) = some (r1, r2, r3, r4)) ∧ Aside0 (kq ≤ kj5) ∧ Aside0 (wc.heap[gb248]? = some (.cells #[.int .i64 a1_0, .bool a1_1, (.slice (some ad251) l1_2.length c1_2)] 24 (0, 0))) ∧ Aside0 (wc.heap[gb249]? = some (.cells #[.int .i64 0, .bool false, (.slice none 0 0)] 24 (0, 0))) ∧ Aside0 (wc.heap[gb252]? = some (.cells #[.int .i64 ((rd_T40 l1_2 (ji18)).f0), .int .i64 ((rd_T40 l1_2 (ji18)).f1), .int .i64 ((rd_T40 l1_2 (ji18)).f2), .int .i64 ((rd_T40 l1_2 (ji18)).f3), .int .i64 ((rd_T40 l1_2 (ji18)).f4), .int .i64 ((rd_T40 l1_2 (ji18)).f5), .int .i64 ((rd_T40 l1_2 (ji18)).f6)] 40 (0, 0))) ∧ Aside0 (Below w.heap.size w wc))
           case first =>
            have H := HC21.out
            clear HC21
            by_cases c29 : ((rd_T40 l1_2 (ji18)).f5) = 1
            · rw [if_pos c29] at H
              have c29b0 : (((rd_T40 l1_2 (ji18)).f5) == 1) = true := beq_iff_eq.mpr c29
              have c29b1 : (((rd_T40 l1_2 (ji18)).f5) != 1) = false := bne_eq_false_iff_eq.mpr c29
              clear c29
              (first | rw [c29b0] | (simp only [i64_w, i32_w]; rw [c29b0]) | skip)
              by_cases c30 : (a2 = (l1_2.length : Int))
              · rw [if_pos c30] at H
                have c30b0 : (a2 == (l1_2.length : Int)) = true := beq_iff_eq.mpr c30
                have c30b1 : (a2 != (l1_2.length : Int)) = false := bne_eq_false_iff_eq.mpr c30
                clear c30
                have H' := Aside0.mk H
                clear H
                have hnb31 := NB252_248.out
                have hnc31 := NB248_252.out
                have hnb32 := NB252_249.out
                have hnc32 := NB249_252.out
                obtain ⟨hcz33_0, hcz33_1, hcz33_2, hcz33_3, hcz33_4, hcz33_5, hcz33_6⟩ := cel7 BK252.out
                obtain ⟨hfz33_0, hfz33_1, hfz33_2, hfz33_3, hfz33_4, hfz33_5, hfz33_6⟩ := frz7 BK252.out
                go_wp2
                go_meet
                case rel => exact ⟨_, (false), (by first | rfl | (simp; done) | (simp [*]; done)), H', ⟨by have := HJ5.out; first | omega | exact Nat.le_refl _⟩, ⟨by (with_reducible repeat (first | refine blk_drewN ?_ _ | refine blk_drew ?_ | refine blk_alloc ?_ _)); refine blk_far ?_ NB248_252.out _; (with_reducible repeat (first | refine blk_drewN ?_ _ | refine blk_drew ?_ | refine blk_alloc ?_ _)); refine blk_far ?_ NB248_252.out _; (with_reducible repeat (first | refine blk_drewN ?_ _ | refine blk_drew ?_ | refine blk_alloc ?_ _)); refine blk_far ?_ NB248_252.out _; (with_reducible repeat (first | refine blk_drewN ?_ _ | refine blk_drew ?_ | refine blk_alloc ?_ _)); refine blk_far ?_ NB248_252.out _; (with_reducible repeat (first | refine blk_drewN ?_ _ | refine blk_drew ?_ | refine blk_alloc ?_ _)); refine blk_far ?_ NB248_252.out _; (with_reducible repeat (first | refine blk_drewN ?_ _ | refine blk_drew ?_ | refine blk_alloc ?_ _)); refine blk_far ?_ NB248_252.out _; (with_reducible repeat (first | refine blk_drewN ?_ _ | refine blk_drew ?_ | refine blk_alloc ?_ _)); refine blk_far ?_ NB248_252.out _; (with_reducible repeat (first | refine blk_drewN ?_ _ | refine blk_drew ?_ | refine blk_alloc ?_ _)); exact BK248.out⟩, ⟨by (with_reducible repeat (first | refine blk_drewN ?_ _ | refine blk_drew ?_ | refine blk_alloc ?_ _)); refine blk_far ?_ NB249_252.out _; (with_reducible repeat (first | refine blk_drewN ?_ _ | refine blk_drew ?_ | refine blk_alloc ?_ _)); refine blk_far ?_ NB249_252.out _; (with_reducible repeat (first | refine blk_drewN ?_ _ | refine blk_drew ?_ | refine blk_alloc ?_ _)); refine blk_far ?_ NB249_252.out _; (with_reducible repeat (first | refine blk_drewN ?_ _ | refine blk_drew ?_ | refine blk_alloc ?_ _)); refine blk_far ?_ NB249_252.out _; (with_reducible repeat (first | refine blk_drewN ?_ _ | refine blk_drew ?_ | refine blk_alloc ?_ _)); refine blk_far ?_ NB249_252.out _; (with_reducible repeat (first | refine blk_drewN ?_ _ | refine blk_drew ?_ | refine blk_alloc ?_ _)); refine blk_far ?_ NB249_252.out _; (with_reducible repeat (first | refine blk_drewN ?_ _ | refine blk_drew ?_ | refine blk_alloc ?_ _)); refine blk_far ?_ NB249_252.out _; (with_reducible repeat (first | refine blk_drewN ?_ _ | refine blk_drew ?_ | refine blk_alloc ?_ _)); exact BK249.out⟩, ⟨by (with_reducible repeat (first | refine blk_drewN ?_ _ | refine blk_drew ?_ | refine blk_alloc ?_ _)); refine blk_put (cs := #[.int .i64 ((rd_T40 l1_2 (ji18)).f0), .int .i64 ((rd_T40 l1_2 (ji18)).f1), .int .i64 ((rd_T40 l1_2 (ji18)).f2), .int .i64 ((rd_T40 l1_2 (ji18)).f3), .int .i64 ((rd_T40 l1_2 (ji18)).f4), .int .i64 ((rd_T40 l1_2 (ji18)).f5), .int .i64 0]) ?_ 6 _ rfl; (with_reducible repeat (first | refine blk_drewN ?_ _ | refine blk_drew ?_ | refine blk_alloc ?_ _)); refine blk_put (cs := #[.int .i64 ((rd_T40 l1_2 (ji18)).f0), .int .i64 ((rd_T40 l1_2 (ji18)).f1), .int .i64 ((rd_T40 l1_2 (ji18)).f2), .int .i64 ((rd_T40 l1_2 (ji18)).f3), .int .i64 ((rd_T40 l1_2 (ji18)).f4), .int .i64 0, .int .i64 0]) ?_ 5 _ rfl; (with_reducible repeat (first | refine blk_drewN ?_ _ | refine blk_drew ?_ | refine blk_alloc ?_ _)); refine blk_put (cs := #[.int .i64 ((rd_T40 l1_2 (ji18)).f0), .int .i64 ((rd_T40 l1_2 (ji18)).f1), .int .i64 ((rd_T40 l1_2 (ji18)).f2), .int .i64 ((rd_T40 l1_2 (ji18)).f3), .int .i64 0, .int .i64 0, .int .i64 0]) ?_ 4 _ rfl; (with_reducible repeat (first | refine blk_drewN ?_ _ | refine blk_drew ?_ | refine blk_alloc ?_ _)); refine blk_put (cs := #[.int .i64 ((rd_T40 l1_2 (ji18)).f0), .int .i64 ((rd_T40 l1_2 (ji18)).f1), .int .i64 ((rd_T40 l1_2 (ji18)).f2), .int .i64 0, .int .i64 0, .int .i64 0, .int .i64 0]) ?_ 3 _ rfl; (with_reducible repeat (first | refine blk_drewN ?_ _ | refine blk_drew ?_ | refine blk_alloc ?_ _)); refine blk_put (cs := #[.int .i64 ((rd_T40 l1_2 (ji18)).f0), .int .i64 ((rd_T40 l1_2 (ji18)).f1), .int .i64 0, .int .i64 0, .int .i64 0, .int .i64 0, .int .i64 0]) ?_ 2 _ rfl; (with_reducible repeat (first | refine blk_drewN ?_ _ | refine blk_drew ?_ | refine blk_alloc ?_ _)); refine blk_put (cs := #[.int .i64 ((rd_T40 l1_2 (ji18)).f0), .int .i64 0, .int .i64 0, .int .i64 0, .int .i64 0, .int .i64 0, .int .i64 0]) ?_ 1 _ rfl; (with_reducible repeat (first | refine blk_drewN ?_ _ | refine blk_drew ?_ | refine blk_alloc ?_ _)); refine blk_put (cs := #[.int .i64 0, .int .i64 0, .int .i64 0, .int .i64 0, .int .i64 0, .int .i64 0, .int .i64 0]) ?_ 0 _ rfl; (with_reducible repeat (first | refine blk_drewN ?_ _ | refine blk_drew ?_ | refine blk_alloc ?_ _)); exact BK252.out⟩, ⟨by repeat (first | (with_reducible first | exact HB.out | apply below_alloc | apply pw_below_drewN | apply below_drew1 | refine below_set ?_ GE248.out | refine below_set ?_ GE249.out | refine below_set ?_ GE252.out) | exact HB.out)⟩⟩
              · rw [if_neg c30] at H
                have c30b0 : (a2 == (l1_2.length : Int)) = false := beq_eq_false_iff_ne.mpr c30
                have c30b1 : (a2 != (l1_2.length : Int)) = true := bne_iff_ne.mpr c30
                have H' := Aside0.mk H
                clear H
                have hnb34 := NB252_248.out
                have hnc34 := NB248_252.out
                have hnb35 := NB252_249.out
                have hnc35 := NB249_252.out
                obtain ⟨hcz36_0, hcz36_1, hcz36_2, hcz36_3, hcz36_4, hcz36_5, hcz36_6⟩ := cel7 BK252.out
                obtain ⟨hfz36_0, hfz36_1, hfz36_2, hfz36_3, hfz36_4, hfz36_5, hfz36_6⟩ := frz7 BK252.out
                go_wp2
                go_meet
                case rel => exact ⟨_, ((((rd_T40 l1_2 (ji18)).f4) != (wrap64 (((rd_T40 l1_2 (ji18)).f2) + ((rd_T40 l1_2 (ji18)).f3))))), (by first | rfl | (simp; done) | (simp only [← hji18] <;> (first | rfl | simp)) | (simp [*]; done)), H', ⟨by have := HJ5.out; first | omega | exact Nat.le_refl _⟩, ⟨by (with_reducible repeat (first | refine blk_drewN ?_ _ | refine blk_drew ?_ | refine blk_alloc ?_ _)); refine blk_far ?_ NB248_252.out _; (with_reducible repeat (first | refine blk_drewN ?_ _ | refine blk_drew ?_ | refine blk_alloc ?_ _)); refine blk_far ?_ NB248_252.out _; (with_reducible repeat (first | refine blk_drewN ?_ _ | refine blk_drew ?_ | refine blk_alloc ?_ _)); refine blk_far ?_ NB248_252.out _; (with_reducible repeat (first | refine blk_drewN ?_ _ | refine blk_drew ?_ | refine blk_alloc ?_ _)); refine blk_far ?_ NB248_252.out _; (with_reducible repeat (first | refine blk_drewN ?_ _ | refine blk_drew ?_ | refine blk_alloc ?_ _)); refine blk_far ?_ NB248_252.out _; (with_reducible repeat (first | refine blk_drewN ?_ _ | refine blk_drew ?_ | refine blk_alloc ?_ _)); refine blk_far ?_ NB248_252.out _; (with_reducible repeat (first | refine blk_drewN ?_ _ | refine blk_drew ?_ | refine blk_alloc ?_ _)); refine blk_far ?_ NB248_252.out _; (with_reducible repeat (first | refine blk_drewN ?_ _ | refine blk_drew ?_ | refine blk_alloc ?_ _)); exact BK248.out⟩, ⟨by (with_reducible repeat (first | refine blk_drewN ?_ _ | refine blk_drew ?_ | refine blk_alloc ?_ _)); refine blk_far ?_ NB249_252.out _; (with_reducible repeat (first | refine blk_drewN ?_ _ | refine blk_drew ?_ | refine blk_alloc ?_ _)); refine blk_far ?_ NB249_252.out _; (with_reducible repeat (first | refine blk_drewN ?_ _ | refine blk_drew ?_ | refine blk_alloc ?_ _)); refine blk_far ?_ NB249_252.out _; (with_reducible repeat (first | refine blk_drewN ?_ _ | refine blk_drew ?_ | refine blk_alloc ?_ _)); refine blk_far ?_ NB249_252.out _; (with_reducible repeat (first | refine blk_drewN ?_ _ | refine blk_drew ?_ | refine blk_alloc ?_ _)); refine blk_far ?_ NB249_252.out _; (with_reducible repeat (first | refine blk_drewN ?_ _ | refine blk_drew ?_ | refine blk_alloc ?_ _)); refine blk_far ?_ NB249_252.out _; (with_reducible repeat (first | refine blk_drewN ?_ _ | refine blk_drew ?_ | refine blk_alloc ?_ _)); refine blk_far ?_ NB249_252.out _; (with_reducible repeat (first | refine blk_drewN ?_ _ | refine blk_drew ?_ | refine blk_alloc ?_ _)); exact BK249.out⟩, ⟨by (with_reducible repeat (first | refine blk_drewN ?_ _ | refine blk_drew ?_ | refine blk_alloc ?_ _)); refine blk_put (cs := #[.int .i64 ((rd_T40 l1_2 (ji18)).f0), .int .i64 ((rd_T40 l1_2 (ji18)).f1), .int .i64 ((rd_T40 l1_2 (ji18)).f2), .int .i64 ((rd_T40 l1_2 (ji18)).f3), .int .i64 ((rd_T40 l1_2 (ji18)).f4), .int .i64 ((rd_T40 l1_2 (ji18)).f5), .int .i64 0]) ?_ 6 _ rfl; (with_reducible repeat (first | refine blk_drewN ?_ _ | refine blk_drew ?_ | refine blk_alloc ?_ _)); refine blk_put (cs := #[.int .i64 ((rd_T40 l1_2 (ji18)).f0), .int .i64 ((rd_T40 l1_2 (ji18)).f1), .int .i64 ((rd_T40 l1_2 (ji18)).f2), .int .i64 ((rd_T40 l1_2 (ji18)).f3), .int .i64 ((rd_T40 l1_2 (ji18)).f4), .int .i64 0, .int .i64 0]) ?_ 5 _ rfl; (with_reducible repeat (first | refine blk_drewN ?_ _ | refine blk_drew ?_ | refine blk_alloc ?_ _)); refine blk_put (cs := #[.int .i64 ((rd_T40 l1_2 (ji18)).f0), .int .i64 ((rd_T40 l1_2 (ji18)).f1), .int .i64 ((rd_T40 l1_2 (ji18)).f2), .int .i64 ((rd_T40 l1_2 (ji18)).f3), .int .i64 0, .int .i64 0, .int .i64 0]) ?_ 4 _ rfl; (with_reducible repeat (first | refine blk_drewN ?_ _ | refine blk_drew ?_ | refine blk_alloc ?_ _)); refine blk_put (cs := #[.int .i64 ((rd_T40 l1_2 (ji18)).f0), .int .i64 ((rd_T40 l1_2 (ji18)).f1), .int .i64 ((rd_T40 l1_2 (ji18)).f2), .int .i64 0, .int .i64 0, .int .i64 0, .int .i64 0]) ?_ 3 _ rfl; (with_reducible repeat (first | refine blk_drewN ?_ _ | refine blk_drew ?_ | refine blk_alloc ?_ _)); refine blk_put (cs := #[.int .i64 ((rd_T40 l1_2 (ji18)).f0), .int .i64 ((rd_T40 l1_2 (ji18)).f1), .int .i64 0, .int .i64 0, .int .i64 0, .int .i64 0, .int .i64 0]) ?_ 2 _ rfl; (with_reducible repeat (first | refine blk_drewN ?_ _ | refine blk_drew ?_ | refine blk_alloc ?_ _)); refine blk_put (cs := #[.int .i64 ((rd_T40 l1_2 (ji18)).f0), .int .i64 0, .int .i64 0, .int .i64 0, .int .i64 0, .int .i64 0, .int .i64 0]) ?_ 1 _ rfl; (with_reducible repeat (first | refine blk_drewN ?_ _ | refine blk_drew ?_ | refine blk_alloc ?_ _)); refine blk_put (cs := #[.int .i64 0, .int .i64 0, .int .i64 0, .int .i64 0, .int .i64 0, .int .i64 0, .int .i64 0]) ?_ 0 _ rfl; (with_reducible repeat (first | refine blk_drewN ?_ _ | refine blk_drew ?_ | refine blk_alloc ?_ _)); exact BK252.out⟩, ⟨by repeat (first | (with_reducible first | exact HB.out | apply below_alloc | apply pw_below_drewN | apply below_drew1 | refine below_set ?_ GE248.out | refine below_set ?_ GE249.out | refine below_set ?_ GE252.out) | exact HB.out)⟩⟩
            · rw [if_neg c29] at H
              have c29b0 : (((rd_T40 l1_2 (ji18)).f5) == 1) = false := beq_eq_false_iff_ne.mpr c29
              have c29b1 : (((rd_T40 l1_2 (ji18)).f5) != 1) = true := bne_iff_ne.mpr c29
              (first | rw [c29b0] | (simp only [i64_w, i32_w]; rw [c29b0]) | skip)
              have H' := Aside0.mk H
              clear H
              have hnb37 := NB252_248.out
              have hnc37 := NB248_252.out
              have hnb38 := NB252_249.out
              have hnc38 := NB249_252.out
              obtain ⟨hcz39_0, hcz39_1, hcz39_2, hcz39_3, hcz39_4, hcz39_5, hcz39_6⟩ := cel7 BK252.out
              obtain ⟨hfz39_0, hfz39_1, hfz39_2, hfz39_3, hfz39_4, hfz39_5, hfz39_6⟩ := frz7 BK252.out
              go_wp2
              go_meet
              case rel => exact ⟨_, (true), (by first | rfl | (simp; done) | (simp [*]; done)), H', ⟨by have := HJ5.out; first | omega | exact Nat.le_refl _⟩, ⟨by (with_reducible repeat (first | refine blk_drewN ?_ _ | refine blk_drew ?_ | refine blk_alloc ?_ _)); refine blk_far ?_ NB248_252.out _; (with_reducible repeat (first | refine blk_drewN ?_ _ | refine blk_drew ?_ | refine blk_alloc ?_ _)); refine blk_far ?_ NB248_252.out _; (with_reducible repeat (first | refine blk_drewN ?_ _ | refine blk_drew ?_ | refine blk_alloc ?_ _)); refine blk_far ?_ NB248_252.out _; (with_reducible repeat (first | refine blk_drewN ?_ _ | refine blk_drew ?_ | refine blk_alloc ?_ _)); refine blk_far ?_ NB248_252.out _; (with_reducible repeat (first | refine blk_drewN ?_ _ | refine blk_drew ?_ | refine blk_alloc ?_ _)); refine blk_far ?_ NB248_252.out _; (with_reducible repeat (first | refine blk_drewN ?_ _ | refine blk_drew ?_ | refine blk_alloc ?_ _)); refine blk_far ?_ NB248_252.out _; (with_reducible repeat (first | refine blk_drewN ?_ _ | refine blk_drew ?_ | refine blk_alloc ?_ _)); refine blk_far ?_ NB248_252.out _; (with_reducible repeat (first | refine blk_drewN ?_ _ | refine blk_drew ?_ | refine blk_alloc ?_ _)); exact BK248.out⟩, ⟨by (with_reducible repeat (first | refine blk_drewN ?_ _ | refine blk_drew ?_ | refine blk_alloc ?_ _)); refine blk_far ?_ NB249_252.out _; (with_reducible repeat (first | refine blk_drewN ?_ _ | refine blk_drew ?_ | refine blk_alloc ?_ _)); refine blk_far ?_ NB249_252.out _; (with_reducible repeat (first | refine blk_drewN ?_ _ | refine blk_drew ?_ | refine blk_alloc ?_ _)); refine blk_far ?_ NB249_252.out _; (with_reducible repeat (first | refine blk_drewN ?_ _ | refine blk_drew ?_ | refine blk_alloc ?_ _)); refine blk_far ?_ NB249_252.out _; (with_reducible repeat (first | refine blk_drewN ?_ _ | refine blk_drew ?_ | refine blk_alloc ?_ _)); refine blk_far ?_ NB249_252.out _; (with_reducible repeat (first | refine blk_drewN ?_ _ | refine blk_drew ?_ | refine blk_alloc ?_ _)); refine blk_far ?_ NB249_252.out _; (with_reducible repeat (first | refine blk_drewN ?_ _ | refine blk_drew ?_ | refine blk_alloc ?_ _)); refine blk_far ?_ NB249_252.out _; (with_reducible repeat (first | refine blk_drewN ?_ _ | refine blk_drew ?_ | refine blk_alloc ?_ _)); exact BK249.out⟩, ⟨by (with_reducible repeat (first | refine blk_drewN ?_ _ | refine blk_drew ?_ | refine blk_alloc ?_ _)); refine blk_put (cs := #[.int .i64 ((rd_T40 l1_2 (ji18)).f0), .int .i64 ((rd_T40 l1_2 (ji18)).f1), .int .i64 ((rd_T40 l1_2 (ji18)).f2), .int .i64 ((rd_T40 l1_2 (ji18)).f3), .int .i64 ((rd_T40 l1_2 (ji18)).f4), .int .i64 ((rd_T40 l1_2 (ji18)).f5), .int .i64 0]) ?_ 6 _ rfl; (with_reducible repeat (first | refine blk_drewN ?_ _ | refine blk_drew ?_ | refine blk_alloc ?_ _)); refine blk_put (cs := #[.int .i64 ((rd_T40 l1_2 (ji18)).f0), .int .i64 ((rd_T40 l1_2 (ji18)).f1), .int .i64 ((rd_T40 l1_2 (ji18)).f2), .int .i64 ((rd_T40 l1_2 (ji18)).f3), .int .i64 ((rd_T40 l1_2 (ji18)).f4), .int .i64 0, .int .i64 0]) ?_ 5 _ rfl; (with_reducible repeat (first | refine blk_drewN ?_ _ | refine blk_drew ?_ | refine blk_alloc ?_ _)); refine blk_put (cs := #[.int .i64 ((rd_T40 l1_2 (ji18)).f0), .int .i64 ((rd_T40 l1_2 (ji18)).f1), .int .i64 ((rd_T40 l1_2 (ji18)).f2), .int .i64 ((rd_T40 l1_2 (ji18)).f3), .int .i64 0, .int .i64 0, .int .i64 0]) ?_ 4 _ rfl; (with_reducible repeat (first | refine blk_drewN ?_ _ | refine blk_drew ?_ | refine blk_alloc ?_ _)); refine blk_put (cs := #[.int .i64 ((rd_T40 l1_2 (ji18)).f0), .int .i64 ((rd_T40 l1_2 (ji18)).f1), .int .i64 ((rd_T40 l1_2 (ji18)).f2), .int .i64 0, .int .i64 0, .int .i64 0, .int .i64 0]) ?_ 3 _ rfl; (with_reducible repeat (first | refine blk_drewN ?_ _ | refine blk_drew ?_ | refine blk_alloc ?_ _)); refine blk_put (cs := #[.int .i64 ((rd_T40 l1_2 (ji18)).f0), .int .i64 ((rd_T40 l1_2 (ji18)).f1), .int .i64 0, .int .i64 0, .int .i64 0, .int .i64 0, .int .i64 0]) ?_ 2 _ rfl; (with_reducible repeat (first | refine blk_drewN ?_ _ | refine blk_drew ?_ | refine blk_alloc ?_ _)); refine blk_put (cs := #[.int .i64 ((rd_T40 l1_2 (ji18)).f0), .int .i64 0, .int .i64 0, .int .i64 0, .int .i64 0, .int .i64 0, .int .i64 0]) ?_ 1 _ rfl; (with_reducible repeat (first | refine blk_drewN ?_ _ | refine blk_drew ?_ | refine blk_alloc ?_ _)); refine blk_put (cs := #[.int .i64 0, .int .i64 0, .int .i64 0, .int .i64 0, .int .i64 0, .int .i64 0, .int .i64 0]) ?_ 0 _ rfl; (with_reducible repeat (first | refine blk_drewN ?_ _ | refine blk_drew ?_ | refine blk_alloc ?_ _)); exact BK252.out⟩, ⟨by repeat (first | (with_reducible first | exact HB.out | apply below_alloc | apply pw_below_drewN | apply below_drew1 | refine below_set ?_ GE248.out | refine below_set ?_ GE249.out | refine below_set ?_ GE252.out) | exact HB.out)⟩⟩
           case rest =>
            clear HC21
            try clear c1
            try clear c2
            try clear p2
            try clear q2
            try clear hx2
            try clear c3
            try clear c5
            try clear p6
            try clear c9
            try clear c11
            try clear c12
            try clear c12b0
            try clear c13
            try clear c15
            try clear c16
            try clear c19
            try clear c19b0
            try clear c20
            try clear c20b0
            try clear c22
            try clear c25
            try clear p25
            try clear q25
            try clear hx25
            try clear c26
            try clear c29
            try clear c29b0
            try clear c29b1
            try clear c30
            try clear c30b0
            try clear c30b1
            try clear c31
            try clear c32
            try clear c34
            try clear c35
            try clear c37
            try clear c38
            try clear hcz10_0
            try clear hcz10_1
            try clear hcz10_2
            try clear hcz14_0
            try clear hcz14_1
            try clear hcz14_2
            try clear hcz17_0
            try clear hcz17_1
            try clear hcz17_2
            try clear hcz23_0
            try clear hcz23_1
            try clear hcz23_2
            try clear hcz27_0
            try clear hcz27_1
            try clear hcz27_2
            try clear hcz27_3
            try clear hcz27_4
            try clear hcz27_5
            try clear hcz27_6
            try clear hcz28_0
            try clear hcz28_1
            try clear hcz28_2
            try clear hcz33_0
            try clear hcz33_1
            try clear hcz33_2
            try clear hcz33_3
            try clear hcz33_4
            try clear hcz33_5
            try clear hcz33_6
            try clear hcz36_0
            try clear hcz36_1
            try clear hcz36_2
            try clear hcz36_3
            try clear hcz36_4
            try clear hcz36_5
            try clear hcz36_6
            try clear hcz39_0
            try clear hcz39_1
            try clear hcz39_2
            try clear hcz39_3
            try clear hcz39_4
            try clear hcz39_5
            try clear hcz39_6
            try clear hfz10_0
            try clear hfz10_1
            try clear hfz10_2
            try clear hfz14_0
            try clear hfz14_1
            try clear hfz14_2
            try clear hfz17_0
            try clear hfz17_1
            try clear hfz17_2
            try clear hfz23_0
            try clear hfz23_1
            try clear hfz23_2
            try clear hfz27_0
            try clear hfz27_1
            try clear hfz27_2
            try clear hfz27_3
            try clear hfz27_4
            try clear hfz27_5
            try clear hfz27_6
            try clear hfz28_0
            try clear hfz28_1
            try clear hfz28_2
            try clear hfz33_0
            try clear hfz33_1
            try clear hfz33_2
            try clear hfz33_3
            try clear hfz33_4
            try clear hfz33_5
            try clear hfz33_6
            try clear hfz36_0
            try clear hfz36_1
            try clear hfz36_2
            try clear hfz36_3
            try clear hfz36_4
            try clear hfz36_5
            try clear hfz36_6
            try clear hfz39_0
            try clear hfz39_1
            try clear hfz39_2
            try clear hfz39_3
            try clear hfz39_4
            try clear hfz39_5
            try clear hfz39_6
            try clear hx251_0
            try clear hx251_1
            try clear hx251_2
            try clear hx251_3
            try clear hx251_4
            try clear hx251_5
            try clear hx251_6
            try clear p2
            try clear p251
            try clear q251
            obtain ⟨kq, x52_20, rfl, HA, HJ20, BK248, BK249, BK252, HB⟩ := hcut
            cases kq with
            | zero => exact absurd HA.out (by simp [masterdiscref14_CloseTrack.j1])
            | succ kj20 =>
             have H := HA.out
             clear HA
             simp only [masterdiscref14_CloseTrack.j1] at H
             by_cases c40 : x52_20 = true
             · subst c40
               have H1 : (some (0, false, ([] : List (S40)), 8)) = some (r1, r2, r3, r4) := by rw [if_pos rfl] at H; exact H
               clear H
               have H := H1
               clear H1
               simp only [Option.some.injEq, Prod.mk.injEq] at H
               obtain ⟨rfl, rfl, rfl, rfl⟩ := H
               have hnb41 := NB249_248.out
               have hnc41 := NB248_249.out
               have hnb42 := NB249_252.out
               have hnc42 := NB252_249.out
               obtain ⟨hcz43_0, hcz43_1, hcz43_2⟩ := cel3 BK249.out
               obtain ⟨hfz43_0, hfz43_1, hfz43_2⟩ := frz3 BK249.out
               go_wp2
               refine bodyPost_ret (results_ct rfl _ _ gb249 24 #[.int .i64 0, .bool false, .slice none 0 0] (0, 0) _ rfl (by (with_reducible repeat (first | refine blk_drewN ?_ _ | refine blk_drew ?_ | refine blk_alloc ?_ _)); refine blk_put (cs := #[.int .i64 0, .bool false, .slice none 0 0]) ?_ 2 _ rfl; (with_reducible repeat (first | refine blk_drewN ?_ _ | refine blk_drew ?_ | refine blk_alloc ?_ _)); refine blk_put (cs := #[.int .i64 0, .bool false, .slice none 0 0]) ?_ 1 _ rfl; (with_reducible repeat (first | refine blk_drewN ?_ _ | refine blk_drew ?_ | refine blk_alloc ?_ _)); refine blk_put (cs := #[.int .i64 0, .bool false, .slice none 0 0]) ?_ 0 _ rfl; (with_reducible repeat (first | refine blk_drewN ?_ _ | refine blk_drew ?_ | refine blk_alloc ?_ _)); exact BK249.out) Try.underlying24 rfl (by kernel_rfl)) rfl ?_
               exact ⟨_, by first | rfl | (simp [errW_none, errW_some] <;> rfl) | (simp only [← hji18]; first | rfl | (simp [errW_none, errW_some] <;> rfl)) | (simp [*, errW_none, errW_some] <;> rfl), by first | exact Kd.R_nil _ _ _ _ _ | exact Kd.N_nil _ _ _ _ _ | exact Kd.V_nil _ _ _ _ _ | exact Kd.Q_nil _ _ _ _ _ | exact Kd.S_nil _ _ _ _ _, by repeat (first | (with_reducible first | exact HB.out | apply below_alloc | apply pw_below_drewN | apply below_drew1 | refine below_set ?_ GE248.out | refine below_set ?_ GE249.out | refine below_set ?_ GE252.out) | exact HB.out)⟩
             · replace c40 := Bool.eq_false_iff.mpr c40
               subst c40
               have H1 : ((masterdiscref14_changed.f a1_0 a1_1 l1_2 (wrap64 (a2 - 1)) ((rd_T40 l1_2 (ji18)).f0) ((rd_T40 l1_2 (ji18)).f1) ((rd_T40 l1_2 (ji18)).f2) (wrap64 (((rd_T40 l1_2 (ji18)).f4) - ((rd_T40 l1_2 (ji18)).f2))) ((rd_T40 l1_2 (ji18)).f4) 2 ((rd_T40 l1_2 (ji18)).f6)).bind fun bt253 => (some (bt253.1, bt253.2.1, bt253.2.2, 0))) = some (r1, r2, r3, r4) := by rw [if_neg (show ¬ (false = true) by decide)] at H; exact H
               clear H
               have H := H1
               clear H1
               replace H := Option.bind_eq_some_iff.mp H
               obtain ⟨⟨t253, t254, t255⟩, A440, H⟩ := H
               replace H : (some (t253, t254, t255, 0)) = some (r1, r2, r3, r4) := H
               have A44 := Aside0.mk A440
               clear A440
               simp only [Option.some.injEq, Prod.mk.injEq] at H
               obtain ⟨rfl, rfl, rfl, rfl⟩ := H
               have hnb45 := NB252_248.out
               have hnc45 := NB248_252.out
               have hnb46 := NB252_249.out
               have hnc46 := NB249_252.out
               obtain ⟨hcz47_0, hcz47_1, hcz47_2, hcz47_3, hcz47_4, hcz47_5, hcz47_6⟩ := cel7 BK252.out
               obtain ⟨hfz47_0, hfz47_1, hfz47_2, hfz47_3, hfz47_4, hfz47_5, hfz47_6⟩ := frz7 BK252.out
               have hnb48 := NB248_249.out
               have hnc48 := NB249_248.out
               obtain ⟨hcz49_0, hcz49_1, hcz49_2⟩ := cel3 BK248.out
               obtain ⟨hfz49_0, hfz49_1, hfz49_2⟩ := frz3 BK248.out
               go_wp2_with (first | ((with_reducible refine gate_callee (f := 33) rfl ?_); refine goesL_ (some 65) rfl rfl Try.func33 (by kernel_rfl) rfl #[.agg #[.int .i64 a1_0, .bool a1_1, .slice (some ad251) l1_2.length c1_2], .int .i64 (wrap64 (a2 - 1)), .agg #[.int .i64 ((rd_T40 l1_2 (ji18)).f0), .int .i64 ((rd_T40 l1_2 (ji18)).f1), .int .i64 ((rd_T40 l1_2 (ji18)).f2), .int .i64 (wrap64 (((rd_T40 l1_2 (ji18)).f4) - ((rd_T40 l1_2 (ji18)).f2))), .int .i64 ((rd_T40 l1_2 (ji18)).f4), .int .i64 2, .int .i64 ((rd_T40 l1_2 (ji18)).f6)]] rfl (by (try simp only [List.map_toArray, List.map_cons, List.map_nil]); first | done | (simp only [hji18]; rfl) | rfl | (simp only [List.length_drop, List.length_take]; rfl)) ?_; (with_reducible refine (masterdiscref14_changed.calls a1_0 a1_1 _ _ l1_2 (wrap64 (a2 - 1)) ((rd_T40 l1_2 (ji18)).f0) ((rd_T40 l1_2 (ji18)).f1) ((rd_T40 l1_2 (ji18)).f2) (wrap64 (((rd_T40 l1_2 (ji18)).f4) - ((rd_T40 l1_2 (ji18)).f2))) ((rd_T40 l1_2 (ji18)).f4) 2 ((rd_T40 l1_2 (ji18)).f6) t253 t254 t255 _ ?side1 ?side2 A44.out).mono ?_); (case side1 => exact Kd.C_below HR1_2.out (by repeat (first | (with_reducible first | exact HB.out | apply below_alloc | apply pw_below_drewN | apply below_drew1 | refine below_set ?_ GE248.out | refine below_set ?_ GE249.out | refine below_set ?_ GE252.out) | exact HB.out))); (case side2 => exact HC1_2.out); rintro e w50 ⟨v256, rfl, ho0, hb⟩; refine ⟨_, rfl, ?_⟩; have n0_ := Aside0.mk (Kd.R_lower (Kd.R_newB ho0 (g := gb252) (o := .cells #[.int .i64 ((rd_T40 l1_2 (ji18)).f0), .int .i64 ((rd_T40 l1_2 (ji18)).f1), .int .i64 ((rd_T40 l1_2 (ji18)).f2), .int .i64 (wrap64 (((rd_T40 l1_2 (ji18)).f4) - ((rd_T40 l1_2 (ji18)).f2))), .int .i64 ((rd_T40 l1_2 (ji18)).f4), .int .i64 2, .int .i64 ((rd_T40 l1_2 (ji18)).f6)] 40 (0, 0)) (by (with_reducible repeat (first | refine blk_drewN ?_ _ | refine blk_drew ?_ | refine blk_alloc ?_ _)); refine blk_put (cs := #[.int .i64 ((rd_T40 l1_2 (ji18)).f0), .int .i64 ((rd_T40 l1_2 (ji18)).f1), .int .i64 ((rd_T40 l1_2 (ji18)).f2), .int .i64 ((rd_T40 l1_2 (ji18)).f3), .int .i64 ((rd_T40 l1_2 (ji18)).f4), .int .i64 2, .int .i64 ((rd_T40 l1_2 (ji18)).f6)]) ?_ 3 _ rfl; (with_reducible repeat (first | refine blk_drewN ?_ _ | refine blk_drew ?_ | refine blk_alloc ?_ _)); refine blk_put (cs := #[.int .i64 ((rd_T40 l1_2 (ji18)).f0), .int .i64 ((rd_T40 l1_2 (ji18)).f1), .int .i64 ((rd_T40 l1_2 (ji18)).f2), .int .i64 ((rd_T40 l1_2 (ji18)).f3), .int .i64 ((rd_T40 l1_2 (ji18)).f4), .int .i64 ((rd_T40 l1_2 (ji18)).f5), .int .i64 ((rd_T40 l1_2 (ji18)).f6)]) ?_ 5 _ rfl; (with_reducible repeat (first | refine blk_drewN ?_ _ | refine blk_drew ?_ | refine blk_alloc ?_ _)); exact BK252.out)) (below_size (by repeat (first | (with_reducible first | exact HB.out | apply below_alloc | apply pw_below_drewN | apply below_drew1 | refine below_set ?_ GE248.out | refine below_set ?_ GE249.out | refine below_set ?_ GE252.out) | exact HB.out)))); have n1_ := Aside0.mk (blk_below (g := gb248) (o := .cells #[.int .i64 a1_0, .bool a1_1, .slice (some ad251) l1_2.length c1_2] 24 (0, 0)) (by (with_reducible repeat (first | refine blk_drewN ?_ _ | refine blk_drew ?_ | refine blk_alloc ?_ _)); refine blk_far ?_ NB248_252.out _; (with_reducible repeat (first | refine blk_drewN ?_ _ | refine blk_drew ?_ | refine blk_alloc ?_ _)); refine blk_far ?_ NB248_252.out _; (with_reducible repeat (first | refine blk_drewN ?_ _ | refine blk_drew ?_ | refine blk_alloc ?_ _)); exact BK248.out) hb); have n2_ := Aside0.mk (blk_below (g := gb249) (o := .cells #[.int .i64 0, .bool false, .slice none 0 0] 24 (0, 0)) (by (with_reducible repeat (first | refine blk_drewN ?_ _ | refine blk_drew ?_ | refine blk_alloc ?_ _)); refine blk_far ?_ NB249_252.out _; (with_reducible repeat (first | refine blk_drewN ?_ _ | refine blk_drew ?_ | refine blk_alloc ?_ _)); refine blk_far ?_ NB249_252.out _; (with_reducible repeat (first | refine blk_drewN ?_ _ | refine blk_drew ?_ | refine blk_alloc ?_ _)); exact BK249.out) hb); have n3_ := Aside0.mk (blk_below (g := gb252) (o := .cells #[.int .i64 ((rd_T40 l1_2 (ji18)).f0), .int .i64 ((rd_T40 l1_2 (ji18)).f1), .int .i64 ((rd_T40 l1_2 (ji18)).f2), .int .i64 (wrap64 (((rd_T40 l1_2 (ji18)).f4) - ((rd_T40 l1_2 (ji18)).f2))), .int .i64 ((rd_T40 l1_2 (ji18)).f4), .int .i64 2, .int .i64 ((rd_T40 l1_2 (ji18)).f6)] 40 (0, 0)) (by (with_reducible repeat (first | refine blk_drewN ?_ _ | refine blk_drew ?_ | refine blk_alloc ?_ _)); refine blk_put (cs := #[.int .i64 ((rd_T40 l1_2 (ji18)).f0), .int .i64 ((rd_T40 l1_2 (ji18)).f1), .int .i64 ((rd_T40 l1_2 (ji18)).f2), .int .i64 ((rd_T40 l1_2 (ji18)).f3), .int .i64 ((rd_T40 l1_2 (ji18)).f4), .int .i64 2, .int .i64 ((rd_T40 l1_2 (ji18)).f6)]) ?_ 3 _ rfl; (with_reducible repeat (first | refine blk_drewN ?_ _ | refine blk_drew ?_ | refine blk_alloc ?_ _)); refine blk_put (cs := #[.int .i64 ((rd_T40 l1_2 (ji18)).f0), .int .i64 ((rd_T40 l1_2 (ji18)).f1), .int .i64 ((rd_T40 l1_2 (ji18)).f2), .int .i64 ((rd_T40 l1_2 (ji18)).f3), .int .i64 ((rd_T40 l1_2 (ji18)).f4), .int .i64 ((rd_T40 l1_2 (ji18)).f5), .int .i64 ((rd_T40 l1_2 (ji18)).f6)]) ?_ 5 _ rfl; (with_reducible repeat (first | refine blk_drewN ?_ _ | refine blk_drew ?_ | refine blk_alloc ?_ _)); exact BK252.out) hb); have n4_ := Aside0.mk (below_step (by repeat (first | (with_reducible first | exact HB.out | apply below_alloc | apply pw_below_drewN | apply below_drew1 | refine below_set ?_ GE248.out | refine below_set ?_ GE249.out | refine below_set ?_ GE252.out) | exact HB.out)) hb); clear BK248; clear BK249; clear BK252; clear HB; have HO257 := n0_; have BK248 := n1_; have BK249 := n2_; have BK252 := n3_; have HB := n4_; clear n0_ n1_ n2_ n3_ n4_; (try clear hb); (try clear hb2); (try clear hk); (try clear hi); (try clear ho0); obtain ⟨hcz51_0, hcz51_1, hcz51_2⟩ := cel3 BK249.out; obtain ⟨hfz51_0, hfz51_1, hfz51_2⟩ := frz3 BK249.out; obtain ⟨Ao52, co52, eo52⟩ := Kd.R_slice HO257.out; subst eo52))
               refine bodyPost_ret (results_ct rfl _ _ gb249 24 #[.int .i64 t253, .bool t254, .slice Ao52 t255.length co52] (0, 0) _ rfl (by (with_reducible repeat (first | refine blk_drewN ?_ _ | refine blk_drew ?_ | refine blk_alloc ?_ _)); refine blk_put (cs := #[.int .i64 t253, .bool t254, .slice none 0 0]) ?_ 2 _ rfl; (with_reducible repeat (first | refine blk_drewN ?_ _ | refine blk_drew ?_ | refine blk_alloc ?_ _)); refine blk_put (cs := #[.int .i64 t253, .bool false, .slice none 0 0]) ?_ 1 _ rfl; (with_reducible repeat (first | refine blk_drewN ?_ _ | refine blk_drew ?_ | refine blk_alloc ?_ _)); refine blk_put (cs := #[.int .i64 0, .bool false, .slice none 0 0]) ?_ 0 _ rfl; (with_reducible repeat (first | refine blk_drewN ?_ _ | refine blk_drew ?_ | refine blk_alloc ?_ _)); exact BK249.out) Try.underlying24 rfl (by kernel_rfl)) rfl ?_
               exact ⟨_, by first | rfl | (simp [errW_none, errW_some] <;> rfl) | (simp only [← hji18]; first | rfl | (simp [errW_none, errW_some] <;> rfl)) | (simp [*, errW_none, errW_some] <;> rfl), by (with_reducible repeat (first | apply Kd.R_alloc | apply Kd.R_drewN | apply Kd.R_drew)); exact Kd.R_mono (Kd.R_far (p := ⟨gb249, 2, none⟩) (Kd.R_far (p := ⟨gb249, 1, none⟩) (Kd.R_far (p := ⟨gb249, 0, none⟩) (Kd.R_types HO257.out BK249.out (by decide)) (fun _ hk => hk.2) (.int .i64 t253)) (fun _ hk => hk.2) (.bool t254)) (fun _ hk => hk.2) (.slice Ao52 t255.length co52)) (fun _ hk => trivial), by repeat (first | (with_reducible first | exact HB.out | apply below_alloc | apply pw_below_drewN | apply below_drew1 | refine below_set ?_ GE248.out | refine below_set ?_ GE249.out | refine below_set ?_ GE252.out) | exact HB.out)⟩
         · rw [if_neg c20] at H
           exact absurd H (by simp)
       · rw [if_neg c19] at H
         exact absurd H (by simp)
 · replace c5 := Bool.eq_false_iff.mpr c5
   subst c5
   have H1 : (some (0, false, ([] : List (S40)), 1)) = some (r1, r2, r3, r4) := by rw [if_neg (show ¬ (false = true) by decide)] at H; exact H
   clear H
   have H := H1
   clear H1
   simp only [Option.some.injEq, Prod.mk.injEq] at H
   obtain ⟨rfl, rfl, rfl, rfl⟩ := H
   go_enter Try.func22, Try.ntmps22
   go_wp2_with (first | ((with_reducible refine gate_dst (N := 4) rfl ?_); (try (refine gate_guard (by rfl) ?_; dsimp only)); refine box_event ?hg (N := 4) ?hd (cs := #[.int .i64 a1_0, .bool a1_1, .slice A1_2 l1_2.length c1_2]) (t := 24) ?hr ?_; (case hd => rfl); (case hg => rfl); (case hr => first | (go_simp; done) | (go_simp; rfl)); intro gb248 hg w53 hbox hb; have n0_ := Aside0.mk (below_step (by repeat (first | (with_reducible first | exact HB.out | apply below_alloc | apply pw_below_drewN | apply below_drew1) | exact HB.out)) hb); have n1_ := Aside0.mk (hbox); have n2_ := Aside0.mk ((by rw [hg]; exact (below_size (by repeat (first | (with_reducible first | exact HB.out | apply below_alloc | apply pw_below_drewN | apply below_drew1) | exact HB.out))) : w.heap.size ≤ gb248)); have n3_ := Aside0.mk ((by rw [hg]; exact (below_size (by repeat (first | (with_reducible first | exact HB.out | apply below_alloc | apply pw_below_drewN | apply below_drew1) | exact HB.out))) : w.heap.size ≤ gb248)); clear HB; have HB := n0_; have BK248 := n1_; have GW248 := n2_; have GE248 := n3_; clear n0_ n1_ n2_ n3_; clear hb hbox hg) | ((with_reducible refine gate_dst (N := 6) rfl ?_); (try (refine gate_guard (by rfl) ?_; dsimp only)); refine box_event ?hg (N := 6) ?hd (cs := #[.int .i64 0, .bool false, .slice none 0 0]) (t := 24) ?hr ?_; (case hd => rfl); (case hg => rfl); (case hr => first | (go_simp; done) | (go_simp; rfl)); intro gb249 hg w54 hbox hb; have n0_ := Aside0.mk (blk_below (g := gb248) (o := .cells #[.int .i64 a1_0, .bool a1_1, .slice A1_2 l1_2.length c1_2] 24 (0, 0)) (by (with_reducible repeat (first | refine blk_drewN ?_ _ | refine blk_drew ?_ | refine blk_alloc ?_ _)); exact BK248.out) hb); have n1_ := Aside0.mk (below_step (by repeat (first | (with_reducible first | exact HB.out | apply below_alloc | apply pw_below_drewN | apply below_drew1 | refine below_set ?_ GE248.out) | exact HB.out)) hb); have n2_ := Aside0.mk (hbox); have n3_ := Aside0.mk ((by rw [hg]; exact (below_size (by repeat (first | (with_reducible first | exact HB.out | apply below_alloc | apply pw_below_drewN | apply below_drew1 | refine below_set ?_ GE248.out) | exact HB.out))) : w.heap.size ≤ gb249)); have n4_ := Aside0.mk ((by rw [hg]; exact (below_size (by repeat (first | (with_reducible first | exact HB.out | apply below_alloc | apply pw_below_drewN | apply below_drew1 | refine below_set ?_ GE248.out) | exact HB.out))) : w.heap.size ≤ gb249)); have n5_ := Aside0.mk ((by rw [hg]; exact Nat.ne_of_lt (blk_lt (g := gb248) (o := .cells #[.int .i64 a1_0, .bool a1_1, .slice A1_2 l1_2.length c1_2] 24 (0, 0)) (by (with_reducible repeat (first | refine blk_drewN ?_ _ | refine blk_drew ?_ | refine blk_alloc ?_ _)); exact BK248.out)) : gb248 ≠ gb249)); have n6_ := Aside0.mk ((by rw [hg]; exact Nat.ne_of_gt (blk_lt (g := gb248) (o := .cells #[.int .i64 a1_0, .bool a1_1, .slice A1_2 l1_2.length c1_2] 24 (0, 0)) (by (with_reducible repeat (first | refine blk_drewN ?_ _ | refine blk_drew ?_ | refine blk_alloc ?_ _)); exact BK248.out)) : gb249 ≠ gb248)); clear BK248; clear HB; have BK248 := n0_; have HB := n1_; have BK249 := n2_; have GW249 := n3_; have GE249 := n4_; have NB248_249 := n5_; have NB249_248 := n6_; clear n0_ n1_ n2_ n3_ n4_ n5_ n6_; clear hb hbox hg; have hnb55 := NB248_249.out; have hnc55 := NB249_248.out; obtain ⟨hcz56_0, hcz56_1, hcz56_2⟩ := cel3 BK248.out; obtain ⟨hfz56_0, hfz56_1, hfz56_2⟩ := frz3 BK248.out) | ((with_reducible refine gate_callee (f := 11) rfl ?_); refine goesL_ (some 12) rfl rfl Try.func11 (by kernel_rfl) rfl #[.int .i64 a0, .agg #[.int .i64 a1_0, .bool a1_1, .slice A1_2 l1_2.length c1_2]] rfl (by (try simp only [List.map_toArray, List.map_cons, List.map_nil]); first | done | rfl | (simp only [List.length_drop, List.length_take]; rfl)) ?_; (with_reducible refine (masterdiscref14_Valid.calls a0 a1_0 a1_1 _ _ l1_2 false _ ?side1 ?side2 A4.out).mono ?_); (case side1 => repeat (first | exact (Kd.C_below HR1_2.out HB.out) | (with_reducible refine Kd.C_alloc ?_ _) | (with_reducible refine Kd.C_drewN ?_ _) | (with_reducible refine Kd.C_drew ?_))); (case side2 => exact HC1_2.out); rintro e w57 ⟨rfl, hb⟩; refine ⟨_, rfl, ?_⟩; have n0_ := Aside0.mk (blk_below (g := gb248) (o := .cells #[.int .i64 a1_0, .bool a1_1, .slice A1_2 l1_2.length c1_2] 24 (0, 0)) (by (with_reducible repeat (first | refine blk_drewN ?_ _ | refine blk_drew ?_ | refine blk_alloc ?_ _)); exact BK248.out) hb); have n1_ := Aside0.mk (blk_below (g := gb249) (o := .cells #[.int .i64 0, .bool false, .slice none 0 0] 24 (0, 0)) (by (with_reducible repeat (first | refine blk_drewN ?_ _ | refine blk_drew ?_ | refine blk_alloc ?_ _)); exact BK249.out) hb); have n2_ := Aside0.mk (below_step (by repeat (first | (with_reducible first | exact HB.out | apply below_alloc | apply pw_below_drewN | apply below_drew1 | refine below_set ?_ GE248.out | refine below_set ?_ GE249.out) | exact HB.out)) hb); clear BK248; clear BK249; clear HB; have BK248 := n0_; have BK249 := n1_; have HB := n2_; clear n0_ n1_ n2_; (try clear hb); (try clear hb2); (try clear hk); (try clear hi); obtain ⟨hcz58_0, hcz58_1, hcz58_2⟩ := cel3 BK249.out; obtain ⟨hfz58_0, hfz58_1, hfz58_2⟩ := frz3 BK249.out))
   refine bodyPost_ret (results_ct rfl _ _ gb249 24 #[.int .i64 0, .bool false, .slice none 0 0] (0, 0) _ rfl (by (with_reducible repeat (first | refine blk_drewN ?_ _ | refine blk_drew ?_ | refine blk_alloc ?_ _)); refine blk_put (cs := #[.int .i64 0, .bool false, .slice none 0 0]) ?_ 2 _ rfl; (with_reducible repeat (first | refine blk_drewN ?_ _ | refine blk_drew ?_ | refine blk_alloc ?_ _)); refine blk_put (cs := #[.int .i64 0, .bool false, .slice none 0 0]) ?_ 1 _ rfl; (with_reducible repeat (first | refine blk_drewN ?_ _ | refine blk_drew ?_ | refine blk_alloc ?_ _)); refine blk_put (cs := #[.int .i64 0, .bool false, .slice none 0 0]) ?_ 0 _ rfl; (with_reducible repeat (first | refine blk_drewN ?_ _ | refine blk_drew ?_ | refine blk_alloc ?_ _)); exact BK249.out) Try.underlying24 rfl (by kernel_rfl)) rfl ?_
   exact ⟨_, by first | rfl | (simp [errW_none, errW_some] <;> rfl) | (simp [*, errW_none, errW_some] <;> rfl), by first | exact Kd.R_nil _ _ _ _ _ | exact Kd.N_nil _ _ _ _ _ | exact Kd.V_nil _ _ _ _ _ | exact Kd.Q_nil _ _ _ _ _ | exact Kd.S_nil _ _ _ _ _, by repeat (first | (with_reducible first | exact HB.out | apply below_alloc | apply pw_below_drewN | apply below_drew1 | refine below_set ?_ GE248.out | refine below_set ?_ GE249.out) | exact HB.out)⟩
end Go.Proofs.Ytjhepdcdhabcjaa.G
namespace Go.Proofs.Ytjhepdcdhabcjaa.G
open Go.RowKit Go.Proofs.YtjhepdcdhabcjaaW.PrintWords Go.Proofs.YtjhepdcdhabcjaaW.PrintLast Go.Proofs.YtjhepdcdhabcjaaW.PrintMore
attribute [local go_sem] max2_int min2_int max_two min_two max_three min_three max_four min_four   -- for this text's walks alone
set_option linter.unusedVariables false
set_option linter.unusedSimpArgs false
mutual
def masterdiscref14_CloseSession.l0 : Nat → Bool → Int → Int → Int → Bool → List (S40) → Option (Int × Bool × (List (S40)) × Int)
 | 0, _, _, _, _, _, _ => none
 | k + 1, x2, x8, x9, x259000, x259001, x259002 => if x9 < (x259002.length : Int) then (if 0 ≤ x9 then (if ((rd_T40 x259002 x9).f5) = 2 then (if ((rd_T40 x259002 x9).f1) > x259000 then (masterdiscref14_CloseSession.l0 k x2 (wrap64 (x8 + 1)) (wrap64 (x9 + 1)) x259000 x259001 x259002) else (masterdiscref14_CloseSession.l0 k x2 x8 (wrap64 (x9 + 1)) x259000 x259001 x259002)) else (some (0, false, ([] : List (S40)), 8))) else (none)) else ((some (([] : List (S40)) : List (S40))).bind fun y263 => (if y263.length + x259002.length < 2513169434916 then ((some (y263 ++ x259002 : List (S40))).bind fun y266 => (if x8 = 0 then (if x2 = true then (masterdiscref14_CloseSession.j1 k (x259000 == 0) x259000 x259001 y266) else (masterdiscref14_CloseSession.j1 k true x259000 x259001 y266)) else (some (wrap64 (x259000 + 1), x2, y266, 0)))) else (none)))
def masterdiscref14_CloseSession.j1 : Nat → Bool → Int → Bool → List (S40) → Option (Int × Bool × (List (S40)) × Int)
 | 0, _, _, _, _ => none
 | k + 1, x57, x259000, x259001, x259002 => if x57 = true then (some (0, false, ([] : List (S40)), 8)) else (some (x259000, true, x259002, 0))
end
def masterdiscref14_CloseSession.f (k : Nat) (a0 : Int) (a1_0 : Int) (a1_1 : Bool) (l1_2 : List (S40)) (a2 : Bool) : Option (Int × Bool × (List (S40)) × Int) := (masterdiscref14_Valid.f a0 a1_0 a1_1 l1_2).bind fun t260 => (if t260 = true then (if a1_1 = true then (some (0, false, ([] : List (S40)), 15)) else (masterdiscref14_CloseSession.l0 k a2 0 0 a1_0 a1_1 l1_2)) else (some (0, false, ([] : List (S40)), 1)))
theorem masterdiscref14_CloseSession.mono_l : ∀ k, (∀ y0 y1 y2 y3 y4 y5, LeO (masterdiscref14_CloseSession.l0 k y0 y1 y2 y3 y4 y5) (masterdiscref14_CloseSession.l0 (k + 1) y0 y1 y2 y3 y4 y5)) ∧ (∀ y0 y1 y2 y3, LeO (masterdiscref14_CloseSession.j1 k y0 y1 y2 y3) (masterdiscref14_CloseSession.j1 (k + 1) y0 y1 y2 y3))
 | 0 => ⟨fun _ _ _ _ _ _ r h => by simp [masterdiscref14_CloseSession.l0] at h, fun _ _ _ _ r h => by simp [masterdiscref14_CloseSession.j1] at h⟩
 | k + 1 => by
  obtain ⟨ih0, ih1⟩ := masterdiscref14_CloseSession.mono_l k
  refine ⟨?_, ?_⟩
  · intro y0 y1 y2 y3 y4 y5
    unfold masterdiscref14_CloseSession.l0
    repeat' first
    | (with_reducible exact ih0 _ _ _ _ _ _)
    | (with_reducible exact ih1 _ _ _ _)
    | (with_reducible exact LeO.refl _)
    | (with_reducible exact LeO.none _)
    | (with_reducible refine LeO.ite ?_ ?_)
    | (with_reducible refine LeO.bind ?_ (fun _ => ?_))
    | exact ih0 _ _ _ _ _ _
    | exact ih1 _ _ _ _
    | exact LeO.none _
    | refine LeO.ite ?_ ?_
    | refine LeO.bind ?_ (fun _ => ?_)
  · intro y0 y1 y2 y3
    unfold masterdiscref14_CloseSession.j1
    repeat' first
    | (with_reducible exact ih0 _ _ _ _ _ _)
    | (with_reducible exact ih1 _ _ _ _)
    | (with_reducible exact LeO.refl _)
    | (with_reducible exact LeO.none _)
    | (with_reducible refine LeO.ite ?_ ?_)
    | (with_reducible refine LeO.bind ?_ (fun _ => ?_))
    | exact ih0 _ _ _ _ _ _
    | exact ih1 _ _ _ _
    | exact LeO.none _
    | refine LeO.ite ?_ ?_
    | refine LeO.bind ?_ (fun _ => ?_)
theorem masterdiscref14_CloseSession.mono : ∀ a0 a1 a2 a3 a4 k, LeO (masterdiscref14_CloseSession.f k a0 a1 a2 a3 a4) (masterdiscref14_CloseSession.f (k + 1) a0 a1 a2 a3 a4) := by
 intro a0 a1 a2 a3 a4 k
 obtain ⟨ih0, ih1⟩ := masterdiscref14_CloseSession.mono_l k
 unfold masterdiscref14_CloseSession.f
 repeat' first
  | (with_reducible exact ih0 _ _ _ _ _ _)
  | (with_reducible exact ih1 _ _ _ _)
  | (with_reducible exact LeO.refl _)
  | (with_reducible exact LeO.none _)
  | (with_reducible refine LeO.ite ?_ ?_)
  | (with_reducible refine LeO.bind ?_ (fun _ => ?_))
  | exact ih0 _ _ _ _ _ _
  | exact ih1 _ _ _ _
  | exact LeO.none _
  | refine LeO.ite ?_ ?_
  | refine LeO.bind ?_ (fun _ => ?_)
set_option maxHeartbeats 8000000 in
set_option maxRecDepth 100000 in
theorem masterdiscref14_CloseSession.calls (k : Nat) (a0 : Int) (a1_0 : Int) (a1_1 : Bool) (A1_2 : Option Addr) (c1_2 : Nat) (l1_2 : List (S40)) (a2 : Bool) (r1 : Int) (r2 : Bool) (r3 : List (S40)) (r4 : Int) (w : World) (hr1_2 : Kd.C k40 w A1_2 l1_2.length l1_2) (hc1_2 : l1_2.length ≤ c1_2) (h : masterdiscref14_CloseSession.f k a0 a1_0 a1_1 l1_2 a2 = some (r1, r2, r3, r4)) :
 Calls Try.prog 23 #[.int .i64 a0, .agg #[.int .i64 a1_0, .bool a1_1, .slice A1_2 l1_2.length c1_2], .bool a2] w fun e w' => ∃ v2_ : Value, e = .returned (.tuple #[.agg #[.int .i64 r1, .bool r2, v2_], .int .i64 r4]) ∧ Kd.R k40 40 w' w.heap.size (fun _ => True) v2_ r3 ∧ Below w.heap.size w w' := by
 have hu24 := Try.underlying24
 have HR1_2 := Aside0.mk hr1_2
 have HC1_2 := Aside0.mk hc1_2
 clear hr1_2 hc1_2
 have HB := Aside0.mk (Below.refl w.heap.size w)
 have H : ((masterdiscref14_Valid.f a0 a1_0 a1_1 l1_2).bind fun t260 => (if t260 = true then (if a1_1 = true then (some (0, false, ([] : List (S40)), 15)) else (masterdiscref14_CloseSession.l0 k a2 0 0 a1_0 a1_1 l1_2)) else (some (0, false, ([] : List (S40)), 1)))) = some (r1, r2, r3, r4) := h
 clear h
 replace H := Option.bind_eq_some_iff.mp H
 obtain ⟨t260, A40, H⟩ := H
 replace H : (if t260 = true then (if a1_1 = true then (some (0, false, ([] : List (S40)), 15)) else (masterdiscref14_CloseSession.l0 k a2 0 0 a1_0 a1_1 l1_2)) else (some (0, false, ([] : List (S40)), 1))) = some (r1, r2, r3, r4) := H
 have A4 := Aside0.mk A40
 clear A40
 by_cases c5 : t260 = true
 · subst c5
   have H1 : (if a1_1 = true then (some (0, false, ([] : List (S40)), 15)) else (masterdiscref14_CloseSession.l0 k a2 0 0 a1_0 a1_1 l1_2)) = some (r1, r2, r3, r4) := by rw [if_pos rfl] at H; exact H
   clear H
   have H := H1
   clear H1
   by_cases c6 : a1_1 = true
   · subst c6
     have H1 : (some (0, false, ([] : List (S40)), 15)) = some (r1, r2, r3, r4) := by rw [if_pos rfl] at H; exact H
     clear H
     have H := H1
     clear H1
     simp only [Option.some.injEq, Prod.mk.injEq] at H
     obtain ⟨rfl, rfl, rfl, rfl⟩ := H
     go_enter Try.func23, Try.ntmps23
     go_wp2_with (first | ((with_reducible refine gate_dst (N := 4) rfl ?_); refine box_event ?hg (N := 4) ?hd (cs := #[.int .i64 a1_0, .bool true, .slice A1_2 l1_2.length c1_2]) (t := 24) ?hr ?_; (case hd => rfl); (case hg => rfl); (case hr => first | (go_simp; done) | (go_simp; rfl)); intro gb258 hg w7 hbox hb; have n0_ := Aside0.mk (below_step (by repeat (first | (with_reducible first | exact HB.out | apply below_alloc | apply pw_below_drewN | apply below_drew1) | exact HB.out)) hb); have n1_ := Aside0.mk (hbox); have n2_ := Aside0.mk ((by rw [hg]; exact (below_size (by repeat (first | (with_reducible first | exact HB.out | apply below_alloc | apply pw_below_drewN | apply below_drew1) | exact HB.out))) : w.heap.size ≤ gb258)); have n3_ := Aside0.mk ((by rw [hg]; exact (below_size (by repeat (first | (with_reducible first | exact HB.out | apply below_alloc | apply pw_below_drewN | apply below_drew1) | exact HB.out))) : w.heap.size ≤ gb258)); clear HB; have HB := n0_; have BK258 := n1_; have GW258 := n2_; have GE258 := n3_; clear n0_ n1_ n2_ n3_; clear hb hbox hg) | ((with_reducible refine gate_dst (N := 6) rfl ?_); refine box_event ?hg (N := 6) ?hd (cs := #[.int .i64 0, .bool false, .slice none 0 0]) (t := 24) ?hr ?_; (case hd => rfl); (case hg => rfl); (case hr => first | (go_simp; done) | (go_simp; rfl)); intro gb259 hg w8 hbox hb; have n0_ := Aside0.mk (blk_below (g := gb258) (o := .cells #[.int .i64 a1_0, .bool true, .slice A1_2 l1_2.length c1_2] 24 (0, 0)) (by (with_reducible repeat (first | refine blk_drewN ?_ _ | refine blk_drew ?_ | refine blk_alloc ?_ _)); exact BK258.out) hb); have n1_ := Aside0.mk (below_step (by repeat (first | (with_reducible first | exact HB.out | apply below_alloc | apply pw_below_drewN | apply below_drew1 | refine below_set ?_ GE258.out) | exact HB.out)) hb); have n2_ := Aside0.mk (hbox); have n3_ := Aside0.mk ((by rw [hg]; exact (below_size (by repeat (first | (with_reducible first | exact HB.out | apply below_alloc | apply pw_below_drewN | apply below_drew1 | refine below_set ?_ GE258.out) | exact HB.out))) : w.heap.size ≤ gb259)); have n4_ := Aside0.mk ((by rw [hg]; exact (below_size (by repeat (first | (with_reducible first | exact HB.out | apply below_alloc | apply pw_below_drewN | apply below_drew1 | refine below_set ?_ GE258.out) | exact HB.out))) : w.heap.size ≤ gb259)); have n5_ := Aside0.mk ((by rw [hg]; exact Nat.ne_of_lt (blk_lt (g := gb258) (o := .cells #[.int .i64 a1_0, .bool true, .slice A1_2 l1_2.length c1_2] 24 (0, 0)) (by (with_reducible repeat (first | refine blk_drewN ?_ _ | refine blk_drew ?_ | refine blk_alloc ?_ _)); exact BK258.out)) : gb258 ≠ gb259)); have n6_ := Aside0.mk ((by rw [hg]; exact Nat.ne_of_gt (blk_lt (g := gb258) (o := .cells #[.int .i64 a1_0, .bool true, .slice A1_2 l1_2.length c1_2] 24 (0, 0)) (by (with_reducible repeat (first | refine blk_drewN ?_ _ | refine blk_drew ?_ | refine blk_alloc ?_ _)); exact BK258.out)) : gb259 ≠ gb258)); clear BK258; clear HB; have BK258 := n0_; have HB := n1_; have BK259 := n2_; have GW259 := n3_; have GE259 := n4_; have NB258_259 := n5_; have NB259_258 := n6_; clear n0_ n1_ n2_ n3_ n4_ n5_ n6_; clear hb hbox hg; have hnb9 := NB258_259.out; have hnc9 := NB259_258.out; obtain ⟨hcz10_0, hcz10_1, hcz10_2⟩ := cel3 BK258.out; obtain ⟨hfz10_0, hfz10_1, hfz10_2⟩ := frz3 BK258.out) | (go_at_call 11; (with_reducible refine (masterdiscref14_Valid.calls a0 a1_0 true _ _ l1_2 true _ ?side1 ?side2 A4.out).mono ?_); (case side1 => repeat (first | exact (Kd.C_below HR1_2.out HB.out) | (with_reducible refine Kd.C_alloc ?_ _) | (with_reducible refine Kd.C_drewN ?_ _) | (with_reducible refine Kd.C_drew ?_))); (case side2 => exact HC1_2.out); rintro e w11 ⟨rfl, hb⟩; have n0_ := Aside0.mk (blk_below (g := gb258) (o := .cells #[.int .i64 a1_0, .bool true, .slice A1_2 l1_2.length c1_2] 24 (0, 0)) (by (with_reducible repeat (first | refine blk_drewN ?_ _ | refine blk_drew ?_ | refine blk_alloc ?_ _)); exact BK258.out) hb); have n1_ := Aside0.mk (blk_below (g := gb259) (o := .cells #[.int .i64 0, .bool false, .slice none 0 0] 24 (0, 0)) (by (with_reducible repeat (first | refine blk_drewN ?_ _ | refine blk_drew ?_ | refine blk_alloc ?_ _)); exact BK259.out) hb); have n2_ := Aside0.mk (below_step (by repeat (first | (with_reducible first | exact HB.out | apply below_alloc | apply pw_below_drewN | apply below_drew1 | refine below_set ?_ GE258.out | refine below_set ?_ GE259.out) | exact HB.out)) hb); clear BK258; clear BK259; clear HB; have BK258 := n0_; have BK259 := n1_; have HB := n2_; clear n0_ n1_ n2_; (try clear hb); (try clear hb2); (try clear hk); (try clear hi); obtain ⟨hcz12_0, hcz12_1, hcz12_2⟩ := cel3 BK258.out; obtain ⟨hfz12_0, hfz12_1, hfz12_2⟩ := frz3 BK258.out; obtain ⟨hcz13_0, hcz13_1, hcz13_2⟩ := cel3 BK259.out; obtain ⟨hfz13_0, hfz13_1, hfz13_2⟩ := frz3 BK259.out))
     repeat (go_quiet (first | ((with_reducible refine gate_dst (N := 4) rfl ?_); refine box_event ?hg (N := 4) ?hd (cs := #[.int .i64 a1_0, .bool true, .slice A1_2 l1_2.length c1_2]) (t := 24) ?hr ?_; (case hd => rfl); (case hg => rfl); (case hr => first | (go_simp; done) | (go_simp; rfl)); intro gb258 hg w7 hbox hb; have n0_ := Aside0.mk (below_step (by repeat (first | (with_reducible first | exact HB.out | apply below_alloc | apply pw_below_drewN | apply below_drew1) | exact HB.out)) hb); have n1_ := Aside0.mk (hbox); have n2_ := Aside0.mk ((by rw [hg]; exact (below_size (by repeat (first | (with_reducible first | exact HB.out | apply below_alloc | apply pw_below_drewN | apply below_drew1) | exact HB.out))) : w.heap.size ≤ gb258)); have n3_ := Aside0.mk ((by rw [hg]; exact (below_size (by repeat (first | (with_reducible first | exact HB.out | apply below_alloc | apply pw_below_drewN | apply below_drew1) | exact HB.out))) : w.heap.size ≤ gb258)); clear HB; have HB := n0_; have BK258 := n1_; have GW258 := n2_; have GE258 := n3_; clear n0_ n1_ n2_ n3_; clear hb hbox hg) | ((with_reducible refine gate_dst (N := 6) rfl ?_); refine box_event ?hg (N := 6) ?hd (cs := #[.int .i64 0, .bool false, .slice none 0 0]) (t := 24) ?hr ?_; (case hd => rfl); (case hg => rfl); (case hr => first | (go_simp; done) | (go_simp; rfl)); intro gb259 hg w8 hbox hb; have n0_ := Aside0.mk (blk_below (g := gb258) (o := .cells #[.int .i64 a1_0, .bool true, .slice A1_2 l1_2.length c1_2] 24 (0, 0)) (by (with_reducible repeat (first | refine blk_drewN ?_ _ | refine blk_drew ?_ | refine blk_alloc ?_ _)); exact BK258.out) hb); have n1_ := Aside0.mk (below_step (by repeat (first | (with_reducible first | exact HB.out | apply below_alloc | apply pw_below_drewN | apply below_drew1 | refine below_set ?_ GE258.out) | exact HB.out)) hb); have n2_ := Aside0.mk (hbox); have n3_ := Aside0.mk ((by rw [hg]; exact (below_size (by repeat (first | (with_reducible first | exact HB.out | apply below_alloc | apply pw_below_drewN | apply below_drew1 | refine below_set ?_ GE258.out) | exact HB.out))) : w.heap.size ≤ gb259)); have n4_ := Aside0.mk ((by rw [hg]; exact (below_size (by repeat (first | (with_reducible first | exact HB.out | apply below_alloc | apply pw_below_drewN | apply below_drew1 | refine below_set ?_ GE258.out) | exact HB.out))) : w.heap.size ≤ gb259)); have n5_ := Aside0.mk ((by rw [hg]; exact Nat.ne_of_lt (blk_lt (g := gb258) (o := .cells #[.int .i64 a1_0, .bool true, .slice A1_2 l1_2.length c1_2] 24 (0, 0)) (by (with_reducible repeat (first | refine blk_drewN ?_ _ | refine blk_drew ?_ | refine blk_alloc ?_ _)); exact BK258.out)) : gb258 ≠ gb259)); have n6_ := Aside0.mk ((by rw [hg]; exact Nat.ne_of_gt (blk_lt (g := gb258) (o := .cells #[.int .i64 a1_0, .bool true, .slice A1_2 l1_2.length c1_2] 24 (0, 0)) (by (with_reducible repeat (first | refine blk_drewN ?_ _ | refine blk_drew ?_ | refine blk_alloc ?_ _)); exact BK258.out)) : gb259 ≠ gb258)); clear BK258; clear HB; have BK258 := n0_; have HB := n1_; have BK259 := n2_; have GW259 := n3_; have GE259 := n4_; have NB258_259 := n5_; have NB259_258 := n6_; clear n0_ n1_ n2_ n3_ n4_ n5_ n6_; clear hb hbox hg; have hnb9 := NB258_259.out; have hnc9 := NB259_258.out; obtain ⟨hcz10_0, hcz10_1, hcz10_2⟩ := cel3 BK258.out; obtain ⟨hfz10_0, hfz10_1, hfz10_2⟩ := frz3 BK258.out) | (go_at_call 11; (with_reducible refine (masterdiscref14_Valid.calls a0 a1_0 true _ _ l1_2 true _ ?side1 ?side2 A4.out).mono ?_); (case side1 => repeat (first | exact (Kd.C_below HR1_2.out HB.out) | (with_reducible refine Kd.C_alloc ?_ _) | (with_reducible refine Kd.C_drewN ?_ _) | (with_reducible refine Kd.C_drew ?_))); (case side2 => exact HC1_2.out); rintro e w11 ⟨rfl, hb⟩; have n0_ := Aside0.mk (blk_below (g := gb258) (o := .cells #[.int .i64 a1_0, .bool true, .slice A1_2 l1_2.length c1_2] 24 (0, 0)) (by (with_reducible repeat (first | refine blk_drewN ?_ _ | refine blk_drew ?_ | refine blk_alloc ?_ _)); exact BK258.out) hb); have n1_ := Aside0.mk (blk_below (g := gb259) (o := .cells #[.int .i64 0, .bool false, .slice none 0 0] 24 (0, 0)) (by (with_reducible repeat (first | refine blk_drewN ?_ _ | refine blk_drew ?_ | refine blk_alloc ?_ _)); exact BK259.out) hb); have n2_ := Aside0.mk (below_step (by repeat (first | (with_reducible first | exact HB.out | apply below_alloc | apply pw_below_drewN | apply below_drew1 | refine below_set ?_ GE258.out | refine below_set ?_ GE259.out) | exact HB.out)) hb); clear BK258; clear BK259; clear HB; have BK258 := n0_; have BK259 := n1_; have HB := n2_; clear n0_ n1_ n2_; (try clear hb); (try clear hb2); (try clear hk); (try clear hi); obtain ⟨hcz12_0, hcz12_1, hcz12_2⟩ := cel3 BK258.out; obtain ⟨hfz12_0, hfz12_1, hfz12_2⟩ := frz3 BK258.out; obtain ⟨hcz13_0, hcz13_1, hcz13_2⟩ := cel3 BK259.out; obtain ⟨hfz13_0, hfz13_1, hfz13_2⟩ := frz3 BK259.out)); try go_wp2_with (first | ((with_reducible refine gate_dst (N := 4) rfl ?_); refine box_event ?hg (N := 4) ?hd (cs := #[.int .i64 a1_0, .bool true, .slice A1_2 l1_2.length c1_2]) (t := 24) ?hr ?_; (case hd => rfl); (case hg => rfl); (case hr => first | (go_simp; done) | (go_simp; rfl)); intro gb258 hg w7 hbox hb; have n0_ := Aside0.mk (below_step (by repeat (first | (with_reducible first | exact HB.out | apply below_alloc | apply pw_below_drewN | apply below_drew1) | exact HB.out)) hb); have n1_ := Aside0.mk (hbox); have n2_ := Aside0.mk ((by rw [hg]; exact (below_size (by repeat (first | (with_reducible first | exact HB.out | apply below_alloc | apply pw_below_drewN | apply below_drew1) | exact HB.out))) : w.heap.size ≤ gb258)); have n3_ := Aside0.mk ((by rw [hg]; exact (below_size (by repeat (first | (with_reducible first | exact HB.out | apply below_alloc | apply pw_below_drewN | apply below_drew1) | exact HB.out))) : w.heap.size ≤ gb258)); clear HB; have HB := n0_; have BK258 := n1_; have GW258 := n2_; have GE258 := n3_; clear n0_ n1_ n2_ n3_; clear hb hbox hg) | ((with_reducible refine gate_dst (N := 6) rfl ?_); refine box_event ?hg (N := 6) ?hd (cs := #[.int .i64 0, .bool false, .slice none 0 0]) (t := 24) ?hr ?_; (case hd => rfl); (case hg => rfl); (case hr => first | (go_simp; done) | (go_simp; rfl)); intro gb259 hg w8 hbox hb; have n0_ := Aside0.mk (blk_below (g := gb258) (o := .cells #[.int .i64 a1_0, .bool true, .slice A1_2 l1_2.length c1_2] 24 (0, 0)) (by (with_reducible repeat (first | refine blk_drewN ?_ _ | refine blk_drew ?_ | refine blk_alloc ?_ _)); exact BK258.out) hb); have n1_ := Aside0.mk (below_step (by repeat (first | (with_reducible first | exact HB.out | apply below_alloc | apply pw_below_drewN | apply below_drew1 | refine below_set ?_ GE258.out) | exact HB.out)) hb); have n2_ := Aside0.mk (hbox); have n3_ := Aside0.mk ((by rw [hg]; exact (below_size (by repeat (first | (with_reducible first | exact HB.out | apply below_alloc | apply pw_below_drewN | apply below_drew1 | refine below_set ?_ GE258.out) | exact HB.out))) : w.heap.size ≤ gb259)); have n4_ := Aside0.mk ((by rw [hg]; exact (below_size (by repeat (first | (with_reducible first | exact HB.out | apply below_alloc | apply pw_below_drewN | apply below_drew1 | refine below_set ?_ GE258.out) | exact HB.out))) : w.heap.size ≤ gb259)); have n5_ := Aside0.mk ((by rw [hg]; exact Nat.ne_of_lt (blk_lt (g := gb258) (o := .cells #[.int .i64 a1_0, .bool true, .slice A1_2 l1_2.length c1_2] 24 (0, 0)) (by (with_reducible repeat (first | refine blk_drewN ?_ _ | refine blk_drew ?_ | refine blk_alloc ?_ _)); exact BK258.out)) : gb258 ≠ gb259)); have n6_ := Aside0.mk ((by rw [hg]; exact Nat.ne_of_gt (blk_lt (g := gb258) (o := .cells #[.int .i64 a1_0, .bool true, .slice A1_2 l1_2.length c1_2] 24 (0, 0)) (by (with_reducible repeat (first | refine blk_drewN ?_ _ | refine blk_drew ?_ | refine blk_alloc ?_ _)); exact BK258.out)) : gb259 ≠ gb258)); clear BK258; clear HB; have BK258 := n0_; have HB := n1_; have BK259 := n2_; have GW259 := n3_; have GE259 := n4_; have NB258_259 := n5_; have NB259_258 := n6_; clear n0_ n1_ n2_ n3_ n4_ n5_ n6_; clear hb hbox hg; have hnb9 := NB258_259.out; have hnc9 := NB259_258.out; obtain ⟨hcz10_0, hcz10_1, hcz10_2⟩ := cel3 BK258.out; obtain ⟨hfz10_0, hfz10_1, hfz10_2⟩ := frz3 BK258.out) | (go_at_call 11; (with_reducible refine (masterdiscref14_Valid.calls a0 a1_0 true _ _ l1_2 true _ ?side1 ?side2 A4.out).mono ?_); (case side1 => repeat (first | exact (Kd.C_below HR1_2.out HB.out) | (with_reducible refine Kd.C_alloc ?_ _) | (with_reducible refine Kd.C_drewN ?_ _) | (with_reducible refine Kd.C_drew ?_))); (case side2 => exact HC1_2.out); rintro e w11 ⟨rfl, hb⟩; have n0_ := Aside0.mk (blk_below (g := gb258) (o := .cells #[.int .i64 a1_0, .bool true, .slice A1_2 l1_2.length c1_2] 24 (0, 0)) (by (with_reducible repeat (first | refine blk_drewN ?_ _ | refine blk_drew ?_ | refine blk_alloc ?_ _)); exact BK258.out) hb); have n1_ := Aside0.mk (blk_below (g := gb259) (o := .cells #[.int .i64 0, .bool false, .slice none 0 0] 24 (0, 0)) (by (with_reducible repeat (first | refine blk_drewN ?_ _ | refine blk_drew ?_ | refine blk_alloc ?_ _)); exact BK259.out) hb); have n2_ := Aside0.mk (below_step (by repeat (first | (with_reducible first | exact HB.out | apply below_alloc | apply pw_below_drewN | apply below_drew1 | refine below_set ?_ GE258.out | refine below_set ?_ GE259.out) | exact HB.out)) hb); clear BK258; clear BK259; clear HB; have BK258 := n0_; have BK259 := n1_; have HB := n2_; clear n0_ n1_ n2_; (try clear hb); (try clear hb2); (try clear hk); (try clear hi); obtain ⟨hcz12_0, hcz12_1, hcz12_2⟩ := cel3 BK258.out; obtain ⟨hfz12_0, hfz12_1, hfz12_2⟩ := frz3 BK258.out; obtain ⟨hcz13_0, hcz13_1, hcz13_2⟩ := cel3 BK259.out; obtain ⟨hfz13_0, hfz13_1, hfz13_2⟩ := frz3 BK259.out)))
     refine bodyPost_ret (results_ct rfl _ _ gb259 24 #[.int .i64 0, .bool false, .slice none 0 0] (0, 0) _ rfl (by (with_reducible repeat (first | refine blk_drewN ?_ _ | refine blk_drew ?_ | refine blk_alloc ?_ _)); refine blk_put (cs := #[.int .i64 0, .bool false, .slice none 0 0]) ?_ 2 _ rfl; (with_reducible repeat (first | refine blk_drewN ?_ _ | refine blk_drew ?_ | refine blk_alloc ?_ _)); refine blk_put (cs := #[.int .i64 0, .bool false, .slice none 0 0]) ?_ 1 _ rfl; (with_reducible repeat (first | refine blk_drewN ?_ _ | refine blk_drew ?_ | refine blk_alloc ?_ _)); refine blk_put (cs := #[.int .i64 0, .bool false, .slice none 0 0]) ?_ 0 _ rfl; (with_reducible repeat (first | refine blk_drewN ?_ _ | refine blk_drew ?_ | refine blk_alloc ?_ _)); exact BK259.out) Try.underlying24 rfl (by kernel_rfl)) rfl ?_
     exact ⟨_, by first | rfl | (simp [errW_none, errW_some] <;> rfl) | (simp [*, errW_none, errW_some] <;> rfl), by first | exact Kd.R_nil _ _ _ _ _ | exact Kd.N_nil _ _ _ _ _ | exact Kd.V_nil _ _ _ _ _ | exact Kd.Q_nil _ _ _ _ _ | exact Kd.S_nil _ _ _ _ _, by repeat (first | (with_reducible first | exact HB.out | apply below_alloc | apply pw_below_drewN | apply below_drew1 | refine below_set ?_ GE258.out | refine below_set ?_ GE259.out) | exact HB.out)⟩
   · replace c6 := Bool.eq_false_iff.mpr c6
     subst c6
     have H1 : (masterdiscref14_CloseSession.l0 k a2 0 0 a1_0 false l1_2) = some (r1, r2, r3, r4) := by rw [if_neg (show ¬ (false = true) by decide)] at H; exact H
     clear H
     have H := H1
     clear H1
     have H' := Aside0.mk H
     clear H
     go_enter Try.func23, Try.ntmps23
     go_wp2_with (first | ((with_reducible refine gate_dst (N := 4) rfl ?_); refine box_event ?hg (N := 4) ?hd (cs := #[.int .i64 a1_0, .bool false, .slice A1_2 l1_2.length c1_2]) (t := 24) ?hr ?_; (case hd => rfl); (case hg => rfl); (case hr => first | (go_simp; done) | (go_simp; rfl)); intro gb258 hg w14 hbox hb; have n0_ := Aside0.mk (below_step (by repeat (first | (with_reducible first | exact HB.out | apply below_alloc | apply pw_below_drewN | apply below_drew1) | exact HB.out)) hb); have n1_ := Aside0.mk (hbox); have n2_ := Aside0.mk ((by rw [hg]; exact (below_size (by repeat (first | (with_reducible first | exact HB.out | apply below_alloc | apply pw_below_drewN | apply below_drew1) | exact HB.out))) : w.heap.size ≤ gb258)); have n3_ := Aside0.mk ((by rw [hg]; exact (below_size (by repeat (first | (with_reducible first | exact HB.out | apply below_alloc | apply pw_below_drewN | apply below_drew1) | exact HB.out))) : w.heap.size ≤ gb258)); clear HB; have HB := n0_; have BK258 := n1_; have GW258 := n2_; have GE258 := n3_; clear n0_ n1_ n2_ n3_; clear hb hbox hg) | ((with_reducible refine gate_dst (N := 6) rfl ?_); refine box_event ?hg (N := 6) ?hd (cs := #[.int .i64 0, .bool false, .slice none 0 0]) (t := 24) ?hr ?_; (case hd => rfl); (case hg => rfl); (case hr => first | (go_simp; done) | (go_simp; rfl)); intro gb259 hg w15 hbox hb; have n0_ := Aside0.mk (blk_below (g := gb258) (o := .cells #[.int .i64 a1_0, .bool false, .slice A1_2 l1_2.length c1_2] 24 (0, 0)) (by (with_reducible repeat (first | refine blk_drewN ?_ _ | refine blk_drew ?_ | refine blk_alloc ?_ _)); exact BK258.out) hb); have n1_ := Aside0.mk (below_step (by repeat (first | (with_reducible first | exact HB.out | apply below_alloc | apply pw_below_drewN | apply below_drew1 | refine below_set ?_ GE258.out) | exact HB.out)) hb); have n2_ := Aside0.mk (hbox); have n3_ := Aside0.mk ((by rw [hg]; exact (below_size (by repeat (first | (with_reducible first | exact HB.out | apply below_alloc | apply pw_below_drewN | apply below_drew1 | refine below_set ?_ GE258.out) | exact HB.out))) : w.heap.size ≤ gb259)); have n4_ := Aside0.mk ((by rw [hg]; exact (below_size (by repeat (first | (with_reducible first | exact HB.out | apply below_alloc | apply pw_below_drewN | apply below_drew1 | refine below_set ?_ GE258.out) | exact HB.out))) : w.heap.size ≤ gb259)); have n5_ := Aside0.mk ((by rw [hg]; exact Nat.ne_of_lt (blk_lt (g := gb258) (o := .cells #[.int .i64 a1_0, .bool false, .slice A1_2 l1_2.length c1_2] 24 (0, 0)) (by (with_reducible repeat (first | refine blk_drewN ?_ _ | refine blk_drew ?_ | refine blk_alloc ?_ _)); exact BK258.out)) : gb258 ≠ gb259)); have n6_ := Aside0.mk ((by rw [hg]; exact Nat.ne_of_gt (blk_lt (g := gb258) (o := .cells #[.int .i64 a1_0, .bool false, .slice A1_2 l1_2.length c1_2] 24 (0, 0)) (by (with_reducible repeat (first | refine blk_drewN ?_ _ | refine blk_drew ?_ | refine blk_alloc ?_ _)); exact BK258.out)) : gb259 ≠ gb258)); clear BK258; clear HB; have BK258 := n0_; have HB := n1_; have BK259 := n2_; have GW259 := n3_; have GE259 := n4_; have NB258_259 := n5_; have NB259_258 := n6_; clear n0_ n1_ n2_ n3_ n4_ n5_ n6_; clear hb hbox hg; have hnb16 := NB258_259.out; have hnc16 := NB259_258.out; obtain ⟨hcz17_0, hcz17_1, hcz17_2⟩ := cel3 BK258.out; obtain ⟨hfz17_0, hfz17_1, hfz17_2⟩ := frz3 BK258.out) | (go_at_call 11; (with_reducible refine (masterdiscref14_Valid.calls a0 a1_0 false _ _ l1_2 true _ ?side1 ?side2 A4.out).mono ?_); (case side1 => repeat (first | exact (Kd.C_below HR1_2.out HB.out) | (with_reducible refine Kd.C_alloc ?_ _) | (with_reducible refine Kd.C_drewN ?_ _) | (with_reducible refine Kd.C_drew ?_))); (case side2 => exact HC1_2.out); rintro e w18 ⟨rfl, hb⟩; have n0_ := Aside0.mk (blk_below (g := gb258) (o := .cells #[.int .i64 a1_0, .bool false, .slice A1_2 l1_2.length c1_2] 24 (0, 0)) (by (with_reducible repeat (first | refine blk_drewN ?_ _ | refine blk_drew ?_ | refine blk_alloc ?_ _)); exact BK258.out) hb); have n1_ := Aside0.mk (blk_below (g := gb259) (o := .cells #[.int .i64 0, .bool false, .slice none 0 0] 24 (0, 0)) (by (with_reducible repeat (first | refine blk_drewN ?_ _ | refine blk_drew ?_ | refine blk_alloc ?_ _)); exact BK259.out) hb); have n2_ := Aside0.mk (below_step (by repeat (first | (with_reducible first | exact HB.out | apply below_alloc | apply pw_below_drewN | apply below_drew1 | refine below_set ?_ GE258.out | refine below_set ?_ GE259.out) | exact HB.out)) hb); clear BK258; clear BK259; clear HB; have BK258 := n0_; have BK259 := n1_; have HB := n2_; clear n0_ n1_ n2_; (try clear hb); (try clear hb2); (try clear hk); (try clear hi); obtain ⟨hcz19_0, hcz19_1, hcz19_2⟩ := cel3 BK258.out; obtain ⟨hfz19_0, hfz19_1, hfz19_2⟩ := frz3 BK258.out))
     repeat (go_quiet (first | ((with_reducible refine gate_dst (N := 4) rfl ?_); refine box_event ?hg (N := 4) ?hd (cs := #[.int .i64 a1_0, .bool false, .slice A1_2 l1_2.length c1_2]) (t := 24) ?hr ?_; (case hd => rfl); (case hg => rfl); (case hr => first | (go_simp; done) | (go_simp; rfl)); intro gb258 hg w14 hbox hb; have n0_ := Aside0.mk (below_step (by repeat (first | (with_reducible first | exact HB.out | apply below_alloc | apply pw_below_drewN | apply below_drew1) | exact HB.out)) hb); have n1_ := Aside0.mk (hbox); have n2_ := Aside0.mk ((by rw [hg]; exact (below_size (by repeat (first | (with_reducible first | exact HB.out | apply below_alloc | apply pw_below_drewN | apply below_drew1) | exact HB.out))) : w.heap.size ≤ gb258)); have n3_ := Aside0.mk ((by rw [hg]; exact (below_size (by repeat (first | (with_reducible first | exact HB.out | apply below_alloc | apply pw_below_drewN | apply below_drew1) | exact HB.out))) : w.heap.size ≤ gb258)); clear HB; have HB := n0_; have BK258 := n1_; have GW258 := n2_; have GE258 := n3_; clear n0_ n1_ n2_ n3_; clear hb hbox hg) | ((with_reducible refine gate_dst (N := 6) rfl ?_); refine box_event ?hg (N := 6) ?hd (cs := #[.int .i64 0, .bool false, .slice none 0 0]) (t := 24) ?hr ?_; (case hd => rfl); (case hg => rfl); (case hr => first | (go_simp; done) | (go_simp; rfl)); intro gb259 hg w15 hbox hb; have n0_ := Aside0.mk (blk_below (g := gb258) (o := .cells #[.int .i64 a1_0, .bool false, .slice A1_2 l1_2.length c1_2] 24 (0, 0)) (by (with_reducible repeat (first | refine blk_drewN ?_ _ | refine blk_drew ?_ | refine blk_alloc ?_ _)); exact BK258.out) hb); have n1_ := Aside0.mk (below_step (by repeat (first | (with_reducible first | exact HB.out | apply below_alloc | apply pw_below_drewN | apply below_drew1 | refine below_set ?_ GE258.out) | exact HB.out)) hb); have n2_ := Aside0.mk (hbox); have n3_ := Aside0.mk ((by rw [hg]; exact (below_size (by repeat (first | (with_reducible first | exact HB.out | apply below_alloc | apply pw_below_drewN | apply below_drew1 | refine below_set ?_ GE258.out) | exact HB.out))) : w.heap.size ≤ gb259)); have n4_ := Aside0.mk ((by rw [hg]; exact (below_size (by repeat (first | (with_reducible first | exact HB.out | apply below_alloc | apply pw_below_drewN | apply below_drew1 | refine below_set ?_ GE258.out) | exact HB.out))) : w.heap.size ≤ gb259)); have n5_ := Aside0.mk ((by rw [hg]; exact Nat.ne_of_lt (blk_lt (g := gb258) (o := .cells #[.int .i64 a1_0, .bool false, .slice A1_2 l1_2.length c1_2] 24 (0, 0)) (by (with_reducible repeat (first | refine blk_drewN ?_ _ | refine blk_drew ?_ | refine blk_alloc ?_ _)); exact BK258.out)) : gb258 ≠ gb259)); have n6_ := Aside0.mk ((by rw [hg]; exact Nat.ne_of_gt (blk_lt (g := gb258) (o := .cells #[.int .i64 a1_0, .bool false, .slice A1_2 l1_2.length c1_2] 24 (0, 0)) (by (with_reducible repeat (first | refine blk_drewN ?_ _ | refine blk_drew ?_ | refine blk_alloc ?_ _)); exact BK258.out)) : gb259 ≠ gb258)); clear BK258; clear HB; have BK258 := n0_; have HB := n1_; have BK259 := n2_; have GW259 := n3_; have GE259 := n4_; have NB258_259 := n5_; have NB259_258 := n6_; clear n0_ n1_ n2_ n3_ n4_ n5_ n6_; clear hb hbox hg; have hnb16 := NB258_259.out; have hnc16 := NB259_258.out; obtain ⟨hcz17_0, hcz17_1, hcz17_2⟩ := cel3 BK258.out; obtain ⟨hfz17_0, hfz17_1, hfz17_2⟩ := frz3 BK258.out) | (go_at_call 11; (with_reducible refine (masterdiscref14_Valid.calls a0 a1_0 false _ _ l1_2 true _ ?side1 ?side2 A4.out).mono ?_); (case side1 => repeat (first | exact (Kd.C_below HR1_2.out HB.out) | (with_reducible refine Kd.C_alloc ?_ _) | (with_reducible refine Kd.C_drewN ?_ _) | (with_reducible refine Kd.C_drew ?_))); (case side2 => exact HC1_2.out); rintro e w18 ⟨rfl, hb⟩; have n0_ := Aside0.mk (blk_below (g := gb258) (o := .cells #[.int .i64 a1_0, .bool false, .slice A1_2 l1_2.length c1_2] 24 (0, 0)) (by (with_reducible repeat (first | refine blk_drewN ?_ _ | refine blk_drew ?_ | refine blk_alloc ?_ _)); exact BK258.out) hb); have n1_ := Aside0.mk (blk_below (g := gb259) (o := .cells #[.int .i64 0, .bool false, .slice none 0 0] 24 (0, 0)) (by (with_reducible repeat (first | refine blk_drewN ?_ _ | refine blk_drew ?_ | refine blk_alloc ?_ _)); exact BK259.out) hb); have n2_ := Aside0.mk (below_step (by repeat (first | (with_reducible first | exact HB.out | apply below_alloc | apply pw_below_drewN | apply below_drew1 | refine below_set ?_ GE258.out | refine below_set ?_ GE259.out) | exact HB.out)) hb); clear BK258; clear BK259; clear HB; have BK258 := n0_; have BK259 := n1_; have HB := n2_; clear n0_ n1_ n2_; (try clear hb); (try clear hb2); (try clear hk); (try clear hi); obtain ⟨hcz19_0, hcz19_1, hcz19_2⟩ := cel3 BK258.out; obtain ⟨hfz19_0, hfz19_1, hfz19_2⟩ := frz3 BK258.out)); try go_wp2_with (first | ((with_reducible refine gate_dst (N := 4) rfl ?_); refine box_event ?hg (N := 4) ?hd (cs := #[.int .i64 a1_0, .bool false, .slice A1_2 l1_2.length c1_2]) (t := 24) ?hr ?_; (case hd => rfl); (case hg => rfl); (case hr => first | (go_simp; done) | (go_simp; rfl)); intro gb258 hg w14 hbox hb; have n0_ := Aside0.mk (below_step (by repeat (first | (with_reducible first | exact HB.out | apply below_alloc | apply pw_below_drewN | apply below_drew1) | exact HB.out)) hb); have n1_ := Aside0.mk (hbox); have n2_ := Aside0.mk ((by rw [hg]; exact (below_size (by repeat (first | (with_reducible first | exact HB.out | apply below_alloc | apply pw_below_drewN | apply below_drew1) | exact HB.out))) : w.heap.size ≤ gb258)); have n3_ := Aside0.mk ((by rw [hg]; exact (below_size (by repeat (first | (with_reducible first | exact HB.out | apply below_alloc | apply pw_below_drewN | apply below_drew1) | exact HB.out))) : w.heap.size ≤ gb258)); clear HB; have HB := n0_; have BK258 := n1_; have GW258 := n2_; have GE258 := n3_; clear n0_ n1_ n2_ n3_; clear hb hbox hg) | ((with_reducible refine gate_dst (N := 6) rfl ?_); refine box_event ?hg (N := 6) ?hd (cs := #[.int .i64 0, .bool false, .slice none 0 0]) (t := 24) ?hr ?_; (case hd => rfl); (case hg => rfl); (case hr => first | (go_simp; done) | (go_simp; rfl)); intro gb259 hg w15 hbox hb; have n0_ := Aside0.mk (blk_below (g := gb258) (o := .cells #[.int .i64 a1_0, .bool false, .slice A1_2 l1_2.length c1_2] 24 (0, 0)) (by (with_reducible repeat (first | refine blk_drewN ?_ _ | refine blk_drew ?_ | refine blk_alloc ?_ _)); exact BK258.out) hb); have n1_ := Aside0.mk (below_step (by repeat (first | (with_reducible first | exact HB.out | apply below_alloc | apply pw_below_drewN | apply below_drew1 | refine below_set ?_ GE258.out) | exact HB.out)) hb); have n2_ := Aside0.mk (hbox); have n3_ := Aside0.mk ((by rw [hg]; exact (below_size (by repeat (first | (with_reducible first | exact HB.out | apply below_alloc | apply pw_below_drewN | apply below_drew1 | refine below_set ?_ GE258.out) | exact HB.out))) : w.heap.size ≤ gb259)); have n4_ := Aside0.mk ((by rw [hg]; exact (below_size (by repeat (first | (with_reducible first | exact HB.out | apply below_alloc | apply pw_below_drewN | apply below_drew1 | refine below_set ?_ GE258.out) | exact HB.out))) : w.heap.size ≤ gb259)); have n5_ := Aside0.mk ((by rw [hg]; exact Nat.ne_of_lt (blk_lt (g := gb258) (o := .cells #[.int .i64 a1_0, .bool false, .slice A1_2 l1_2.length c1_2] 24 (0, 0)) (by (with_reducible repeat (first | refine blk_drewN ?_ _ | refine blk_drew ?_ | refine blk_alloc ?_ _)); exact BK258.out)) : gb258 ≠ gb259)); have n6_ := Aside0.mk ((by rw [hg]; exact Nat.ne_of_gt (blk_lt (g := gb258) (o := .cells #[.int .i64 a1_0, .bool false, .slice A1_2 l1_2.length c1_2] 24 (0, 0)) (by (with_reducible repeat (first | refine blk_drewN ?_ _ | refine blk_drew ?_ | refine blk_alloc ?_ _)); exact BK258.out)) : gb259 ≠ gb258)); clear BK258; clear HB; have BK258 := n0_; have HB := n1_; have BK259 := n2_; have GW259 := n3_; have GE259 := n4_; have NB258_259 := n5_; have NB259_258 := n6_; clear n0_ n1_ n2_ n3_ n4_ n5_ n6_; clear hb hbox hg; have hnb16 := NB258_259.out; have hnc16 := NB259_258.out; obtain ⟨hcz17_0, hcz17_1, hcz17_2⟩ := cel3 BK258.out; obtain ⟨hfz17_0, hfz17_1, hfz17_2⟩ := frz3 BK258.out) | (go_at_call 11; (with_reducible refine (masterdiscref14_Valid.calls a0 a1_0 false _ _ l1_2 true _ ?side1 ?side2 A4.out).mono ?_); (case side1 => repeat (first | exact (Kd.C_below HR1_2.out HB.out) | (with_reducible refine Kd.C_alloc ?_ _) | (with_reducible refine Kd.C_drewN ?_ _) | (with_reducible refine Kd.C_drew ?_))); (case side2 => exact HC1_2.out); rintro e w18 ⟨rfl, hb⟩; have n0_ := Aside0.mk (blk_below (g := gb258) (o := .cells #[.int .i64 a1_0, .bool false, .slice A1_2 l1_2.length c1_2] 24 (0, 0)) (by (with_reducible repeat (first | refine blk_drewN ?_ _ | refine blk_drew ?_ | refine blk_alloc ?_ _)); exact BK258.out) hb); have n1_ := Aside0.mk (blk_below (g := gb259) (o := .cells #[.int .i64 0, .bool false, .slice none 0 0] 24 (0, 0)) (by (with_reducible repeat (first | refine blk_drewN ?_ _ | refine blk_drew ?_ | refine blk_alloc ?_ _)); exact BK259.out) hb); have n2_ := Aside0.mk (below_step (by repeat (first | (with_reducible first | exact HB.out | apply below_alloc | apply pw_below_drewN | apply below_drew1 | refine below_set ?_ GE258.out | refine below_set ?_ GE259.out) | exact HB.out)) hb); clear BK258; clear BK259; clear HB; have BK258 := n0_; have BK259 := n1_; have HB := n2_; clear n0_ n1_ n2_; (try clear hb); (try clear hb2); (try clear hk); (try clear hi); obtain ⟨hcz19_0, hcz19_1, hcz19_2⟩ := cel3 BK258.out; obtain ⟨hfz19_0, hfz19_1, hfz19_2⟩ := frz3 BK258.out)))
     go_loopg [8, 9] k (fun kq v8 v9 w' => ∃ (x8_1 : Int) (x9_1 : Int) (x260000_1 : Int) (x260001_1 : Bool), v8 = .int .i64 x8_1 ∧ v9 = .int .i64 x9_1 ∧ Aside0 (masterdiscref14_CloseSession.l0 kq a2 x8_1 x9_1 a1_0 false l1_2 = some (r1, r2, r3, r4)) ∧ Aside0 (kq ≤ k) ∧ Aside0 (w'.heap[gb258]? = some (.cells #[.int .i64 a1_0, .bool false, (.slice A1_2 l1_2.length c1_2)] 24 (0, 0))) ∧ Aside0 (w'.heap[gb259]? = some (.cells #[.int .i64 x260000_1, .bool x260001_1, (.slice none 0 0)] 24 (0, 0))) ∧ Aside0 (Below w.heap.size w w'))
     case atStart => exact ⟨(0), (0), (0), (false), (by first | rfl | (simp; done) | (simp [*]; done)), (by first | rfl | (simp; done) | (simp [*]; done)), H', ⟨Nat.le_refl _⟩, ⟨by (with_reducible repeat (first | refine blk_drewN ?_ _ | refine blk_drew ?_ | refine blk_alloc ?_ _)); exact BK258.out⟩, ⟨by (with_reducible repeat (first | refine blk_drewN ?_ _ | refine blk_drew ?_ | refine blk_alloc ?_ _)); exact BK259.out⟩, ⟨by repeat (first | (with_reducible first | exact HB.out | apply below_alloc | apply pw_below_drewN | apply below_drew1 | refine below_set ?_ GE258.out | refine below_set ?_ GE259.out) | exact HB.out)⟩⟩
     case round =>
      clear H'
      try clear c1
      try clear c2
      try clear p2
      try clear c5
      try clear c6
      try clear c9
      try clear c16
      try clear hcz10_0
      try clear hcz10_1
      try clear hcz10_2
      try clear hcz12_0
      try clear hcz12_1
      try clear hcz12_2
      try clear hcz13_0
      try clear hcz13_1
      try clear hcz13_2
      try clear hcz17_0
      try clear hcz17_1
      try clear hcz17_2
      try clear hcz19_0
      try clear hcz19_1
      try clear hcz19_2
      try clear hfz10_0
      try clear hfz10_1
      try clear hfz10_2
      try clear hfz12_0
      try clear hfz12_1
      try clear hfz12_2
      try clear hfz13_0
      try clear hfz13_1
      try clear hfz13_2
      try clear hfz17_0
      try clear hfz17_1
      try clear hfz17_2
      try clear hfz19_0
      try clear hfz19_1
      try clear hfz19_2
      obtain ⟨x8_1, x9_1, x260000_1, x260001_1, rfl, rfl, HA, HK1, BK258, BK259, HB⟩ := hrel
      cases gk with
      | zero => exact absurd HA.out (by simp [masterdiscref14_CloseSession.l0])
      | succ k1 =>
       have H := HA.out
       clear HA
       simp only [masterdiscref14_CloseSession.l0] at H
       by_cases c20 : x9_1 < (l1_2.length : Int)
       · rw [if_pos c20] at H
         have c20b0 : decide (x9_1 < (l1_2.length : Int)) = true := decide_eq_true c20
         clear c20
         by_cases c21 : 0 ≤ x9_1
         · rw [if_pos c21] at H
           have c21b0 : decide (0 ≤ x9_1) = true := decide_eq_true c21
           clear c21
           by_cases c22 : ((rd_T40 l1_2 x9_1).f5) = 2
           · rw [if_pos c22] at H
             have c22b0 : (((rd_T40 l1_2 x9_1).f5) == 2) = true := beq_iff_eq.mpr c22
             have c22b1 : (((rd_T40 l1_2 x9_1).f5) != 2) = false := bne_eq_false_iff_eq.mpr c22
             clear c22
             by_cases c23 : ((rd_T40 l1_2 x9_1).f1) > a1_0
             · rw [if_pos c23] at H
               have c23b0 : decide (a1_0 < ((rd_T40 l1_2 x9_1).f1)) = true := decide_eq_true c23
               clear c23
               have H' := Aside0.mk H
               clear H
               have hnb24 := NB258_259.out
               have hnc24 := NB259_258.out
               obtain ⟨hcz25_0, hcz25_1, hcz25_2⟩ := cel3 BK258.out
               obtain ⟨hfz25_0, hfz25_1, hfz25_2⟩ := frz3 BK258.out
               have p261 : 0 ≤ (x9_1 : Int) := of_decide_eq_true (by first | (with_reducible assumption) | assumption)
               have q261 : x9_1 < (l1_2.length : Int) := of_decide_eq_true (by first | (with_reducible assumption) | assumption)
               obtain ⟨ad261, e261, hx261_0, hx261_1, hx261_2, hx261_3, hx261_4, hx261_5, hx261_6⟩ := at_T40 HR1_2.out x9_1 p261 q261
               cases e261
               replace hx261_0 := upc HB.out hx261_0
               replace hx261_1 := upc HB.out hx261_1
               replace hx261_2 := upc HB.out hx261_2
               replace hx261_3 := upc HB.out hx261_3
               replace hx261_4 := upc HB.out hx261_4
               replace hx261_5 := upc HB.out hx261_5
               replace hx261_6 := upc HB.out hx261_6
               replace p261 := eq_true p261
               replace q261 := eq_true q261
               have p262 : 0 ≤ (x9_1 : Int) := of_decide_eq_true (by first | (with_reducible assumption) | assumption)
               have q262 : x9_1 < (l1_2.length : Int) := of_decide_eq_true (by first | (with_reducible assumption) | assumption)
               obtain ⟨ad262, e262, hx262_0, hx262_1, hx262_2, hx262_3, hx262_4, hx262_5, hx262_6⟩ := at_T40 HR1_2.out x9_1 p262 q262
               obtain rfl : ad261 = ad262 := (by injection e262)
               replace hx262_0 := upc HB.out hx262_0
               replace hx262_1 := upc HB.out hx262_1
               replace hx262_2 := upc HB.out hx262_2
               replace hx262_3 := upc HB.out hx262_3
               replace hx262_4 := upc HB.out hx262_4
               replace hx262_5 := upc HB.out hx262_5
               replace hx262_6 := upc HB.out hx262_6
               replace p262 := eq_true p262
               replace q262 := eq_true q262
               go_wp2
               repeat (go_quiet (fail); try go_wp2)
               go_roundg k1
               case measure => have := HK1.out; omega
               case rel => exact ⟨(wrap64 (x8_1 + 1)), (wrap64 (x9_1 + 1)), (x260000_1), (x260001_1), (by first | rfl | (simp; done) | (simp [*]; done)), (by first | rfl | (simp; done) | (simp [*]; done)), H', ⟨by have := HK1.out; omega⟩, ⟨by (with_reducible repeat (first | refine blk_drewN ?_ _ | refine blk_drew ?_ | refine blk_alloc ?_ _)); exact BK258.out⟩, ⟨by (with_reducible repeat (first | refine blk_drewN ?_ _ | refine blk_drew ?_ | refine blk_alloc ?_ _)); exact BK259.out⟩, ⟨by repeat (first | (with_reducible first | exact HB.out | apply below_alloc | apply pw_below_drewN | apply below_drew1 | refine below_set ?_ GE258.out | refine below_set ?_ GE259.out) | exact HB.out)⟩⟩
             · rw [if_neg c23] at H
               have c23b0 : decide (a1_0 < ((rd_T40 l1_2 x9_1).f1)) = false := decide_eq_false c23
               clear c23
               have H' := Aside0.mk H
               clear H
               have hnb26 := NB258_259.out
               have hnc26 := NB259_258.out
               obtain ⟨hcz27_0, hcz27_1, hcz27_2⟩ := cel3 BK258.out
               obtain ⟨hfz27_0, hfz27_1, hfz27_2⟩ := frz3 BK258.out
               have p261 : 0 ≤ (x9_1 : Int) := of_decide_eq_true (by first | (with_reducible assumption) | assumption)
               have q261 : x9_1 < (l1_2.length : Int) := of_decide_eq_true (by first | (with_reducible assumption) | assumption)
               obtain ⟨ad261, e261, hx261_0, hx261_1, hx261_2, hx261_3, hx261_4, hx261_5, hx261_6⟩ := at_T40 HR1_2.out x9_1 p261 q261
               cases e261
               replace hx261_0 := upc HB.out hx261_0
               replace hx261_1 := upc HB.out hx261_1
               replace hx261_2 := upc HB.out hx261_2
               replace hx261_3 := upc HB.out hx261_3
               replace hx261_4 := upc HB.out hx261_4
               replace hx261_5 := upc HB.out hx261_5
               replace hx261_6 := upc HB.out hx261_6
               replace p261 := eq_true p261
               replace q261 := eq_true q261
               have p262 : 0 ≤ (x9_1 : Int) := of_decide_eq_true (by first | (with_reducible assumption) | assumption)
               have q262 : x9_1 < (l1_2.length : Int) := of_decide_eq_true (by first | (with_reducible assumption) | assumption)
               obtain ⟨ad262, e262, hx262_0, hx262_1, hx262_2, hx262_3, hx262_4, hx262_5, hx262_6⟩ := at_T40 HR1_2.out x9_1 p262 q262
               obtain rfl : ad261 = ad262 := (by injection e262)
               replace hx262_0 := upc HB.out hx262_0
               replace hx262_1 := upc HB.out hx262_1
               replace hx262_2 := upc HB.out hx262_2
               replace hx262_3 := upc HB.out hx262_3
               replace hx262_4 := upc HB.out hx262_4
               replace hx262_5 := upc HB.out hx262_5
               replace hx262_6 := upc HB.out hx262_6
               replace p262 := eq_true p262
               replace q262 := eq_true q262
               go_wp2
               repeat (go_quiet (fail); try go_wp2)
               go_roundg k1
               case measure => have := HK1.out; omega
               case rel => exact ⟨(x8_1), (wrap64 (x9_1 + 1)), (x260000_1), (x260001_1), (by first | rfl | (simp; done) | (simp [*]; done)), (by first | rfl | (simp; done) | (simp [*]; done)), H', ⟨by have := HK1.out; omega⟩, ⟨by (with_reducible repeat (first | refine blk_drewN ?_ _ | refine blk_drew ?_ | refine blk_alloc ?_ _)); exact BK258.out⟩, ⟨by (with_reducible repeat (first | refine blk_drewN ?_ _ | refine blk_drew ?_ | refine blk_alloc ?_ _)); exact BK259.out⟩, ⟨by repeat (first | (with_reducible first | exact HB.out | apply below_alloc | apply pw_below_drewN | apply below_drew1 | refine below_set ?_ GE258.out | refine below_set ?_ GE259.out) | exact HB.out)⟩⟩
           · rw [if_neg c22] at H
             have c22b0 : (((rd_T40 l1_2 x9_1).f5) == 2) = false := beq_eq_false_iff_ne.mpr c22
             have c22b1 : (((rd_T40 l1_2 x9_1).f5) != 2) = true := bne_iff_ne.mpr c22
             simp only [Option.some.injEq, Prod.mk.injEq] at H
             obtain ⟨rfl, rfl, rfl, rfl⟩ := H
             have hnb28 := NB258_259.out
             have hnc28 := NB259_258.out
             obtain ⟨hcz29_0, hcz29_1, hcz29_2⟩ := cel3 BK258.out
             obtain ⟨hfz29_0, hfz29_1, hfz29_2⟩ := frz3 BK258.out
             have p261 : 0 ≤ (x9_1 : Int) := of_decide_eq_true (by first | (with_reducible assumption) | assumption)
             have q261 : x9_1 < (l1_2.length : Int) := of_decide_eq_true (by first | (with_reducible assumption) | assumption)
             obtain ⟨ad261, e261, hx261_0, hx261_1, hx261_2, hx261_3, hx261_4, hx261_5, hx261_6⟩ := at_T40 HR1_2.out x9_1 p261 q261
             cases e261
             replace hx261_0 := upc HB.out hx261_0
             replace hx261_1 := upc HB.out hx261_1
             replace hx261_2 := upc HB.out hx261_2
             replace hx261_3 := upc HB.out hx261_3
             replace hx261_4 := upc HB.out hx261_4
             replace hx261_5 := upc HB.out hx261_5
             replace hx261_6 := upc HB.out hx261_6
             replace p261 := eq_true p261
             replace q261 := eq_true q261
             obtain ⟨hcz30_0, hcz30_1, hcz30_2⟩ := cel3 BK259.out
             obtain ⟨hfz30_0, hfz30_1, hfz30_2⟩ := frz3 BK259.out
             go_wp2
             repeat (go_quiet (fail); try go_wp2)
             refine bodyPost_ret (results_ct rfl _ _ gb259 24 #[.int .i64 0, .bool false, .slice none 0 0] (0, 0) _ rfl (by (with_reducible repeat (first | refine blk_drewN ?_ _ | refine blk_drew ?_ | refine blk_alloc ?_ _)); refine blk_put (cs := #[.int .i64 0, .bool false, .slice none 0 0]) ?_ 2 _ rfl; (with_reducible repeat (first | refine blk_drewN ?_ _ | refine blk_drew ?_ | refine blk_alloc ?_ _)); refine blk_put (cs := #[.int .i64 0, .bool x260001_1, .slice none 0 0]) ?_ 1 _ rfl; (with_reducible repeat (first | refine blk_drewN ?_ _ | refine blk_drew ?_ | refine blk_alloc ?_ _)); refine blk_put (cs := #[.int .i64 x260000_1, .bool x260001_1, .slice none 0 0]) ?_ 0 _ rfl; (with_reducible repeat (first | refine blk_drewN ?_ _ | refine blk_drew ?_ | refine blk_alloc ?_ _)); exact BK259.out) Try.underlying24 rfl (by kernel_rfl)) rfl ?_
             exact ⟨_, by first | rfl | (simp [errW_none, errW_some] <;> rfl) | (simp [*, errW_none, errW_some] <;> rfl), by first | exact Kd.R_nil _ _ _ _ _ | exact Kd.N_nil _ _ _ _ _ | exact Kd.V_nil _ _ _ _ _ | exact Kd.Q_nil _ _ _ _ _ | exact Kd.S_nil _ _ _ _ _, by repeat (first | (with_reducible first | exact HB.out | apply below_alloc | apply pw_below_drewN | apply below_drew1 | refine below_set ?_ GE258.out | refine below_set ?_ GE259.out) | exact HB.out)⟩
         · rw [if_neg c21] at H
           exact absurd H (by simp)
       · rw [if_neg c20] at H
         have c20b0 : decide (x9_1 < (l1_2.length : Int)) = false := decide_eq_false c20
         clear c20
         obtain ⟨y263, hy263⟩ : ∃ y_ : List (S40), y_ = (([] : List (S40))) := ⟨_, rfl⟩
         replace H : (if y263.length + l1_2.length < 2513169434916 then ((some (y263 ++ l1_2 : List (S40))).bind fun y266 => (if x8_1 = 0 then (if a2 = true then (masterdiscref14_CloseSession.j1 k1 (a1_0 == 0) a1_0 false y266) else (masterdiscref14_CloseSession.j1 k1 true a1_0 false y266)) else (some (wrap64 (a1_0 + 1), a2, y266, 0)))) else (none)) = some (r1, r2, r3, r4) := by first | (rw [hy263]; with_reducible exact H) | (have H2_ := (Option.bind_some _ _).symm.trans H; rw [hy263]; with_reducible exact H2_) | (have H2_ := (Option.bind_some _ _).symm.trans H; with_reducible exact H2_) | with_reducible exact H | (rw [hy263]; exact H) | exact H
         have Ny263 := Aside0.mk hy263
         clear hy263
         by_cases c31 : y263.length + l1_2.length < 2513169434916
         · rw [if_pos c31] at H
           have LMc31 := Aside0.mk c31
           clear c31
           obtain ⟨y266, hy266⟩ : ∃ y_ : List (S40), y_ = (y263 ++ l1_2) := ⟨_, rfl⟩
           replace H : (if x8_1 = 0 then (if a2 = true then (masterdiscref14_CloseSession.j1 k1 (a1_0 == 0) a1_0 false y266) else (masterdiscref14_CloseSession.j1 k1 true a1_0 false y266)) else (some (wrap64 (a1_0 + 1), a2, y266, 0))) = some (r1, r2, r3, r4) := by first | (rw [hy266]; with_reducible exact H) | (have H2_ := (Option.bind_some _ _).symm.trans H; rw [hy266]; with_reducible exact H2_) | (have H2_ := (Option.bind_some _ _).symm.trans H; with_reducible exact H2_) | with_reducible exact H | (rw [hy266]; exact H) | exact H
           have Ny266 := Aside0.mk hy266
           clear hy266
           by_cases c32 : x8_1 = 0
           · rw [if_pos c32] at H
             have c32b0 : (x8_1 == 0) = true := beq_iff_eq.mpr c32
             have c32b1 : (x8_1 != 0) = false := bne_eq_false_iff_eq.mpr c32
             clear c32
             have HC33 := Aside0.mk H
             clear H
             have hnb34 := NB258_259.out
             have hnc34 := NB259_258.out
             obtain ⟨hcz35_0, hcz35_1, hcz35_2⟩ := cel3 BK258.out
             obtain ⟨hfz35_0, hfz35_1, hfz35_2⟩ := frz3 BK258.out
             go_upto_region 15 with (first | ((with_reducible refine gate_dst (N := 44) rfl ?_); refine Kd.R_lit k40 _ 40 ?hg (N := 44) ?hd (xs := ([] : List (S40))) (inner := []) (ok := fun _ => True) (okp := fun _ => True) ?hr ?hp (fun _ hk => hk) trivial (Below.refl _ _) (Nat.le_refl _) (by simp) ?_; (case hd => rfl); (case hg => rfl); (case hr => first | (go_simp; done) | (go_simp; rfl)); (case hp => exact (Reps.none _ _)); intro v264 w36 ho37 hb hg_ hnew_; clear hg_ hnew_; (first | rw [← Ny263.out] at ho37 | (simp only [Int.reduceToNat] at ho37; rw [← Ny263.out] at ho37)); have n0_ := Aside0.mk (Kd.R_lower ho37 (below_size (by repeat (first | (with_reducible first | exact HB.out | apply below_alloc | apply pw_below_drewN | apply below_drew1 | refine below_set ?_ GE258.out | refine below_set ?_ GE259.out) | exact HB.out)))); have n1_ := Aside0.mk (blk_below (g := gb258) (o := .cells #[.int .i64 a1_0, .bool false, .slice A1_2 l1_2.length c1_2] 24 (0, 0)) (by (with_reducible repeat (first | refine blk_drewN ?_ _ | refine blk_drew ?_ | refine blk_alloc ?_ _)); exact BK258.out) hb); have n2_ := Aside0.mk (blk_below (g := gb259) (o := .cells #[.int .i64 x260000_1, .bool x260001_1, .slice none 0 0] 24 (0, 0)) (by (with_reducible repeat (first | refine blk_drewN ?_ _ | refine blk_drew ?_ | refine blk_alloc ?_ _)); exact BK259.out) hb); have n3_ := Aside0.mk (below_step (by repeat (first | (with_reducible first | exact HB.out | apply below_alloc | apply pw_below_drewN | apply below_drew1 | refine below_set ?_ GE258.out | refine below_set ?_ GE259.out) | exact HB.out)) hb); clear BK258; clear BK259; clear HB; have HO265 := n0_; have BK258 := n1_; have BK259 := n2_; have HB := n3_; clear n0_ n1_ n2_ n3_; clear hb ho37; obtain ⟨hcz38_0, hcz38_1, hcz38_2⟩ := cel3 BK258.out; obtain ⟨hfz38_0, hfz38_1, hfz38_2⟩ := frz3 BK258.out) | ((with_reducible refine gate_builtin (b := .append) (xs := #[.tmp 44, .tmp 46]) rfl ?_); at_builtin; refine Kd.R_append_rows k40 (w0 := w) w.heap.size rfl (.tmp 44) (.tmp 46) 22 40 (.agg #[(.int .i64 0), (.int .i64 0), (.int .i64 0), (.int .i64 0), (.int .i64 0), (.int .i64 0), (.int .i64 0)]) 56 rfl Try.underlying22 info40 rfl (by decide) (by omega) v264 y263 l1_2 _ _ _ (fun _ => True) (fun _ => False) rfl rfl ?aO ?aR (fun _ _ h => h) (fun _ h => h.elim) ?aF ?aB ?aS ?aL ?_; (case aR => repeat (first | exact (Kd.C_below HR1_2.out HB.out) | (with_reducible refine Kd.C_alloc ?_ _) | (with_reducible refine Kd.C_drewN ?_ _) | (with_reducible refine Kd.C_drew ?_))); (case aB => exact (by repeat (first | (with_reducible first | exact HB.out | apply below_alloc | apply pw_below_drewN | apply below_drew1 | refine below_set ?_ GE258.out | refine below_set ?_ GE259.out) | exact HB.out))); (case aF => exact (fun _ _ => trivial)); (case aO => exact (by (with_reducible repeat (first | apply Kd.R_alloc | apply Kd.R_drewN | apply Kd.R_drew)); exact HO265.out)); (case aS => exact (below_size (by repeat (first | (with_reducible first | exact HB.out | apply below_alloc | apply pw_below_drewN | apply below_drew1 | refine below_set ?_ GE258.out | refine below_set ?_ GE259.out) | exact HB.out)))); (case aL => have := LMc31.out; omega); intro v267 w39 ho hb hg hat; rw [← Ny266.out] at ho; have n0_ := Aside0.mk (blk_grown (g := gb258) (o := .cells #[.int .i64 a1_0, .bool false, .slice A1_2 l1_2.length c1_2] 24 (0, 0)) (by (with_reducible repeat (first | refine blk_drewN ?_ _ | refine blk_drew ?_ | refine blk_alloc ?_ _)); exact BK258.out) hg (Kd.R_ne HO265.out BK258.out (by decide))); have n1_ := Aside0.mk (blk_grown (g := gb259) (o := .cells #[.int .i64 x260000_1, .bool x260001_1, .slice none 0 0] 24 (0, 0)) (by (with_reducible repeat (first | refine blk_drewN ?_ _ | refine blk_drew ?_ | refine blk_alloc ?_ _)); exact BK259.out) hg (Kd.R_ne HO265.out BK259.out (by decide))); have n2_ := Aside0.mk (hb); have n3_ := Aside0.mk (ho); clear BK258; clear BK259; clear HB; clear HO265; have BK258 := n0_; have BK259 := n1_; have HB := n2_; have HO268 := n3_; clear n0_ n1_ n2_ n3_; clear ho hb hg hat; obtain ⟨Ao40, co40, eo40⟩ := Kd.R_slice HO268.out; subst eo40; obtain ⟨hcz41_0, hcz41_1, hcz41_2⟩ := cel3 BK258.out; obtain ⟨hfz41_0, hfz41_1, hfz41_2⟩ := frz3 BK258.out))
             repeat (go_quiet (first | ((with_reducible refine gate_dst (N := 44) rfl ?_); refine Kd.R_lit k40 _ 40 ?hg (N := 44) ?hd (xs := ([] : List (S40))) (inner := []) (ok := fun _ => True) (okp := fun _ => True) ?hr ?hp (fun _ hk => hk) trivial (Below.refl _ _) (Nat.le_refl _) (by simp) ?_; (case hd => rfl); (case hg => rfl); (case hr => first | (go_simp; done) | (go_simp; rfl)); (case hp => exact (Reps.none _ _)); intro v264 w36 ho37 hb hg_ hnew_; clear hg_ hnew_; (first | rw [← Ny263.out] at ho37 | (simp only [Int.reduceToNat] at ho37; rw [← Ny263.out] at ho37)); have n0_ := Aside0.mk (Kd.R_lower ho37 (below_size (by repeat (first | (with_reducible first | exact HB.out | apply below_alloc | apply pw_below_drewN | apply below_drew1 | refine below_set ?_ GE258.out | refine below_set ?_ GE259.out) | exact HB.out)))); have n1_ := Aside0.mk (blk_below (g := gb258) (o := .cells #[.int .i64 a1_0, .bool false, .slice A1_2 l1_2.length c1_2] 24 (0, 0)) (by (with_reducible repeat (first | refine blk_drewN ?_ _ | refine blk_drew ?_ | refine blk_alloc ?_ _)); exact BK258.out) hb); have n2_ := Aside0.mk (blk_below (g := gb259) (o := .cells #[.int .i64 x260000_1, .bool x260001_1, .slice none 0 0] 24 (0, 0)) (by (with_reducible repeat (first | refine blk_drewN ?_ _ | refine blk_drew ?_ | refine blk_alloc ?_ _)); exact BK259.out) hb); have n3_ := Aside0.mk (below_step (by repeat (first | (with_reducible first | exact HB.out | apply below_alloc | apply pw_below_drewN | apply below_drew1 | refine below_set ?_ GE258.out | refine below_set ?_ GE259.out) | exact HB.out)) hb); clear BK258; clear BK259; clear HB; have HO265 := n0_; have BK258 := n1_; have BK259 := n2_; have HB := n3_; clear n0_ n1_ n2_ n3_; clear hb ho37; obtain ⟨hcz38_0, hcz38_1, hcz38_2⟩ := cel3 BK258.out; obtain ⟨hfz38_0, hfz38_1, hfz38_2⟩ := frz3 BK258.out) | ((with_reducible refine gate_builtin (b := .append) (xs := #[.tmp 44, .tmp 46]) rfl ?_); at_builtin; refine Kd.R_append_rows k40 (w0 := w) w.heap.size rfl (.tmp 44) (.tmp 46) 22 40 (.agg #[(.int .i64 0), (.int .i64 0), (.int .i64 0), (.int .i64 0), (.int .i64 0), (.int .i64 0), (.int .i64 0)]) 56 rfl Try.underlying22 info40 rfl (by decide) (by omega) v264 y263 l1_2 _ _ _ (fun _ => True) (fun _ => False) rfl rfl ?aO ?aR (fun _ _ h => h) (fun _ h => h.elim) ?aF ?aB ?aS ?aL ?_; (case aR => repeat (first | exact (Kd.C_below HR1_2.out HB.out) | (with_reducible refine Kd.C_alloc ?_ _) | (with_reducible refine Kd.C_drewN ?_ _) | (with_reducible refine Kd.C_drew ?_))); (case aB => exact (by repeat (first | (with_reducible first | exact HB.out | apply below_alloc | apply pw_below_drewN | apply below_drew1 | refine below_set ?_ GE258.out | refine below_set ?_ GE259.out) | exact HB.out))); (case aF => exact (fun _ _ => trivial)); (case aO => exact (by (with_reducible repeat (first | apply Kd.R_alloc | apply Kd.R_drewN | apply Kd.R_drew)); exact HO265.out)); (case aS => exact (below_size (by repeat (first | (with_reducible first | exact HB.out | apply below_alloc | apply pw_below_drewN | apply below_drew1 | refine below_set ?_ GE258.out | refine below_set ?_ GE259.out) | exact HB.out)))); (case aL => have := LMc31.out; omega); intro v267 w39 ho hb hg hat; rw [← Ny266.out] at ho; have n0_ := Aside0.mk (blk_grown (g := gb258) (o := .cells #[.int .i64 a1_0, .bool false, .slice A1_2 l1_2.length c1_2] 24 (0, 0)) (by (with_reducible repeat (first | refine blk_drewN ?_ _ | refine blk_drew ?_ | refine blk_alloc ?_ _)); exact BK258.out) hg (Kd.R_ne HO265.out BK258.out (by decide))); have n1_ := Aside0.mk (blk_grown (g := gb259) (o := .cells #[.int .i64 x260000_1, .bool x260001_1, .slice none 0 0] 24 (0, 0)) (by (with_reducible repeat (first | refine blk_drewN ?_ _ | refine blk_drew ?_ | refine blk_alloc ?_ _)); exact BK259.out) hg (Kd.R_ne HO265.out BK259.out (by decide))); have n2_ := Aside0.mk (hb); have n3_ := Aside0.mk (ho); clear BK258; clear BK259; clear HB; clear HO265; have BK258 := n0_; have BK259 := n1_; have HB := n2_; have HO268 := n3_; clear n0_ n1_ n2_ n3_; clear ho hb hg hat; obtain ⟨Ao40, co40, eo40⟩ := Kd.R_slice HO268.out; subst eo40; obtain ⟨hcz41_0, hcz41_1, hcz41_2⟩ := cel3 BK258.out; obtain ⟨hfz41_0, hfz41_1, hfz41_2⟩ := frz3 BK258.out)); go_upto_region 15 with (first | ((with_reducible refine gate_dst (N := 44) rfl ?_); refine Kd.R_lit k40 _ 40 ?hg (N := 44) ?hd (xs := ([] : List (S40))) (inner := []) (ok := fun _ => True) (okp := fun _ => True) ?hr ?hp (fun _ hk => hk) trivial (Below.refl _ _) (Nat.le_refl _) (by simp) ?_; (case hd => rfl); (case hg => rfl); (case hr => first | (go_simp; done) | (go_simp; rfl)); (case hp => exact (Reps.none _ _)); intro v264 w36 ho37 hb hg_ hnew_; clear hg_ hnew_; (first | rw [← Ny263.out] at ho37 | (simp only [Int.reduceToNat] at ho37; rw [← Ny263.out] at ho37)); have n0_ := Aside0.mk (Kd.R_lower ho37 (below_size (by repeat (first | (with_reducible first | exact HB.out | apply below_alloc | apply pw_below_drewN | apply below_drew1 | refine below_set ?_ GE258.out | refine below_set ?_ GE259.out) | exact HB.out)))); have n1_ := Aside0.mk (blk_below (g := gb258) (o := .cells #[.int .i64 a1_0, .bool false, .slice A1_2 l1_2.length c1_2] 24 (0, 0)) (by (with_reducible repeat (first | refine blk_drewN ?_ _ | refine blk_drew ?_ | refine blk_alloc ?_ _)); exact BK258.out) hb); have n2_ := Aside0.mk (blk_below (g := gb259) (o := .cells #[.int .i64 x260000_1, .bool x260001_1, .slice none 0 0] 24 (0, 0)) (by (with_reducible repeat (first | refine blk_drewN ?_ _ | refine blk_drew ?_ | refine blk_alloc ?_ _)); exact BK259.out) hb); have n3_ := Aside0.mk (below_step (by repeat (first | (with_reducible first | exact HB.out | apply below_alloc | apply pw_below_drewN | apply below_drew1 | refine below_set ?_ GE258.out | refine below_set ?_ GE259.out) | exact HB.out)) hb); clear BK258; clear BK259; clear HB; have HO265 := n0_; have BK258 := n1_; have BK259 := n2_; have HB := n3_; clear n0_ n1_ n2_ n3_; clear hb ho37; obtain ⟨hcz38_0, hcz38_1, hcz38_2⟩ := cel3 BK258.out; obtain ⟨hfz38_0, hfz38_1, hfz38_2⟩ := frz3 BK258.out) | ((with_reducible refine gate_builtin (b := .append) (xs := #[.tmp 44, .tmp 46]) rfl ?_); at_builtin; refine Kd.R_append_rows k40 (w0 := w) w.heap.size rfl (.tmp 44) (.tmp 46) 22 40 (.agg #[(.int .i64 0), (.int .i64 0), (.int .i64 0), (.int .i64 0), (.int .i64 0), (.int .i64 0), (.int .i64 0)]) 56 rfl Try.underlying22 info40 rfl (by decide) (by omega) v264 y263 l1_2 _ _ _ (fun _ => True) (fun _ => False) rfl rfl ?aO ?aR (fun _ _ h => h) (fun _ h => h.elim) ?aF ?aB ?aS ?aL ?_; (case aR => repeat (first | exact (Kd.C_below HR1_2.out HB.out) | (with_reducible refine Kd.C_alloc ?_ _) | (with_reducible refine Kd.C_drewN ?_ _) | (with_reducible refine Kd.C_drew ?_))); (case aB => exact (by repeat (first | (with_reducible first | exact HB.out | apply below_alloc | apply pw_below_drewN | apply below_drew1 | refine below_set ?_ GE258.out | refine below_set ?_ GE259.out) | exact HB.out))); (case aF => exact (fun _ _ => trivial)); (case aO => exact (by (with_reducible repeat (first | apply Kd.R_alloc | apply Kd.R_drewN | apply Kd.R_drew)); exact HO265.out)); (case aS => exact (below_size (by repeat (first | (with_reducible first | exact HB.out | apply below_alloc | apply pw_below_drewN | apply below_drew1 | refine below_set ?_ GE258.out | refine below_set ?_ GE259.out) | exact HB.out)))); (case aL => have := LMc31.out; omega); intro v267 w39 ho hb hg hat; rw [← Ny266.out] at ho; have n0_ := Aside0.mk (blk_grown (g := gb258) (o := .cells #[.int .i64 a1_0, .bool false, .slice A1_2 l1_2.length c1_2] 24 (0, 0)) (by (with_reducible repeat (first | refine blk_drewN ?_ _ | refine blk_drew ?_ | refine blk_alloc ?_ _)); exact BK258.out) hg (Kd.R_ne HO265.out BK258.out (by decide))); have n1_ := Aside0.mk (blk_grown (g := gb259) (o := .cells #[.int .i64 x260000_1, .bool x260001_1, .slice none 0 0] 24 (0, 0)) (by (with_reducible repeat (first | refine blk_drewN ?_ _ | refine blk_drew ?_ | refine blk_alloc ?_ _)); exact BK259.out) hg (Kd.R_ne HO265.out BK259.out (by decide))); have n2_ := Aside0.mk (hb); have n3_ := Aside0.mk (ho); clear BK258; clear BK259; clear HB; clear HO265; have BK258 := n0_; have BK259 := n1_; have HB := n2_; have HO268 := n3_; clear n0_ n1_ n2_ n3_; clear ho hb hg hat; obtain ⟨Ao40, co40, eo40⟩ := Kd.R_slice HO268.out; subst eo40; obtain ⟨hcz41_0, hcz41_1, hcz41_2⟩ := cel3 BK258.out; obtain ⟨hfz41_0, hfz41_1, hfz41_2⟩ := frz3 BK258.out)))
             (try simp only [Act.put, List.setIfInBounds_toArray, List.set_cons_zero, List.set_cons_succ])
             go_cut [57] (fun v57 wc => ∃ (kq : Nat) (x57_32 : Bool), v57 = .bool x57_32 ∧ Aside0 (masterdiscref14_CloseSession.j1 kq x57_32 a1_0 false y266 = some (r1, r2, r3, r4)) ∧ Aside0 (kq ≤ k1) ∧ Aside0 (Kd.R k40 40 wc w.heap.size (fun _ => True) (.slice Ao40 y266.length co40) y266) ∧ Aside0 (wc.heap[gb258]? = some (.cells #[.int .i64 a1_0, .bool false, (.slice Ao40 y266.length co40)] 24 (0, 0))) ∧ Aside0 (wc.heap[gb259]? = some (.cells #[.int .i64 x260000_1, .bool x260001_1, (.slice none 0 0)] 24 (0, 0))) ∧ Aside0 (Below w.heap.size w wc))
             case first =>
              have H := HC33.out
              clear HC33
              by_cases c42 : a2 = true
              · subst c42
                have H1 : (masterdiscref14_CloseSession.j1 k1 (a1_0 == 0) a1_0 false y266) = some (r1, r2, r3, r4) := by rw [if_pos rfl] at H; exact H
                clear H
                have H := H1
                clear H1
                have H' := Aside0.mk H
                clear H
                have hnb43 := NB258_259.out
                have hnc43 := NB259_258.out
                obtain ⟨hcz44_0, hcz44_1, hcz44_2⟩ := cel3 BK258.out
                obtain ⟨hfz44_0, hfz44_1, hfz44_2⟩ := frz3 BK258.out
                go_wp2
                repeat (go_quiet (fail); try go_wp2)
                go_meet
                case rel => exact ⟨_, ((a1_0 == 0)), (by first | rfl | (simp; done) | (simp [*]; done)), H', ⟨by have := HK1.out; first | omega | exact Nat.le_refl _⟩, ⟨by (with_reducible repeat (first | apply Kd.R_alloc | apply Kd.R_drewN | apply Kd.R_drew)); exact Kd.R_mono (Kd.R_far (p := ⟨gb258, 2, none⟩) (Kd.R_types HO268.out BK258.out (by decide)) (fun _ hk => hk.2) (.slice Ao40 y266.length co40)) (fun _ hk => trivial)⟩, ⟨by (with_reducible repeat (first | refine blk_drewN ?_ _ | refine blk_drew ?_ | refine blk_alloc ?_ _)); refine blk_put (cs := #[.int .i64 a1_0, .bool false, .slice A1_2 l1_2.length c1_2]) ?_ 2 _ rfl; (with_reducible repeat (first | refine blk_drewN ?_ _ | refine blk_drew ?_ | refine blk_alloc ?_ _)); exact BK258.out⟩, ⟨by (with_reducible repeat (first | refine blk_drewN ?_ _ | refine blk_drew ?_ | refine blk_alloc ?_ _)); refine blk_far ?_ NB259_258.out _; (with_reducible repeat (first | refine blk_drewN ?_ _ | refine blk_drew ?_ | refine blk_alloc ?_ _)); exact BK259.out⟩, ⟨by repeat (first | (with_reducible first | exact HB.out | apply below_alloc | apply pw_below_drewN | apply below_drew1 | refine below_set ?_ GE258.out | refine below_set ?_ GE259.out) | exact HB.out)⟩⟩
              · replace c42 := Bool.eq_false_iff.mpr c42
                subst c42
                have H1 : (masterdiscref14_CloseSession.j1 k1 true a1_0 false y266) = some (r1, r2, r3, r4) := by rw [if_neg (show ¬ (false = true) by decide)] at H; exact H
                clear H
                have H := H1
                clear H1
                have H' := Aside0.mk H
                clear H
                go_wp2
                repeat (go_quiet (fail); try go_wp2)
                go_meet
                case rel => exact ⟨_, (true), (by first | rfl | (simp; done) | (simp [*]; done)), H', ⟨by have := HK1.out; first | omega | exact Nat.le_refl _⟩, ⟨by (with_reducible repeat (first | apply Kd.R_alloc | apply Kd.R_drewN | apply Kd.R_drew)); exact Kd.R_mono (Kd.R_far (p := ⟨gb258, 2, none⟩) (Kd.R_types HO268.out BK258.out (by decide)) (fun _ hk => hk.2) (.slice Ao40 y266.length co40)) (fun _ hk => trivial)⟩, ⟨by (with_reducible repeat (first | refine blk_drewN ?_ _ | refine blk_drew ?_ | refine blk_alloc ?_ _)); refine blk_put (cs := #[.int .i64 a1_0, .bool false, .slice A1_2 l1_2.length c1_2]) ?_ 2 _ rfl; (with_reducible repeat (first | refine blk_drewN ?_ _ | refine blk_drew ?_ | refine blk_alloc ?_ _)); exact BK258.out⟩, ⟨by (with_reducible repeat (first | refine blk_drewN ?_ _ | refine blk_drew ?_ | refine blk_alloc ?_ _)); refine blk_far ?_ NB259_258.out _; (with_reducible repeat (first | refine blk_drewN ?_ _ | refine blk_drew ?_ | refine blk_alloc ?_ _)); exact BK259.out⟩, ⟨by repeat (first | (with_reducible first | exact HB.out | apply below_alloc | apply pw_below_drewN | apply below_drew1 | refine below_set ?_ GE258.out | refine below_set ?_ GE259.out) | exact HB.out)⟩⟩
             case rest =>
              clear HC33
              try clear c1
              try clear c2
              try clear p2
              try clear q2
              try clear hx2
              try clear c3
              try clear c4
              try clear c5
              try clear c6
              try clear p6
              try clear c9
              try clear c16
              try clear c20
              try clear c20b0
              try clear c21
              try clear c21b0
              try clear c22
              try clear c22b0
              try clear c22b1
              try clear c23
              try clear c23b0
              try clear c24
              try clear c26
              try clear p26
              try clear q26
              try clear hx26
              try clear c28
              try clear c31
              try clear c32
              try clear c32b0
              try clear c32b1
              try clear c34
              try clear c42
              try clear c43
              try clear hcz10_0
              try clear hcz10_1
              try clear hcz10_2
              try clear hcz12_0
              try clear hcz12_1
              try clear hcz12_2
              try clear hcz13_0
              try clear hcz13_1
              try clear hcz13_2
              try clear hcz17_0
              try clear hcz17_1
              try clear hcz17_2
              try clear hcz19_0
              try clear hcz19_1
              try clear hcz19_2
              try clear hcz25_0
              try clear hcz25_1
              try clear hcz25_2
              try clear hcz27_0
              try clear hcz27_1
              try clear hcz27_2
              try clear hcz29_0
              try clear hcz29_1
              try clear hcz29_2
              try clear hcz30_0
              try clear hcz30_1
              try clear hcz30_2
              try clear hcz35_0
              try clear hcz35_1
              try clear hcz35_2
              try clear hcz38_0
              try clear hcz38_1
              try clear hcz38_2
              try clear hcz41_0
              try clear hcz41_1
              try clear hcz41_2
              try clear hcz44_0
              try clear hcz44_1
              try clear hcz44_2
              try clear hfz10_0
              try clear hfz10_1
              try clear hfz10_2
              try clear hfz12_0
              try clear hfz12_1
              try clear hfz12_2
              try clear hfz13_0
              try clear hfz13_1
              try clear hfz13_2
              try clear hfz17_0
              try clear hfz17_1
              try clear hfz17_2
              try clear hfz19_0
              try clear hfz19_1
              try clear hfz19_2
              try clear hfz25_0
              try clear hfz25_1
              try clear hfz25_2
              try clear hfz27_0
              try clear hfz27_1
              try clear hfz27_2
              try clear hfz29_0
              try clear hfz29_1
              try clear hfz29_2
              try clear hfz30_0
              try clear hfz30_1
              try clear hfz30_2
              try clear hfz35_0
              try clear hfz35_1
              try clear hfz35_2
              try clear hfz38_0
              try clear hfz38_1
              try clear hfz38_2
              try clear hfz41_0
              try clear hfz41_1
              try clear hfz41_2
              try clear hfz44_0
              try clear hfz44_1
              try clear hfz44_2
              try clear hx261_0
              try clear hx261_1
              try clear hx261_2
              try clear hx261_3
              try clear hx261_4
              try clear hx261_5
              try clear hx261_6
              try clear hx262_0
              try clear hx262_1
              try clear hx262_2
              try clear hx262_3
              try clear hx262_4
              try clear hx262_5
              try clear hx262_6
              try clear p2
              try clear p261
              try clear p262
              try clear q261
              try clear q262
              obtain ⟨kq, x57_32, rfl, HA, HJ32, HO_259002, BK258, BK259, HB⟩ := hcut
              cases kq with
              | zero => exact absurd HA.out (by simp [masterdiscref14_CloseSession.j1])
              | succ kj32 =>
               have H := HA.out
               clear HA
               simp only [masterdiscref14_CloseSession.j1] at H
               by_cases c45 : x57_32 = true
               · subst c45
                 have H1 : (some (0, false, ([] : List (S40)), 8)) = some (r1, r2, r3, r4) := by rw [if_pos rfl] at H; exact H
                 clear H
                 have H := H1
                 clear H1
                 simp only [Option.some.injEq, Prod.mk.injEq] at H
                 obtain ⟨rfl, rfl, rfl, rfl⟩ := H
                 have hnb46 := NB259_258.out
                 have hnc46 := NB258_259.out
                 obtain ⟨hcz47_0, hcz47_1, hcz47_2⟩ := cel3 BK259.out
                 obtain ⟨hfz47_0, hfz47_1, hfz47_2⟩ := frz3 BK259.out
                 go_wp2
                 repeat (go_quiet (fail); try go_wp2)
                 refine bodyPost_ret (results_ct rfl _ _ gb259 24 #[.int .i64 0, .bool false, .slice none 0 0] (0, 0) _ rfl (by (with_reducible repeat (first | refine blk_drewN ?_ _ | refine blk_drew ?_ | refine blk_alloc ?_ _)); refine blk_put (cs := #[.int .i64 0, .bool false, .slice none 0 0]) ?_ 2 _ rfl; (with_reducible repeat (first | refine blk_drewN ?_ _ | refine blk_drew ?_ | refine blk_alloc ?_ _)); refine blk_put (cs := #[.int .i64 0, .bool x260001_1, .slice none 0 0]) ?_ 1 _ rfl; (with_reducible repeat (first | refine blk_drewN ?_ _ | refine blk_drew ?_ | refine blk_alloc ?_ _)); refine blk_put (cs := #[.int .i64 x260000_1, .bool x260001_1, .slice none 0 0]) ?_ 0 _ rfl; (with_reducible repeat (first | refine blk_drewN ?_ _ | refine blk_drew ?_ | refine blk_alloc ?_ _)); exact BK259.out) Try.underlying24 rfl (by kernel_rfl)) rfl ?_
                 exact ⟨_, by first | rfl | (simp [errW_none, errW_some] <;> rfl) | (simp [*, errW_none, errW_some] <;> rfl), by first | exact Kd.R_nil _ _ _ _ _ | exact Kd.N_nil _ _ _ _ _ | exact Kd.V_nil _ _ _ _ _ | exact Kd.Q_nil _ _ _ _ _ | exact Kd.S_nil _ _ _ _ _, by repeat (first | (with_reducible first | exact HB.out | apply below_alloc | apply pw_below_drewN | apply below_drew1 | refine below_set ?_ GE258.out | refine below_set ?_ GE259.out) | exact HB.out)⟩
               · replace c45 := Bool.eq_false_iff.mpr c45
                 subst c45
                 have H1 : (some (a1_0, true, y266, 0)) = some (r1, r2, r3, r4) := by rw [if_neg (show ¬ (false = true) by decide)] at H; exact H
                 clear H
                 have H := H1
                 clear H1
                 simp only [Option.some.injEq, Prod.mk.injEq] at H
                 obtain ⟨rfl, rfl, rfl, rfl⟩ := H
                 have hnb48 := NB258_259.out
                 have hnc48 := NB259_258.out
                 obtain ⟨hcz49_0, hcz49_1, hcz49_2⟩ := cel3 BK258.out
                 obtain ⟨hfz49_0, hfz49_1, hfz49_2⟩ := frz3 BK258.out
                 obtain ⟨hcz50_0, hcz50_1, hcz50_2⟩ := cel3 BK259.out
                 obtain ⟨hfz50_0, hfz50_1, hfz50_2⟩ := frz3 BK259.out
                 go_wp2
                 repeat (go_quiet (fail); try go_wp2)
                 refine bodyPost_ret (results_ct rfl _ _ gb259 24 #[.int .i64 a1_0, .bool true, .slice Ao40 y266.length co40] (0, 0) _ rfl (by (with_reducible repeat (first | refine blk_drewN ?_ _ | refine blk_drew ?_ | refine blk_alloc ?_ _)); refine blk_put (cs := #[.int .i64 a1_0, .bool true, .slice none 0 0]) ?_ 2 _ rfl; (with_reducible repeat (first | refine blk_drewN ?_ _ | refine blk_drew ?_ | refine blk_alloc ?_ _)); refine blk_put (cs := #[.int .i64 a1_0, .bool x260001_1, .slice none 0 0]) ?_ 1 _ rfl; (with_reducible repeat (first | refine blk_drewN ?_ _ | refine blk_drew ?_ | refine blk_alloc ?_ _)); refine blk_put (cs := #[.int .i64 x260000_1, .bool x260001_1, .slice none 0 0]) ?_ 0 _ rfl; (with_reducible repeat (first | refine blk_drewN ?_ _ | refine blk_drew ?_ | refine blk_alloc ?_ _)); refine blk_far ?_ NB259_258.out _; (with_reducible repeat (first | refine blk_drewN ?_ _ | refine blk_drew ?_ | refine blk_alloc ?_ _)); exact BK259.out) Try.underlying24 rfl (by kernel_rfl)) rfl ?_
                 exact ⟨_, by first | rfl | (simp [errW_none, errW_some] <;> rfl) | (simp [*, errW_none, errW_some] <;> rfl), by (with_reducible repeat (first | apply Kd.R_alloc | apply Kd.R_drewN | apply Kd.R_drew)); exact Kd.R_mono (Kd.R_far (p := ⟨gb259, 2, none⟩) (Kd.R_far (p := ⟨gb259, 1, none⟩) (Kd.R_far (p := ⟨gb259, 0, none⟩) (Kd.R_far (p := ⟨gb258, 1, none⟩) (Kd.R_types (Kd.R_types HO_259002.out BK258.out (by decide)) BK259.out (by decide)) (fun _ hk => hk.1.2) (.bool true)) (fun _ hk => hk.2) (.int .i64 a1_0)) (fun _ hk => hk.2) (.bool true)) (fun _ hk => hk.2) (.slice Ao40 y266.length co40)) (fun _ hk => trivial), by repeat (first | (with_reducible first | exact HB.out | apply below_alloc | apply pw_below_drewN | apply below_drew1 | refine below_set ?_ GE258.out | refine below_set ?_ GE259.out) | exact HB.out)⟩
           · rw [if_neg c32] at H
             have c32b0 : (x8_1 == 0) = false := beq_eq_false_iff_ne.mpr c32
             have c32b1 : (x8_1 != 0) = true := bne_iff_ne.mpr c32
             simp only [Option.some.injEq, Prod.mk.injEq] at H
             obtain ⟨rfl, rfl, rfl, rfl⟩ := H
             have hnb51 := NB258_259.out
             have hnc51 := NB259_258.out
             obtain ⟨hcz52_0, hcz52_1, hcz52_2⟩ := cel3 BK258.out
             obtain ⟨hfz52_0, hfz52_1, hfz52_2⟩ := frz3 BK258.out
             go_wp2_with (first | ((with_reducible refine gate_dst (N := 44) rfl ?_); refine Kd.R_lit k40 _ 40 ?hg (N := 44) ?hd (xs := ([] : List (S40))) (inner := []) (ok := fun _ => True) (okp := fun _ => True) ?hr ?hp (fun _ hk => hk) trivial (Below.refl _ _) (Nat.le_refl _) (by simp) ?_; (case hd => rfl); (case hg => rfl); (case hr => first | (go_simp; done) | (go_simp; rfl)); (case hp => exact (Reps.none _ _)); intro v264 w53 ho54 hb hg_ hnew_; clear hg_ hnew_; (first | rw [← Ny263.out] at ho54 | (simp only [Int.reduceToNat] at ho54; rw [← Ny263.out] at ho54)); have n0_ := Aside0.mk (Kd.R_lower ho54 (below_size (by repeat (first | (with_reducible first | exact HB.out | apply below_alloc | apply pw_below_drewN | apply below_drew1 | refine below_set ?_ GE258.out | refine below_set ?_ GE259.out) | exact HB.out)))); have n1_ := Aside0.mk (blk_below (g := gb258) (o := .cells #[.int .i64 a1_0, .bool false, .slice A1_2 l1_2.length c1_2] 24 (0, 0)) (by (with_reducible repeat (first | refine blk_drewN ?_ _ | refine blk_drew ?_ | refine blk_alloc ?_ _)); exact BK258.out) hb); have n2_ := Aside0.mk (blk_below (g := gb259) (o := .cells #[.int .i64 x260000_1, .bool x260001_1, .slice none 0 0] 24 (0, 0)) (by (with_reducible repeat (first | refine blk_drewN ?_ _ | refine blk_drew ?_ | refine blk_alloc ?_ _)); exact BK259.out) hb); have n3_ := Aside0.mk (below_step (by repeat (first | (with_reducible first | exact HB.out | apply below_alloc | apply pw_below_drewN | apply below_drew1 | refine below_set ?_ GE258.out | refine below_set ?_ GE259.out) | exact HB.out)) hb); clear BK258; clear BK259; clear HB; have HO265 := n0_; have BK258 := n1_; have BK259 := n2_; have HB := n3_; clear n0_ n1_ n2_ n3_; clear hb ho54; obtain ⟨hcz55_0, hcz55_1, hcz55_2⟩ := cel3 BK258.out; obtain ⟨hfz55_0, hfz55_1, hfz55_2⟩ := frz3 BK258.out) | ((with_reducible refine gate_builtin (b := .append) (xs := #[.tmp 44, .tmp 46]) rfl ?_); at_builtin; refine Kd.R_append_rows k40 (w0 := w) w.heap.size rfl (.tmp 44) (.tmp 46) 22 40 (.agg #[(.int .i64 0), (.int .i64 0), (.int .i64 0), (.int .i64 0), (.int .i64 0), (.int .i64 0), (.int .i64 0)]) 56 rfl Try.underlying22 info40 rfl (by decide) (by omega) v264 y263 l1_2 _ _ _ (fun _ => True) (fun _ => False) rfl rfl ?aO ?aR (fun _ _ h => h) (fun _ h => h.elim) ?aF ?aB ?aS ?aL ?_; (case aR => repeat (first | exact (Kd.C_below HR1_2.out HB.out) | (with_reducible refine Kd.C_alloc ?_ _) | (with_reducible refine Kd.C_drewN ?_ _) | (with_reducible refine Kd.C_drew ?_))); (case aB => exact (by repeat (first | (with_reducible first | exact HB.out | apply below_alloc | apply pw_below_drewN | apply below_drew1 | refine below_set ?_ GE258.out | refine below_set ?_ GE259.out) | exact HB.out))); (case aF => exact (fun _ _ => trivial)); (case aO => exact (by (with_reducible repeat (first | apply Kd.R_alloc | apply Kd.R_drewN | apply Kd.R_drew)); exact HO265.out)); (case aS => exact (below_size (by repeat (first | (with_reducible first | exact HB.out | apply below_alloc | apply pw_below_drewN | apply below_drew1 | refine below_set ?_ GE258.out | refine below_set ?_ GE259.out) | exact HB.out)))); (case aL => have := LMc31.out; omega); intro v267 w56 ho hb hg hat; rw [← Ny266.out] at ho; have n0_ := Aside0.mk (blk_grown (g := gb258) (o := .cells #[.int .i64 a1_0, .bool false, .slice A1_2 l1_2.length c1_2] 24 (0, 0)) (by (with_reducible repeat (first | refine blk_drewN ?_ _ | refine blk_drew ?_ | refine blk_alloc ?_ _)); exact BK258.out) hg (Kd.R_ne HO265.out BK258.out (by decide))); have n1_ := Aside0.mk (blk_grown (g := gb259) (o := .cells #[.int .i64 x260000_1, .bool x260001_1, .slice none 0 0] 24 (0, 0)) (by (with_reducible repeat (first | refine blk_drewN ?_ _ | refine blk_drew ?_ | refine blk_alloc ?_ _)); exact BK259.out) hg (Kd.R_ne HO265.out BK259.out (by decide))); have n2_ := Aside0.mk (hb); have n3_ := Aside0.mk (ho); clear BK258; clear BK259; clear HB; clear HO265; have BK258 := n0_; have BK259 := n1_; have HB := n2_; have HO268 := n3_; clear n0_ n1_ n2_ n3_; clear ho hb hg hat; obtain ⟨Ao57, co57, eo57⟩ := Kd.R_slice HO268.out; subst eo57; obtain ⟨hcz58_0, hcz58_1, hcz58_2⟩ := cel3 BK258.out; obtain ⟨hfz58_0, hfz58_1, hfz58_2⟩ := frz3 BK258.out; obtain ⟨hcz59_0, hcz59_1, hcz59_2⟩ := cel3 BK259.out; obtain ⟨hfz59_0, hfz59_1, hfz59_2⟩ := frz3 BK259.out))
             repeat (go_quiet (first | ((with_reducible refine gate_dst (N := 44) rfl ?_); refine Kd.R_lit k40 _ 40 ?hg (N := 44) ?hd (xs := ([] : List (S40))) (inner := []) (ok := fun _ => True) (okp := fun _ => True) ?hr ?hp (fun _ hk => hk) trivial (Below.refl _ _) (Nat.le_refl _) (by simp) ?_; (case hd => rfl); (case hg => rfl); (case hr => first | (go_simp; done) | (go_simp; rfl)); (case hp => exact (Reps.none _ _)); intro v264 w53 ho54 hb hg_ hnew_; clear hg_ hnew_; (first | rw [← Ny263.out] at ho54 | (simp only [Int.reduceToNat] at ho54; rw [← Ny263.out] at ho54)); have n0_ := Aside0.mk (Kd.R_lower ho54 (below_size (by repeat (first | (with_reducible first | exact HB.out | apply below_alloc | apply pw_below_drewN | apply below_drew1 | refine below_set ?_ GE258.out | refine below_set ?_ GE259.out) | exact HB.out)))); have n1_ := Aside0.mk (blk_below (g := gb258) (o := .cells #[.int .i64 a1_0, .bool false, .slice A1_2 l1_2.length c1_2] 24 (0, 0)) (by (with_reducible repeat (first | refine blk_drewN ?_ _ | refine blk_drew ?_ | refine blk_alloc ?_ _)); exact BK258.out) hb); have n2_ := Aside0.mk (blk_below (g := gb259) (o := .cells #[.int .i64 x260000_1, .bool x260001_1, .slice none 0 0] 24 (0, 0)) (by (with_reducible repeat (first | refine blk_drewN ?_ _ | refine blk_drew ?_ | refine blk_alloc ?_ _)); exact BK259.out) hb); have n3_ := Aside0.mk (below_step (by repeat (first | (with_reducible first | exact HB.out | apply below_alloc | apply pw_below_drewN | apply below_drew1 | refine below_set ?_ GE258.out | refine below_set ?_ GE259.out) | exact HB.out)) hb); clear BK258; clear BK259; clear HB; have HO265 := n0_; have BK258 := n1_; have BK259 := n2_; have HB := n3_; clear n0_ n1_ n2_ n3_; clear hb ho54; obtain ⟨hcz55_0, hcz55_1, hcz55_2⟩ := cel3 BK258.out; obtain ⟨hfz55_0, hfz55_1, hfz55_2⟩ := frz3 BK258.out) | ((with_reducible refine gate_builtin (b := .append) (xs := #[.tmp 44, .tmp 46]) rfl ?_); at_builtin; refine Kd.R_append_rows k40 (w0 := w) w.heap.size rfl (.tmp 44) (.tmp 46) 22 40 (.agg #[(.int .i64 0), (.int .i64 0), (.int .i64 0), (.int .i64 0), (.int .i64 0), (.int .i64 0), (.int .i64 0)]) 56 rfl Try.underlying22 info40 rfl (by decide) (by omega) v264 y263 l1_2 _ _ _ (fun _ => True) (fun _ => False) rfl rfl ?aO ?aR (fun _ _ h => h) (fun _ h => h.elim) ?aF ?aB ?aS ?aL ?_; (case aR => repeat (first | exact (Kd.C_below HR1_2.out HB.out) | (with_reducible refine Kd.C_alloc ?_ _) | (with_reducible refine Kd.C_drewN ?_ _) | (with_reducible refine Kd.C_drew ?_))); (case aB => exact (by repeat (first | (with_reducible first | exact HB.out | apply below_alloc | apply pw_below_drewN | apply below_drew1 | refine below_set ?_ GE258.out | refine below_set ?_ GE259.out) | exact HB.out))); (case aF => exact (fun _ _ => trivial)); (case aO => exact (by (with_reducible repeat (first | apply Kd.R_alloc | apply Kd.R_drewN | apply Kd.R_drew)); exact HO265.out)); (case aS => exact (below_size (by repeat (first | (with_reducible first | exact HB.out | apply below_alloc | apply pw_below_drewN | apply below_drew1 | refine below_set ?_ GE258.out | refine below_set ?_ GE259.out) | exact HB.out)))); (case aL => have := LMc31.out; omega); intro v267 w56 ho hb hg hat; rw [← Ny266.out] at ho; have n0_ := Aside0.mk (blk_grown (g := gb258) (o := .cells #[.int .i64 a1_0, .bool false, .slice A1_2 l1_2.length c1_2] 24 (0, 0)) (by (with_reducible repeat (first | refine blk_drewN ?_ _ | refine blk_drew ?_ | refine blk_alloc ?_ _)); exact BK258.out) hg (Kd.R_ne HO265.out BK258.out (by decide))); have n1_ := Aside0.mk (blk_grown (g := gb259) (o := .cells #[.int .i64 x260000_1, .bool x260001_1, .slice none 0 0] 24 (0, 0)) (by (with_reducible repeat (first | refine blk_drewN ?_ _ | refine blk_drew ?_ | refine blk_alloc ?_ _)); exact BK259.out) hg (Kd.R_ne HO265.out BK259.out (by decide))); have n2_ := Aside0.mk (hb); have n3_ := Aside0.mk (ho); clear BK258; clear BK259; clear HB; clear HO265; have BK258 := n0_; have BK259 := n1_; have HB := n2_; have HO268 := n3_; clear n0_ n1_ n2_ n3_; clear ho hb hg hat; obtain ⟨Ao57, co57, eo57⟩ := Kd.R_slice HO268.out; subst eo57; obtain ⟨hcz58_0, hcz58_1, hcz58_2⟩ := cel3 BK258.out; obtain ⟨hfz58_0, hfz58_1, hfz58_2⟩ := frz3 BK258.out; obtain ⟨hcz59_0, hcz59_1, hcz59_2⟩ := cel3 BK259.out; obtain ⟨hfz59_0, hfz59_1, hfz59_2⟩ := frz3 BK259.out)); try go_wp2_with (first | ((with_reducible refine gate_dst (N := 44) rfl ?_); refine Kd.R_lit k40 _ 40 ?hg (N := 44) ?hd (xs := ([] : List (S40))) (inner := []) (ok := fun _ => True) (okp := fun _ => True) ?hr ?hp (fun _ hk => hk) trivial (Below.refl _ _) (Nat.le_refl _) (by simp) ?_; (case hd => rfl); (case hg => rfl); (case hr => first | (go_simp; done) | (go_simp; rfl)); (case hp => exact (Reps.none _ _)); intro v264 w53 ho54 hb hg_ hnew_; clear hg_ hnew_; (first | rw [← Ny263.out] at ho54 | (simp only [Int.reduceToNat] at ho54; rw [← Ny263.out] at ho54)); have n0_ := Aside0.mk (Kd.R_lower ho54 (below_size (by repeat (first | (with_reducible first | exact HB.out | apply below_alloc | apply pw_below_drewN | apply below_drew1 | refine below_set ?_ GE258.out | refine below_set ?_ GE259.out) | exact HB.out)))); have n1_ := Aside0.mk (blk_below (g := gb258) (o := .cells #[.int .i64 a1_0, .bool false, .slice A1_2 l1_2.length c1_2] 24 (0, 0)) (by (with_reducible repeat (first | refine blk_drewN ?_ _ | refine blk_drew ?_ | refine blk_alloc ?_ _)); exact BK258.out) hb); have n2_ := Aside0.mk (blk_below (g := gb259) (o := .cells #[.int .i64 x260000_1, .bool x260001_1, .slice none 0 0] 24 (0, 0)) (by (with_reducible repeat (first | refine blk_drewN ?_ _ | refine blk_drew ?_ | refine blk_alloc ?_ _)); exact BK259.out) hb); have n3_ := Aside0.mk (below_step (by repeat (first | (with_reducible first | exact HB.out | apply below_alloc | apply pw_below_drewN | apply below_drew1 | refine below_set ?_ GE258.out | refine below_set ?_ GE259.out) | exact HB.out)) hb); clear BK258; clear BK259; clear HB; have HO265 := n0_; have BK258 := n1_; have BK259 := n2_; have HB := n3_; clear n0_ n1_ n2_ n3_; clear hb ho54; obtain ⟨hcz55_0, hcz55_1, hcz55_2⟩ := cel3 BK258.out; obtain ⟨hfz55_0, hfz55_1, hfz55_2⟩ := frz3 BK258.out) | ((with_reducible refine gate_builtin (b := .append) (xs := #[.tmp 44, .tmp 46]) rfl ?_); at_builtin; refine Kd.R_append_rows k40 (w0 := w) w.heap.size rfl (.tmp 44) (.tmp 46) 22 40 (.agg #[(.int .i64 0), (.int .i64 0), (.int .i64 0), (.int .i64 0), (.int .i64 0), (.int .i64 0), (.int .i64 0)]) 56 rfl Try.underlying22 info40 rfl (by decide) (by omega) v264 y263 l1_2 _ _ _ (fun _ => True) (fun _ => False) rfl rfl ?aO ?aR (fun _ _ h => h) (fun _ h => h.elim) ?aF ?aB ?aS ?aL ?_; (case aR => repeat (first | exact (Kd.C_below HR1_2.out HB.out) | (with_reducible refine Kd.C_alloc ?_ _) | (with_reducible refine Kd.C_drewN ?_ _) | (with_reducible refine Kd.C_drew ?_))); (case aB => exact (by repeat (first | (with_reducible first | exact HB.out | apply below_alloc | apply pw_below_drewN | apply below_drew1 | refine below_set ?_ GE258.out | refine below_set ?_ GE259.out) | exact HB.out))); (case aF => exact (fun _ _ => trivial)); (case aO => exact (by (with_reducible repeat (first | apply Kd.R_alloc | apply Kd.R_drewN | apply Kd.R_drew)); exact HO265.out)); (case aS => exact (below_size (by repeat (first | (with_reducible first | exact HB.out | apply below_alloc | apply pw_below_drewN | apply below_drew1 | refine below_set ?_ GE258.out | refine below_set ?_ GE259.out) | exact HB.out)))); (case aL => have := LMc31.out; omega); intro v267 w56 ho hb hg hat; rw [← Ny266.out] at ho; have n0_ := Aside0.mk (blk_grown (g := gb258) (o := .cells #[.int .i64 a1_0, .bool false, .slice A1_2 l1_2.length c1_2] 24 (0, 0)) (by (with_reducible repeat (first | refine blk_drewN ?_ _ | refine blk_drew ?_ | refine blk_alloc ?_ _)); exact BK258.out) hg (Kd.R_ne HO265.out BK258.out (by decide))); have n1_ := Aside0.mk (blk_grown (g := gb259) (o := .cells #[.int .i64 x260000_1, .bool x260001_1, .slice none 0 0] 24 (0, 0)) (by (with_reducible repeat (first | refine blk_drewN ?_ _ | refine blk_drew ?_ | refine blk_alloc ?_ _)); exact BK259.out) hg (Kd.R_ne HO265.out BK259.out (by decide))); have n2_ := Aside0.mk (hb); have n3_ := Aside0.mk (ho); clear BK258; clear BK259; clear HB; clear HO265; have BK258 := n0_; have BK259 := n1_; have HB := n2_; have HO268 := n3_; clear n0_ n1_ n2_ n3_; clear ho hb hg hat; obtain ⟨Ao57, co57, eo57⟩ := Kd.R_slice HO268.out; subst eo57; obtain ⟨hcz58_0, hcz58_1, hcz58_2⟩ := cel3 BK258.out; obtain ⟨hfz58_0, hfz58_1, hfz58_2⟩ := frz3 BK258.out; obtain ⟨hcz59_0, hcz59_1, hcz59_2⟩ := cel3 BK259.out; obtain ⟨hfz59_0, hfz59_1, hfz59_2⟩ := frz3 BK259.out)))
             refine bodyPost_ret (results_ct rfl _ _ gb259 24 #[.int .i64 (wrap64 (a1_0 + 1)), .bool a2, .slice Ao57 y266.length co57] (0, 0) _ rfl (by (with_reducible repeat (first | refine blk_drewN ?_ _ | refine blk_drew ?_ | refine blk_alloc ?_ _)); refine blk_put (cs := #[.int .i64 (wrap64 (a1_0 + 1)), .bool a2, .slice none 0 0]) ?_ 2 _ rfl; (with_reducible repeat (first | refine blk_drewN ?_ _ | refine blk_drew ?_ | refine blk_alloc ?_ _)); refine blk_put (cs := #[.int .i64 (wrap64 (a1_0 + 1)), .bool x260001_1, .slice none 0 0]) ?_ 1 _ rfl; (with_reducible repeat (first | refine blk_drewN ?_ _ | refine blk_drew ?_ | refine blk_alloc ?_ _)); refine blk_put (cs := #[.int .i64 x260000_1, .bool x260001_1, .slice none 0 0]) ?_ 0 _ rfl; (with_reducible repeat (first | refine blk_drewN ?_ _ | refine blk_drew ?_ | refine blk_alloc ?_ _)); refine blk_far ?_ NB259_258.out _; (with_reducible repeat (first | refine blk_drewN ?_ _ | refine blk_drew ?_ | refine blk_alloc ?_ _)); refine blk_far ?_ NB259_258.out _; (with_reducible repeat (first | refine blk_drewN ?_ _ | refine blk_drew ?_ | refine blk_alloc ?_ _)); refine blk_far ?_ NB259_258.out _; (with_reducible repeat (first | refine blk_drewN ?_ _ | refine blk_drew ?_ | refine blk_alloc ?_ _)); exact BK259.out) Try.underlying24 rfl (by kernel_rfl)) rfl ?_
             exact ⟨_, by first | rfl | (simp [errW_none, errW_some] <;> rfl) | (simp [*, errW_none, errW_some] <;> rfl), by (with_reducible repeat (first | apply Kd.R_alloc | apply Kd.R_drewN | apply Kd.R_drew)); exact Kd.R_mono (Kd.R_far (p := ⟨gb259, 2, none⟩) (Kd.R_far (p := ⟨gb259, 1, none⟩) (Kd.R_far (p := ⟨gb259, 0, none⟩) (Kd.R_far (p := ⟨gb258, 1, none⟩) (Kd.R_far (p := ⟨gb258, 0, none⟩) (Kd.R_far (p := ⟨gb258, 2, none⟩) (Kd.R_types (Kd.R_types HO268.out BK258.out (by decide)) BK259.out (by decide)) (fun _ hk => hk.1.2) (.slice Ao57 y266.length co57)) (fun _ hk => hk.1.2) (.int .i64 (wrap64 (a1_0 + 1)))) (fun _ hk => hk.1.2) (.bool a2)) (fun _ hk => hk.2) (.int .i64 (wrap64 (a1_0 + 1)))) (fun _ hk => hk.2) (.bool a2)) (fun _ hk => hk.2) (.slice Ao57 y266.length co57)) (fun _ hk => trivial), by repeat (first | (with_reducible first | exact HB.out | apply below_alloc | apply pw_below_drewN | apply below_drew1 | refine below_set ?_ GE258.out | refine below_set ?_ GE259.out) | exact HB.out)⟩
         · rw [if_neg c31] at H
           exact absurd H (by simp)
 · replace c5 := Bool.eq_false_iff.mpr c5
   subst c5
   have H1 : (some (0, false, ([] : List (S40)), 1)) = some (r1, r2, r3, r4) := by rw [if_neg (show ¬ (false = true) by decide)] at H; exact H
   clear H
   have H := H1
   clear H1
   simp only [Option.some.injEq, Prod.mk.injEq] at H
   obtain ⟨rfl, rfl, rfl, rfl⟩ := H
   go_enter Try.func23, Try.ntmps23
   go_wp2_with (first | ((with_reducible refine gate_dst (N := 4) rfl ?_); refine box_event ?hg (N := 4) ?hd (cs := #[.int .i64 a1_0, .bool a1_1, .slice A1_2 l1_2.length c1_2]) (t := 24) ?hr ?_; (case hd => rfl); (case hg => rfl); (case hr => first | (go_simp; done) | (go_simp; rfl)); intro gb258 hg w60 hbox hb; have n0_ := Aside0.mk (below_step (by repeat (first | (with_reducible first | exact HB.out | apply below_alloc | apply pw_below_drewN | apply below_drew1) | exact HB.out)) hb); have n1_ := Aside0.mk (hbox); have n2_ := Aside0.mk ((by rw [hg]; exact (below_size (by repeat (first | (with_reducible first | exact HB.out | apply below_alloc | apply pw_below_drewN | apply below_drew1) | exact HB.out))) : w.heap.size ≤ gb258)); have n3_ := Aside0.mk ((by rw [hg]; exact (below_size (by repeat (first | (with_reducible first | exact HB.out | apply below_alloc | apply pw_below_drewN | apply below_drew1) | exact HB.out))) : w.heap.size ≤ gb258)); clear HB; have HB := n0_; have BK258 := n1_; have GW258 := n2_; have GE258 := n3_; clear n0_ n1_ n2_ n3_; clear hb hbox hg) | ((with_reducible refine gate_dst (N := 6) rfl ?_); refine box_event ?hg (N := 6) ?hd (cs := #[.int .i64 0, .bool false, .slice none 0 0]) (t := 24) ?hr ?_; (case hd => rfl); (case hg => rfl); (case hr => first | (go_simp; done) | (go_simp; rfl)); intro gb259 hg w61 hbox hb; have n0_ := Aside0.mk (blk_below (g := gb258) (o := .cells #[.int .i64 a1_0, .bool a1_1, .slice A1_2 l1_2.length c1_2] 24 (0, 0)) (by (with_reducible repeat (first | refine blk_drewN ?_ _ | refine blk_drew ?_ | refine blk_alloc ?_ _)); exact BK258.out) hb); have n1_ := Aside0.mk (below_step (by repeat (first | (with_reducible first | exact HB.out | apply below_alloc | apply pw_below_drewN | apply below_drew1 | refine below_set ?_ GE258.out) | exact HB.out)) hb); have n2_ := Aside0.mk (hbox); have n3_ := Aside0.mk ((by rw [hg]; exact (below_size (by repeat (first | (with_reducible first | exact HB.out | apply below_alloc | apply pw_below_drewN | apply below_drew1 | refine below_set ?_ GE258.out) | exact HB.out))) : w.heap.size ≤ gb259)); have n4_ := Aside0.mk ((by rw [hg]; exact (below_size (by repeat (first | (with_reducible first | exact HB.out | apply below_alloc | apply pw_below_drewN | apply below_drew1 | refine below_set ?_ GE258.out) | exact HB.out))) : w.heap.size ≤ gb259)); have n5_ := Aside0.mk ((by rw [hg]; exact Nat.ne_of_lt (blk_lt (g := gb258) (o := .cells #[.int .i64 a1_0, .bool a1_1, .slice A1_2 l1_2.length c1_2] 24 (0, 0)) (by (with_reducible repeat (first | refine blk_drewN ?_ _ | refine blk_drew ?_ | refine blk_alloc ?_ _)); exact BK258.out)) : gb258 ≠ gb259)); have n6_ := Aside0.mk ((by rw [hg]; exact Nat.ne_of_gt (blk_lt (g := gb258) (o := .cells #[.int .i64 a1_0, .bool a1_1, .slice A1_2 l1_2.length c1_2] 24 (0, 0)) (by (with_reducible repeat (first | refine blk_drewN ?_ _ | refine blk_drew ?_ | refine blk_alloc ?_ _)); exact BK258.out)) : gb259 ≠ gb258)); clear BK258; clear HB; have BK258 := n0_; have HB := n1_; have BK259 := n2_; have GW259 := n3_; have GE259 := n4_; have NB258_259 := n5_; have NB259_258 := n6_; clear n0_ n1_ n2_ n3_ n4_ n5_ n6_; clear hb hbox hg; have hnb62 := NB258_259.out; have hnc62 := NB259_258.out; obtain ⟨hcz63_0, hcz63_1, hcz63_2⟩ := cel3 BK258.out; obtain ⟨hfz63_0, hfz63_1, hfz63_2⟩ := frz3 BK258.out) | (go_at_call 11; (with_reducible refine (masterdiscref14_Valid.calls a0 a1_0 a1_1 _ _ l1_2 false _ ?side1 ?side2 A4.out).mono ?_); (case side1 => repeat (first | exact (Kd.C_below HR1_2.out HB.out) | (with_reducible refine Kd.C_alloc ?_ _) | (with_reducible refine Kd.C_drewN ?_ _) | (with_reducible refine Kd.C_drew ?_))); (case side2 => exact HC1_2.out); rintro e w64 ⟨rfl, hb⟩; have n0_ := Aside0.mk (blk_below (g := gb258) (o := .cells #[.int .i64 a1_0, .bool a1_1, .slice A1_2 l1_2.length c1_2] 24 (0, 0)) (by (with_reducible repeat (first | refine blk_drewN ?_ _ | refine blk_drew ?_ | refine blk_alloc ?_ _)); exact BK258.out) hb); have n1_ := Aside0.mk (blk_below (g := gb259) (o := .cells #[.int .i64 0, .bool false, .slice none 0 0] 24 (0, 0)) (by (with_reducible repeat (first | refine blk_drewN ?_ _ | refine blk_drew ?_ | refine blk_alloc ?_ _)); exact BK259.out) hb); have n2_ := Aside0.mk (below_step (by repeat (first | (with_reducible first | exact HB.out | apply below_alloc | apply pw_below_drewN | apply below_drew1 | refine below_set ?_ GE258.out | refine below_set ?_ GE259.out) | exact HB.out)) hb); clear BK258; clear BK259; clear HB; have BK258 := n0_; have BK259 := n1_; have HB := n2_; clear n0_ n1_ n2_; (try clear hb); (try clear hb2); (try clear hk); (try clear hi); obtain ⟨hcz65_0, hcz65_1, hcz65_2⟩ := cel3 BK259.out; obtain ⟨hfz65_0, hfz65_1, hfz65_2⟩ := frz3 BK259.out))
   repeat (go_quiet (first | ((with_reducible refine gate_dst (N := 4) rfl ?_); refine box_event ?hg (N := 4) ?hd (cs := #[.int .i64 a1_0, .bool a1_1, .slice A1_2 l1_2.length c1_2]) (t := 24) ?hr ?_; (case hd => rfl); (case hg => rfl); (case hr => first | (go_simp; done) | (go_simp; rfl)); intro gb258 hg w60 hbox hb; have n0_ := Aside0.mk (below_step (by repeat (first | (with_reducible first | exact HB.out | apply below_alloc | apply pw_below_drewN | apply below_drew1) | exact HB.out)) hb); have n1_ := Aside0.mk (hbox); have n2_ := Aside0.mk ((by rw [hg]; exact (below_size (by repeat (first | (with_reducible first | exact HB.out | apply below_alloc | apply pw_below_drewN | apply below_drew1) | exact HB.out))) : w.heap.size ≤ gb258)); have n3_ := Aside0.mk ((by rw [hg]; exact (below_size (by repeat (first | (with_reducible first | exact HB.out | apply below_alloc | apply pw_below_drewN | apply below_drew1) | exact HB.out))) : w.heap.size ≤ gb258)); clear HB; have HB := n0_; have BK258 := n1_; have GW258 := n2_; have GE258 := n3_; clear n0_ n1_ n2_ n3_; clear hb hbox hg) | ((with_reducible refine gate_dst (N := 6) rfl ?_); refine box_event ?hg (N := 6) ?hd (cs := #[.int .i64 0, .bool false, .slice none 0 0]) (t := 24) ?hr ?_; (case hd => rfl); (case hg => rfl); (case hr => first | (go_simp; done) | (go_simp; rfl)); intro gb259 hg w61 hbox hb; have n0_ := Aside0.mk (blk_below (g := gb258) (o := .cells #[.int .i64 a1_0, .bool a1_1, .slice A1_2 l1_2.length c1_2] 24 (0, 0)) (by (with_reducible repeat (first | refine blk_drewN ?_ _ | refine blk_drew ?_ | refine blk_alloc ?_ _)); exact BK258.out) hb); have n1_ := Aside0.mk (below_step (by repeat (first | (with_reducible first | exact HB.out | apply below_alloc | apply pw_below_drewN | apply below_drew1 | refine below_set ?_ GE258.out) | exact HB.out)) hb); have n2_ := Aside0.mk (hbox); have n3_ := Aside0.mk ((by rw [hg]; exact (below_size (by repeat (first | (with_reducible first | exact HB.out | apply below_alloc | apply pw_below_drewN | apply below_drew1 | refine below_set ?_ GE258.out) | exact HB.out))) : w.heap.size ≤ gb259)); have n4_ := Aside0.mk ((by rw [hg]; exact (below_size (by repeat (first | (with_reducible first | exact HB.out | apply below_alloc | apply pw_below_drewN | apply below_drew1 | refine below_set ?_ GE258.out) | exact HB.out))) : w.heap.size ≤ gb259)); have n5_ := Aside0.mk ((by rw [hg]; exact Nat.ne_of_lt (blk_lt (g := gb258) (o := .cells #[.int .i64 a1_0, .bool a1_1, .slice A1_2 l1_2.length c1_2] 24 (0, 0)) (by (with_reducible repeat (first | refine blk_drewN ?_ _ | refine blk_drew ?_ | refine blk_alloc ?_ _)); exact BK258.out)) : gb258 ≠ gb259)); have n6_ := Aside0.mk ((by rw [hg]; exact Nat.ne_of_gt (blk_lt (g := gb258) (o := .cells #[.int .i64 a1_0, .bool a1_1, .slice A1_2 l1_2.length c1_2] 24 (0, 0)) (by (with_reducible repeat (first | refine blk_drewN ?_ _ | refine blk_drew ?_ | refine blk_alloc ?_ _)); exact BK258.out)) : gb259 ≠ gb258)); clear BK258; clear HB; have BK258 := n0_; have HB := n1_; have BK259 := n2_; have GW259 := n3_; have GE259 := n4_; have NB258_259 := n5_; have NB259_258 := n6_; clear n0_ n1_ n2_ n3_ n4_ n5_ n6_; clear hb hbox hg; have hnb62 := NB258_259.out; have hnc62 := NB259_258.out; obtain ⟨hcz63_0, hcz63_1, hcz63_2⟩ := cel3 BK258.out; obtain ⟨hfz63_0, hfz63_1, hfz63_2⟩ := frz3 BK258.out) | (go_at_call 11; (with_reducible refine (masterdiscref14_Valid.calls a0 a1_0 a1_1 _ _ l1_2 false _ ?side1 ?side2 A4.out).mono ?_); (case side1 => repeat (first | exact (Kd.C_below HR1_2.out HB.out) | (with_reducible refine Kd.C_alloc ?_ _) | (with_reducible refine Kd.C_drewN ?_ _) | (with_reducible refine Kd.C_drew ?_))); (case side2 => exact HC1_2.out); rintro e w64 ⟨rfl, hb⟩; have n0_ := Aside0.mk (blk_below (g := gb258) (o := .cells #[.int .i64 a1_0, .bool a1_1, .slice A1_2 l1_2.length c1_2] 24 (0, 0)) (by (with_reducible repeat (first | refine blk_drewN ?_ _ | refine blk_drew ?_ | refine blk_alloc ?_ _)); exact BK258.out) hb); have n1_ := Aside0.mk (blk_below (g := gb259) (o := .cells #[.int .i64 0, .bool false, .slice none 0 0] 24 (0, 0)) (by (with_reducible repeat (first | refine blk_drewN ?_ _ | refine blk_drew ?_ | refine blk_alloc ?_ _)); exact BK259.out) hb); have n2_ := Aside0.mk (below_step (by repeat (first | (with_reducible first | exact HB.out | apply below_alloc | apply pw_below_drewN | apply below_drew1 | refine below_set ?_ GE258.out | refine below_set ?_ GE259.out) | exact HB.out)) hb); clear BK258; clear BK259; clear HB; have BK258 := n0_; have BK259 := n1_; have HB := n2_; clear n0_ n1_ n2_; (try clear hb); (try clear hb2); (try clear hk); (try clear hi); obtain ⟨hcz65_0, hcz65_1, hcz65_2⟩ := cel3 BK259.out; obtain ⟨hfz65_0, hfz65_1, hfz65_2⟩ := frz3 BK259.out)); try go_wp2_with (first | ((with_reducible refine gate_dst (N := 4) rfl ?_); refine box_event ?hg (N := 4) ?hd (cs := #[.int .i64 a1_0, .bool a1_1, .slice A1_2 l1_2.length c1_2]) (t := 24) ?hr ?_; (case hd => rfl); (case hg => rfl); (case hr => first | (go_simp; done) | (go_simp; rfl)); intro gb258 hg w60 hbox hb; have n0_ := Aside0.mk (below_step (by repeat (first | (with_reducible first | exact HB.out | apply below_alloc | apply pw_below_drewN | apply below_drew1) | exact HB.out)) hb); have n1_ := Aside0.mk (hbox); have n2_ := Aside0.mk ((by rw [hg]; exact (below_size (by repeat (first | (with_reducible first | exact HB.out | apply below_alloc | apply pw_below_drewN | apply below_drew1) | exact HB.out))) : w.heap.size ≤ gb258)); have n3_ := Aside0.mk ((by rw [hg]; exact (below_size (by repeat (first | (with_reducible first | exact HB.out | apply below_alloc | apply pw_below_drewN | apply below_drew1) | exact HB.out))) : w.heap.size ≤ gb258)); clear HB; have HB := n0_; have BK258 := n1_; have GW258 := n2_; have GE258 := n3_; clear n0_ n1_ n2_ n3_; clear hb hbox hg) | ((with_reducible refine gate_dst (N := 6) rfl ?_); refine box_event ?hg (N := 6) ?hd (cs := #[.int .i64 0, .bool false, .slice none 0 0]) (t := 24) ?hr ?_; (case hd => rfl); (case hg => rfl); (case hr => first | (go_simp; done) | (go_simp; rfl)); intro gb259 hg w61 hbox hb; have n0_ := Aside0.mk (blk_below (g := gb258) (o := .cells #[.int .i64 a1_0, .bool a1_1, .slice A1_2 l1_2.length c1_2] 24 (0, 0)) (by (with_reducible repeat (first | refine blk_drewN ?_ _ | refine blk_drew ?_ | refine blk_alloc ?_ _)); exact BK258.out) hb); have n1_ := Aside0.mk (below_step (by repeat (first | (with_reducible first | exact HB.out | apply below_alloc | apply pw_below_drewN | apply below_drew1 | refine below_set ?_ GE258.out) | exact HB.out)) hb); have n2_ := Aside0.mk (hbox); have n3_ := Aside0.mk ((by rw [hg]; exact (below_size (by repeat (first | (with_reducible first | exact HB.out | apply below_alloc | apply pw_below_drewN | apply below_drew1 | refine below_set ?_ GE258.out) | exact HB.out))) : w.heap.size ≤ gb259)); have n4_ := Aside0.mk ((by rw [hg]; exact (below_size (by repeat (first | (with_reducible first | exact HB.out | apply below_alloc | apply pw_below_drewN | apply below_drew1 | refine below_set ?_ GE258.out) | exact HB.out))) : w.heap.size ≤ gb259)); have n5_ := Aside0.mk ((by rw [hg]; exact Nat.ne_of_lt (blk_lt (g := gb258) (o := .cells #[.int .i64 a1_0, .bool a1_1, .slice A1_2 l1_2.length c1_2] 24 (0, 0)) (by (with_reducible repeat (first | refine blk_drewN ?_ _ | refine blk_drew ?_ | refine blk_alloc ?_ _)); exact BK258.out)) : gb258 ≠ gb259)); have n6_ := Aside0.mk ((by rw [hg]; exact Nat.ne_of_gt (blk_lt (g := gb258) (o := .cells #[.int .i64 a1_0, .bool a1_1, .slice A1_2 l1_2.length c1_2] 24 (0, 0)) (by (with_reducible repeat (first | refine blk_drewN ?_ _ | refine blk_drew ?_ | refine blk_alloc ?_ _)); exact BK258.out)) : gb259 ≠ gb258)); clear BK258; clear HB; have BK258 := n0_; have HB := n1_; have BK259 := n2_; have GW259 := n3_; have GE259 := n4_; have NB258_259 := n5_; have NB259_258 := n6_; clear n0_ n1_ n2_ n3_ n4_ n5_ n6_; clear hb hbox hg; have hnb62 := NB258_259.out; have hnc62 := NB259_258.out; obtain ⟨hcz63_0, hcz63_1, hcz63_2⟩ := cel3 BK258.out; obtain ⟨hfz63_0, hfz63_1, hfz63_2⟩ := frz3 BK258.out) | (go_at_call 11; (with_reducible refine (masterdiscref14_Valid.calls a0 a1_0 a1_1 _ _ l1_2 false _ ?side1 ?side2 A4.out).mono ?_); (case side1 => repeat (first | exact (Kd.C_below HR1_2.out HB.out) | (with_reducible refine Kd.C_alloc ?_ _) | (with_reducible refine Kd.C_drewN ?_ _) | (with_reducible refine Kd.C_drew ?_))); (case side2 => exact HC1_2.out); rintro e w64 ⟨rfl, hb⟩; have n0_ := Aside0.mk (blk_below (g := gb258) (o := .cells #[.int .i64 a1_0, .bool a1_1, .slice A1_2 l1_2.length c1_2] 24 (0, 0)) (by (with_reducible repeat (first | refine blk_drewN ?_ _ | refine blk_drew ?_ | refine blk_alloc ?_ _)); exact BK258.out) hb); have n1_ := Aside0.mk (blk_below (g := gb259) (o := .cells #[.int .i64 0, .bool false, .slice none 0 0] 24 (0, 0)) (by (with_reducible repeat (first | refine blk_drewN ?_ _ | refine blk_drew ?_ | refine blk_alloc ?_ _)); exact BK259.out) hb); have n2_ := Aside0.mk (below_step (by repeat (first | (with_reducible first | exact HB.out | apply below_alloc | apply pw_below_drewN | apply below_drew1 | refine below_set ?_ GE258.out | refine below_set ?_ GE259.out) | exact HB.out)) hb); clear BK258; clear BK259; clear HB; have BK258 := n0_; have BK259 := n1_; have HB := n2_; clear n0_ n1_ n2_; (try clear hb); (try clear hb2); (try clear hk); (try clear hi); obtain ⟨hcz65_0, hcz65_1, hcz65_2⟩ := cel3 BK259.out; obtain ⟨hfz65_0, hfz65_1, hfz65_2⟩ := frz3 BK259.out)))
   refine bodyPost_ret (results_ct rfl _ _ gb259 24 #[.int .i64 0, .bool false, .slice none 0 0] (0, 0) _ rfl (by (with_reducible repeat (first | refine blk_drewN ?_ _ | refine blk_drew ?_ | refine blk_alloc ?_ _)); refine blk_put (cs := #[.int .i64 0, .bool false, .slice none 0 0]) ?_ 2 _ rfl; (with_reducible repeat (first | refine blk_drewN ?_ _ | refine blk_drew ?_ | refine blk_alloc ?_ _)); refine blk_put (cs := #[.int .i64 0, .bool false, .slice none 0 0]) ?_ 1 _ rfl; (with_reducible repeat (first | refine blk_drewN ?_ _ | refine blk_drew ?_ | refine blk_alloc ?_ _)); refine blk_put (cs := #[.int .i64 0, .bool false, .slice none 0 0]) ?_ 0 _ rfl; (with_reducible repeat (first | refine blk_drewN ?_ _ | refine blk_drew ?_ | refine blk_alloc ?_ _)); exact BK259.out) Try.underlying24 rfl (by kernel_rfl)) rfl ?_
   exact ⟨_, by first | rfl | (simp [errW_none, errW_some] <;> rfl) | (simp [*, errW_none, errW_some] <;> rfl), by first | exact Kd.R_nil _ _ _ _ _ | exact Kd.N_nil _ _ _ _ _ | exact Kd.V_nil _ _ _ _ _ | exact Kd.Q_nil _ _ _ _ _ | exact Kd.S_nil _ _ _ _ _, by repeat (first | (with_reducible first | exact HB.out | apply below_alloc | apply pw_below_drewN | apply below_drew1 | refine below_set ?_ GE258.out | refine below_set ?_ GE259.out) | exact HB.out)⟩
end Go.Proofs.Ytjhepdcdhabcjaa.G
namespace Go.Proofs.Ytjhepdcdhabcjaa.G
open Go.RowKit Go.Proofs.YtjhepdcdhabcjaaW.PrintWords Go.Proofs.YtjhepdcdhabcjaaW.PrintLast Go.Proofs.YtjhepdcdhabcjaaW.PrintMore
set_option linter.unusedVariables false
set_option linter.unusedSimpArgs false
def TOK (cap : Int) (x : S40) : Prop := 0 ≤ x.f2 ∧ 1 ≤ x.f3 ∧ x.f2 + x.f3 ≤ cap ∧ x.f2 ≤ x.f4 ∧ x.f4 ≤ x.f2 + x.f3 ∧ 0 ≤ x.f6 ∧ x.f6 ≤ 1024 ∧ 1 ≤ x.f1 ∧ x.f1 ≤ 16
theorem rvX_tok {l : List S40} {cap cl : Int} {i : Nat} {e ses : Int} (hb : Before l cap i e ses) (hc0 : cap ≤ 449849) (hx : rvX cap cl (i : Int) (if rvT (i : Int) ses (rd_T40 l (i : Int)) = true then wrap64 (e + 16) else e) (if rvT (i : Int) ses (rd_T40 l (i : Int)) = true then wrap64 (ses + 1) else ses) (rd_T40 l (i : Int)) = true) :
 TOK cap (rd_T40 l (i : Int)) := by
 obtain ⟨e0, e1, a1, a2, -⟩ := hb
 obtain ⟨⟨-, p1, -, p2, p3, p4, p5⟩, pb, -, -, -⟩ := rvX_parts hx
 have pb := of_decide_eq_true (show decide _ = true from pb)
 generalize rd_T40 l (i : Int) = x at *
 have hw : wrap64 (ses + 1) = ses + 1 ∧ wrap64 (e + 16) = e + 16 := ⟨w64 (by omega), w64 (by omega)⟩
 have g2 : 0 ≤ x.f2 ∧ x.f2 ≤ 449849 + 16 := by
  rw [p3, hw.2]; split <;> omega
 have g1 : 1 ≤ x.f1 := by
  rw [p1, hw.1]; split <;> omega
 have hw2 : wrap64 (cap - x.f2) = cap - x.f2 := w64 (by omega)
 rw [hw2] at p5
 have hw3 : wrap64 (x.f2 + x.f3) = x.f2 + x.f3 := w64 (by omega)
 rw [hw3] at pb
 exact ⟨g2.1, p4, by omega, pb.2.2.1, pb.2.2.2, pb.1, pb.2.1, g1, p2⟩
theorem rvL_toks {l : List S40} {cap cl : Int} {fin : Bool} (hc0 : cap ≤ 449849) : ∀ (d i : Nat) (e ses : Int), Before l cap i e ses → rvL cap cl fin l d i e ses = true → ∀ j : Nat, i ≤ j → j < i + d → TOK cap (rd_T40 l (j : Int))
 | 0, i, e, ses, hb, h, j, h1, h2 => by omega
 | d + 1, i, e, ses, hb, h, j, h1, h2 => by
  rw [rvL] at h
  by_cases hx : rvX cap cl (i : Int) (if rvT (i : Int) ses (rd_T40 l (i : Int)) = true then wrap64 (e + 16) else e) (if rvT (i : Int) ses (rd_T40 l (i : Int)) = true then wrap64 (ses + 1) else ses) (rd_T40 l (i : Int)) = true
  · rw [if_pos hx] at h
    by_cases hj : j = i
    · subst hj; exact rvX_tok hb hc0 hx
    · exact rvL_toks hc0 d (i + 1) _ _ (before_step hb hc0 hx) h j (by omega) (by omega)
  · rw [if_neg hx] at h; cases h
theorem valid_toks {cap cl : Int} {fin : Bool} {l : List S40} (h : masterdiscref14_Valid.f cap cl fin l = some true) :
 (1 ≤ cap ∧ cap ≤ 449849 ∧ l.length ≤ 99 ∧ 0 ≤ cl ∧ cl ≤ 16) ∧ ∀ j : Nat, j < l.length → TOK cap (rd_T40 l (j : Int)) := by
 unfold masterdiscref14_Valid.f at h
 have h := Option.some.inj h
 by_cases hh : rvH cap cl (l.length : Int) = true
 · rw [if_pos hh] at h
   have hd := of_decide_eq_true hh
   exact ⟨by omega, fun j hj => rvL_toks hd.2.1 l.length 0 0 1 ⟨by omega, by omega, by omega, by omega, .inl ⟨rfl, rfl, rfl⟩⟩ h j (by omega) (by omega)⟩
 · rw [if_neg hh] at h; cases h
theorem valid_some (cap cl : Int) (fin : Bool) (l : List S40) : ∃ v, masterdiscref14_Valid.f cap cl fin l = some v := ⟨_, rfl⟩
def pkP (a b : Int) : Prop := 1 ≤ a ∧ 0 ≤ b ∧ b ≤ 1024 ∧ (b = 0 ∨ Int.tmod a b = 0)
instance (a b : Int) : Decidable (pkP a b) := by unfold pkP; infer_instance
theorem packets_eq (a b : Int) : toc_packets.f a b = some (decide (pkP a b)) := by
 unfold toc_packets.f
 by_cases hp : pkP a b
 · rw [decide_eq_true hp]
   obtain ⟨p1, p2, p3, p4⟩ := hp
   rw [if_pos p1, if_pos p2, if_pos p3]
   by_cases h : b = 0
   · rw [if_pos h]
   · rw [if_neg h, p4.resolve_left h]; rfl
 · rw [decide_eq_false hp]
   by_cases h1 : a ≥ 1
   · rw [if_pos h1]
     by_cases h2 : b ≥ 0
     · rw [if_pos h2]
       by_cases h3 : b ≤ 1024
       · rw [if_pos h3]
         by_cases h4 : b = 0
         · exact absurd ⟨h1, h2, h3, .inl h4⟩ hp
         · rw [if_neg h4, beq_eq_false_iff_ne.mpr (fun h => hp ⟨h1, h2, h3, .inr h⟩)]
       · rw [if_neg h3]
     · rw [if_neg h2]
   · rw [if_neg h1]
theorem ref_pk (k : Nat) (cap a b cl : Int) (fin : Bool) (l : List S40) :
 (if a < 1 then (masterdiscref14_Reserve.j0 k cap a b true cl fin l) else (if b < 0 then (masterdiscref14_Reserve.j0 k cap a b true cl fin l) else (if b > 1024 then (masterdiscref14_Reserve.j0 k cap a b true cl fin l) else (if b > 0 then (if b = 0 then (none) else (masterdiscref14_Reserve.j0 k cap a b ((Int.tmod a b) != 0) cl fin l)) else (masterdiscref14_Reserve.j0 k cap a b false cl fin l))))) = masterdiscref14_Reserve.j0 k cap a b (!decide (pkP a b)) cl fin l := by
 by_cases h1 : a < 1
 · rw [if_pos h1, decide_eq_false (fun h => absurd h.1 (by omega))]; rfl
 · rw [if_neg h1]
   by_cases h2 : b < 0
   · rw [if_pos h2, decide_eq_false (fun h => absurd h.2.1 (by omega))]; rfl
   · rw [if_neg h2]
     by_cases h3 : b > 1024
     · rw [if_pos h3, decide_eq_false (fun h => absurd h.2.2.1 (by omega))]; rfl
     · rw [if_neg h3]
       by_cases h4 : b > 0
       · rw [if_pos h4, if_neg (by omega)]
         by_cases h5 : Int.tmod a b = 0
         · rw [decide_eq_true (show pkP a b from ⟨by omega, by omega, by omega, .inr h5⟩), h5]; rfl
         · rw [decide_eq_false (fun h => h.2.2.2.elim (by omega) h5), bne_iff_ne.mpr h5]; rfl
       · rw [if_neg h4, decide_eq_true (show pkP a b from ⟨by omega, by omega, by omega, .inl (by omega)⟩)]; rfl
def newStart (cl : Int) (l : List S40) : Int :=
 if 0 < l.length then (if (rd_T40 l ((l.length : Int) - 1)).f1 ≤ cl then (rd_T40 l ((l.length : Int) - 1)).f2 + (rd_T40 l ((l.length : Int) - 1)).f3 + 16 else (rd_T40 l ((l.length : Int) - 1)).f2 + (rd_T40 l ((l.length : Int) - 1)).f3) else 0
theorem last_tok {cap : Int} {l : List S40} (h : ∀ j : Nat, j < l.length → TOK cap (rd_T40 l (j : Int))) (hp : 0 < l.length) : TOK cap (rd_T40 l ((l.length : Int) - 1)) := by
 have := h (l.length - 1) (by omega)
 rwa [show ((l.length - 1 : Nat) : Int) = (l.length : Int) - 1 by omega] at this
theorem start_eq {cap cl : Int} {l : List S40} (hc : cap ≤ 449849) (hcl : 0 ≤ cl ∧ cl ≤ 16) (hn : l.length ≤ 99) (h : ∀ j : Nat, j < l.length → TOK cap (rd_T40 l (j : Int))) : toc_start.f l (wrap64 (cl + 1)) = some (newStart cl l) := by
 unfold toc_start.f newStart toc_end.f
 by_cases hp : 0 < l.length
 · obtain ⟨t0, t1, t2, -⟩ := last_tok h hp
   have hw : wrap64 (cl + 1) = cl + 1 ∧ wrap64 ((l.length : Int) - 1) = (l.length : Int) - 1 := ⟨w64 (by omega), w64 (by omega)⟩
   rw [if_neg (by omega), hw.1, hw.2, if_pos (by omega), if_pos (by omega), if_pos hp]
   generalize rd_T40 l ((l.length : Int) - 1) = x at *
   have hw2 : wrap64 (x.f2 + x.f3) = x.f2 + x.f3 ∧ wrap64 (x.f2 + x.f3 + 16) = x.f2 + x.f3 + 16 := ⟨w64 (by omega), w64 (by omega)⟩
   rw [hw2.1]
   simp only [Option.bind]
   rw [hw2.2]
   by_cases hs : x.f1 ≤ cl
   · rw [if_pos (by omega), if_pos hs]
   · rw [if_neg (by omega), if_neg hs]
 · rw [if_pos (by omega), if_neg hp]
theorem clone_eq {cl : Int} {fin : Bool} {l : List S40} (hl : l.length < 2513169434916) : toc_clone.f cl fin l = some (cl, fin, l) := by simp only [toc_clone.f, api_Track_44.f, if_pos hl, Option.bind]
def opReserve (cap cl : Int) (fin : Bool) (l : List S40) (a b : Int) : Int × Bool × List S40 × Int :=
 if fin = true then (0, false, [], 15) else if pkP a b then (if (l.length : Int) = 99 ∨ cl = 16 then (0, false, [], 7) else if a > cap - newStart cl l then (0, false, [], 12)
  else (cl, fin, l ++ [⟨(l.length : Int) + 1, cl + 1, newStart cl l, a, newStart cl l, 0, b⟩], 0)) else (0, false, [], 1)
theorem newStart_bd {cap cl : Int} {l : List S40} (hc : cap ≤ 449849) (h : ∀ j : Nat, j < l.length → TOK cap (rd_T40 l (j : Int))) : 0 ≤ newStart cl l ∧ newStart cl l ≤ 449865 := by
 unfold newStart
 by_cases hp : 0 < l.length
 · obtain ⟨t0, t1, t2, -⟩ := last_tok h hp
   rw [if_pos hp]
   split <;> omega
 · rw [if_neg hp]; omega
theorem reserve_toc (k : Nat) (cap cl : Int) (fin : Bool) (l : List S40) (a b : Int) (hB : ∀ x ∈ l, BdT x) (hv : masterdiscref14_Valid.f cap cl fin l = some true) : toc_Reserve.f (k + 4) cap cl fin l a b = some (opReserve cap cl fin l a b) := by
 obtain ⟨⟨c1, c2, c3, c4, c5⟩, ht⟩ := valid_toks hv
 unfold toc_Reserve.f opReserve
 rw [valid_eq _ _ _ _ hB, hv, packets_eq]
 simp only [Option.bind, if_true]
 cases fin with
 | true => rfl
 | false =>
  simp only [Bool.false_eq_true, if_false]
  by_cases hp : pkP a b
  · rw [decide_eq_true hp, if_pos rfl, if_pos hp]
    have hs := newStart_bd (cl := cl) c2 ht
    have hw : wrap64 (cap - newStart cl l) = cap - newStart cl l ∧ wrap64 ((l.length : Int) + 1) = (l.length : Int) + 1 ∧ wrap64 (cl + 1) = cl + 1 := ⟨w64 (by omega), w64 (by omega), w64 (by omega)⟩
    by_cases h9 : (l.length : Int) = 99
    · rw [if_pos h9, if_pos (.inl h9), toc_Reserve.j0, if_pos rfl]
    · rw [if_neg h9]
      by_cases h16 : cl = 16
      · rw [if_pos (.inr h16), toc_Reserve.j0, if_pos (by simpa using h16)]
      · rw [if_neg (by omega), toc_Reserve.j0, if_neg (by simpa using h16), start_eq c2 ⟨c4, c5⟩ c3 ht, clone_eq (by omega)]
        simp only [Option.bind]
        rw [hw.1, hw.2.1, hw.2.2]
        by_cases hf : a > cap - newStart cl l
        · rw [if_pos hf, if_pos hf]
        · rw [if_neg hf, if_neg hf, if_pos (by omega)]
  · rw [decide_eq_false hp, if_neg hp]; rfl
theorem reserve_ref (k : Nat) (cap cl : Int) (fin : Bool) (l : List S40) (a b : Int) (hv : masterdiscref14_Valid.f cap cl fin l = some true) : masterdiscref14_Reserve.f (k + 4) cap cl fin l a b = some (opReserve cap cl fin l a b) := by
 obtain ⟨⟨c1, c2, c3, c4, c5⟩, ht⟩ := valid_toks hv
 unfold masterdiscref14_Reserve.f opReserve
 rw [hv]
 simp only [Option.bind, if_true]
 cases fin with
 | true => rfl
 | false =>
  simp only [Bool.false_eq_true, if_false]
  rw [ref_pk]
  by_cases hp : pkP a b
  · rw [decide_eq_true hp, if_pos hp]
    have hs := newStart_bd (cl := cl) c2 ht
    have hw : wrap64 (cap - newStart cl l) = cap - newStart cl l ∧ wrap64 ((l.length : Int) + 1) = (l.length : Int) + 1 ∧ wrap64 (cl + 1) = cl + 1 := ⟨w64 (by omega), w64 (by omega), w64 (by omega)⟩
    rw [masterdiscref14_Reserve.j0, if_neg (by decide)]
    by_cases h9 : (l.length : Int) = 99
    · rw [if_pos h9, if_pos (.inl h9), masterdiscref14_Reserve.j1, if_pos rfl]
    · rw [if_neg h9]
      by_cases h16 : cl = 16
      · rw [if_pos (.inr h16), masterdiscref14_Reserve.j1, if_pos (by simpa using h16)]
      · rw [if_neg (by omega), masterdiscref14_Reserve.j1, if_neg (by simpa using h16)]
        have key : ∀ s, s = newStart cl l → masterdiscref14_Reserve.j2 (k + 2) cap a b s cl false l = some (if a > cap - newStart cl l then (0, false, [], 12) else (cl, false, l ++ [⟨(l.length : Int) + 1, cl + 1, newStart cl l, a, newStart cl l, 0, b⟩], 0)) := by
         rintro s rfl
         rw [masterdiscref14_Reserve.j2, hw.1]
         by_cases hf : a > cap - newStart cl l
         · rw [if_pos hf, if_pos hf]
         · rw [if_neg hf, if_neg hf, hw.2.1, hw.2.2]
           simp only [Option.bind, List.length_nil, Nat.zero_add, List.nil_append, List.length_cons]
           rw [if_pos (by omega), if_pos (by omega)]
        by_cases hl : (l.length : Int) > 0
        · obtain ⟨t0, t1, t2, -⟩ := last_tok ht (by omega)
          have hw3 : wrap64 ((l.length : Int) - 1) = (l.length : Int) - 1 := w64 (by omega)
          rw [if_pos hl, hw3, if_pos (by omega), if_pos (by omega)]
          have hN : newStart cl l = _ := if_pos (by omega)
          generalize rd_T40 l ((l.length : Int) - 1) = x at *
          have hw2 : wrap64 (x.f2 + x.f3) = x.f2 + x.f3 ∧ wrap64 (x.f2 + x.f3 + 16) = x.f2 + x.f3 + 16 := ⟨w64 (by omega), w64 (by omega)⟩
          rw [hw2.1, hw2.2]
          by_cases hs1 : x.f1 ≤ cl
          · rw [if_pos hs1, key _ (by rw [hN, if_pos hs1])]
          · rw [if_neg hs1, key _ (by rw [hN, if_neg hs1])]
        · rw [if_neg hl, key 0 (by unfold newStart; rw [if_neg (by omega)])]
  · rw [decide_eq_false hp, if_neg hp, masterdiscref14_Reserve.j0]; rfl
def apFind (l : List S40) (lba : Int) : Nat → Option Nat
 | 0 => none
 | n + 1 => if ¬ (rd_T40 l (n : Int)).f5 = 2 ∧ (rd_T40 l (n : Int)).f4 = lba then some n else apFind l lba n
theorem apFind_some {l : List S40} {lba : Int} : ∀ {n i : Nat}, apFind l lba n = some i → i < n ∧ ¬ (rd_T40 l (i : Int)).f5 = 2 ∧ (rd_T40 l (i : Int)).f4 = lba
 | 0, i, h => by cases h
 | n + 1, i, h => by
  unfold apFind at h
  by_cases hc : ¬ (rd_T40 l (n : Int)).f5 = 2 ∧ (rd_T40 l (n : Int)).f4 = lba
  · rw [if_pos hc] at h
    obtain rfl := Option.some.inj h
    exact ⟨by omega, hc⟩
  · rw [if_neg hc] at h
    have := apFind_some h
    exact ⟨by omega, this.2⟩
def apNew (x : S40) (cnt : Int) : S40 := ⟨x.f0, x.f1, x.f2, x.f3, x.f4 + cnt, 1, x.f6⟩
def apRes (cl : Int) (fin : Bool) (l : List S40) (cnt : Int) : Option Nat → Int × Bool × List S40 × Int
 | none => (0, false, [], 2)
 | some i => if pkP cnt (rd_T40 l (i : Int)).f6 then (if cnt > (rd_T40 l (i : Int)).f2 + (rd_T40 l (i : Int)).f3 - (rd_T40 l (i : Int)).f4 then (0, false, [], 12) else (cl, fin, l.set i (apNew (rd_T40 l (i : Int)) cnt), 0)) else (0, false, [], 1)
def opAppend (cl : Int) (fin : Bool) (l : List S40) (lba cnt : Int) : Int × Bool × List S40 × Int := apRes cl fin l cnt (apFind l lba l.length)
theorem ap_j1 {cap cl : Int} {fin : Bool} {l : List S40} (hc : cap ≤ 449849) (hn : l.length ≤ 99) (h : ∀ j : Nat, j < l.length → TOK cap (rd_T40 l (j : Int))) (k : Nat) (cnt : Int) (i : Nat) (hi : i < l.length) :
 toc_Append.j1 (k + 1) (rd_T40 l (i : Int)).f4 cnt (i : Int) cl fin l = some (apRes cl fin l cnt (some i)) := by
 obtain ⟨t0, t1, t2, t3, t4, t5, t6, -⟩ := h i hi
 rw [toc_Append.j1, if_neg (by omega), if_pos (by omega), if_pos (by omega), packets_eq, clone_eq (by omega)]
 unfold toc_end.f apRes apNew
 simp only [Option.bind, Int.toNat_natCast]
 have hset : ∀ y, rd_T40 (l.set i y) (i : Int) = y := fun y => by
  have := rd_set_self (l := l) (i := (i : Int)) y (by omega) (by omega)
  rwa [Int.toNat_natCast] at this
 have hw : wrap64 ((rd_T40 l (i : Int)).f2 + (rd_T40 l (i : Int)).f3) = (rd_T40 l (i : Int)).f2 + (rd_T40 l (i : Int)).f3 ∧ wrap64 ((rd_T40 l (i : Int)).f2 + (rd_T40 l (i : Int)).f3 - (rd_T40 l (i : Int)).f4) = (rd_T40 l (i : Int)).f2 + (rd_T40 l (i : Int)).f3 - (rd_T40 l (i : Int)).f4 := ⟨w64 (by omega), w64 (by omega)⟩
 rw [hw.1, hw.2]
 by_cases hp : pkP cnt (rd_T40 l (i : Int)).f6
 · rw [decide_eq_true hp, if_pos rfl, if_pos hp]
   by_cases hf : cnt > (rd_T40 l (i : Int)).f2 + (rd_T40 l (i : Int)).f3 - (rd_T40 l (i : Int)).f4
   · rw [if_pos hf, if_pos hf]
   · have hw2 : wrap64 ((rd_T40 l (i : Int)).f4 + cnt) = (rd_T40 l (i : Int)).f4 + cnt := w64 (by have := hp.1; omega)
     rw [if_neg hf, if_neg hf, if_pos (by omega), hset, List.set_set, hw2]
 · rw [decide_eq_false hp, if_neg hp]; rfl
theorem ap_l0 {cap cl : Int} {fin : Bool} {l : List S40} (hc : cap ≤ 449849) (hn : l.length ≤ 99) (h : ∀ j : Nat, j < l.length → TOK cap (rd_T40 l (j : Int))) (lba cnt : Int) :
 ∀ (n k : Nat), n ≤ l.length → toc_Append.l0 (k + n + 2) lba cnt ((n : Int) - 1) cl fin l = some (apRes cl fin l cnt (apFind l lba n))
 | 0, k, hl => by
  rw [toc_Append.l0, if_neg (by omega), toc_Append.j1, if_pos (by omega)]
  rfl
 | n + 1, k, hl => by
  have e : ((n + 1 : Nat) : Int) - 1 = (n : Int) := by omega
  have hw : wrap64 ((n : Int) - 1) = (n : Int) - 1 := w64 (by omega)
  have ek : k + (n + 1) + 1 = k + n + 2 := by omega
  rw [e, toc_Append.l0, if_pos (by omega), if_pos (by omega), if_pos (by omega), hw, ek]
  unfold apFind
  by_cases h5 : (rd_T40 l (n : Int)).f5 = 2
  · rw [if_pos h5, if_neg (fun hh => hh.1 h5)]
    exact ap_l0 hc hn h lba cnt n k (by omega)
  · rw [if_neg h5]
    by_cases h4 : (rd_T40 l (n : Int)).f4 = lba
    · subst h4
      rw [if_pos rfl, if_pos ⟨h5, rfl⟩]
      exact ap_j1 hc hn h (k + n + 1) cnt n (by omega)
    · rw [if_neg h4, if_neg (fun hh => h4 hh.2)]
      exact ap_l0 hc hn h lba cnt n k (by omega)
theorem append_toc (k : Nat) (cap cl : Int) (fin : Bool) (l : List S40) (a b : Int) (hB : ∀ x ∈ l, BdT x) (hv : masterdiscref14_Valid.f cap cl fin l = some true) : toc_Append.f (k + l.length + 2) cap cl fin l a b = some (opAppend cl fin l a b) := by
 obtain ⟨⟨c1, c2, c3, c4, c5⟩, ht⟩ := valid_toks hv
 unfold toc_Append.f opAppend
 rw [valid_eq _ _ _ _ hB, hv]
 simp only [Option.bind, if_true]
 rw [w64 (n := (l.length : Int) - 1) (by omega)]
 exact ap_l0 c2 c3 ht a b l.length k (Nat.le_refl _)
theorem changed_eq {cl : Int} {fin : Bool} {l : List S40} (hn : l.length ≤ 99) (i : Nat) (hi : i < l.length) (a b c d e f g : Int) : masterdiscref14_changed.f cl fin l (i : Int) a b c d e f g = some (cl, fin, l.set i ⟨a, b, c, d, e, f, g⟩) := by
 unfold masterdiscref14_changed.f
 simp only [Option.bind, List.length_nil, Nat.zero_add, List.nil_append, Int.toNat_natCast]
 rw [if_pos (by omega), if_pos (by omega), if_pos (by omega)]
theorem rap_l0 {cap cl : Int} {fin : Bool} {l : List S40} (hc : cap ≤ 449849) (hn : l.length ≤ 99) (h : ∀ j : Nat, j < l.length → TOK cap (rd_T40 l (j : Int))) (lba cnt : Int) :
 ∀ (n k : Nat), n ≤ l.length → masterdiscref14_Append.l0 (k + 2 * n + 3) lba cnt ((n : Int) - 1) cl fin l = some (apRes cl fin l cnt (apFind l lba n))
 | 0, k, hl => by
  rw [masterdiscref14_Append.l0, if_neg (by omega)]
  rfl
 | n + 1, k, hl => by
  have e : ((n + 1 : Nat) : Int) - 1 = (n : Int) := by omega
  have hw : wrap64 ((n : Int) - 1) = (n : Int) - 1 := w64 (by omega)
  have ek : k + 2 * (n + 1) + 2 = k + 2 * n + 3 + 1 := by omega
  obtain ⟨t0, t1, t2, t3, t4, t5, t6, -⟩ := h n (by omega)
  rw [e, masterdiscref14_Append.l0, if_pos (by omega), if_pos (by omega), if_pos (by omega), ek]
  unfold apFind
  by_cases h5 : (rd_T40 l (n : Int)).f5 = 2
  · rw [if_pos h5, if_neg (fun hh => hh.1 h5), masterdiscref14_Append.j1, if_pos rfl, hw]
    exact rap_l0 hc hn h lba cnt n k (by omega)
  · rw [if_neg h5, masterdiscref14_Append.j1, hw]
    by_cases h4 : (rd_T40 l (n : Int)).f4 = lba
    · have hj2 : ∀ b, masterdiscref14_Append.j2 (k + 2 * n + 3) cnt (n : Int) b cl fin l (rd_T40 l (n : Int)).f0 (rd_T40 l (n : Int)).f1 (rd_T40 l (n : Int)).f2 (rd_T40 l (n : Int)).f3 (rd_T40 l (n : Int)).f4 (rd_T40 l (n : Int)).f5 (rd_T40 l (n : Int)).f6 = if b = true then some (0, false, [], 1) else some (if cnt > (rd_T40 l (n : Int)).f2 + (rd_T40 l (n : Int)).f3 - (rd_T40 l (n : Int)).f4 then (0, false, [], 12) else (cl, fin, l.set n ⟨(rd_T40 l (n : Int)).f0, (rd_T40 l (n : Int)).f1, (rd_T40 l (n : Int)).f2, (rd_T40 l (n : Int)).f3, wrap64 ((rd_T40 l (n : Int)).f4 + cnt), 1, (rd_T40 l (n : Int)).f6⟩, 0)) := by
       intro b
       rw [masterdiscref14_Append.j2, changed_eq hn n (by omega)]
       have hw3 : wrap64 ((rd_T40 l (n : Int)).f2 + (rd_T40 l (n : Int)).f3) = (rd_T40 l (n : Int)).f2 + (rd_T40 l (n : Int)).f3 ∧ wrap64 ((rd_T40 l (n : Int)).f2 + (rd_T40 l (n : Int)).f3 - (rd_T40 l (n : Int)).f4) = (rd_T40 l (n : Int)).f2 + (rd_T40 l (n : Int)).f3 - (rd_T40 l (n : Int)).f4 := ⟨w64 (by omega), w64 (by omega)⟩
       rw [hw3.1, hw3.2]
       simp only [Option.bind]
       cases b with
       | true => rfl
       | false =>
        simp only [Bool.false_eq_true, if_false]
        split <;> rfl
      have hF : (if ¬ (rd_T40 l (n : Int)).f5 = 2 ∧ (rd_T40 l (n : Int)).f4 = lba then some n else apFind l lba n) = some n := if_pos ⟨h5, h4⟩
      have hb : ((rd_T40 l (n : Int)).f4 != lba) = false := bne_eq_false_iff_eq.mpr h4
      rw [hF, hb, if_neg (show ¬ (false = true) by decide)]
      simp only [hj2, if_true, Bool.false_eq_true, if_false]
      unfold apRes apNew
      dsimp only
      by_cases hp : pkP cnt (rd_T40 l (n : Int)).f6
      · have hg : ¬ (cnt > (rd_T40 l (n : Int)).f2 + (rd_T40 l (n : Int)).f3 - (rd_T40 l (n : Int)).f4) → wrap64 ((rd_T40 l (n : Int)).f4 + cnt) = (rd_T40 l (n : Int)).f4 + cnt := fun hf => w64 (by have := hp.1; omega)
        have hfin : some (if cnt > (rd_T40 l (n : Int)).f2 + (rd_T40 l (n : Int)).f3 - (rd_T40 l (n : Int)).f4 then ((0, false, [], 12) : Int × Bool × List S40 × Int) else (cl, fin, l.set n ⟨(rd_T40 l (n : Int)).f0, (rd_T40 l (n : Int)).f1, (rd_T40 l (n : Int)).f2, (rd_T40 l (n : Int)).f3, wrap64 ((rd_T40 l (n : Int)).f4 + cnt), 1, (rd_T40 l (n : Int)).f6⟩, 0)) = some (if cnt > (rd_T40 l (n : Int)).f2 + (rd_T40 l (n : Int)).f3 - (rd_T40 l (n : Int)).f4 then (0, false, [], 12) else (cl, fin, l.set n ⟨(rd_T40 l (n : Int)).f0, (rd_T40 l (n : Int)).f1, (rd_T40 l (n : Int)).f2, (rd_T40 l (n : Int)).f3, (rd_T40 l (n : Int)).f4 + cnt, 1, (rd_T40 l (n : Int)).f6⟩, 0)) := by
         by_cases hf : cnt > (rd_T40 l (n : Int)).f2 + (rd_T40 l (n : Int)).f3 - (rd_T40 l (n : Int)).f4
         · rw [if_pos hf, if_pos hf]
         · rw [if_neg hf, if_neg hf, hg hf]
        rw [if_pos hp, if_neg (by have := hp.1; omega), ← hfin]
        by_cases h6 : (rd_T40 l (n : Int)).f6 > 0
        · have ht := hp.2.2.2.resolve_left (by omega)
          rw [if_pos h6, if_neg (by omega), ht, if_neg (by decide)]
        · rw [if_neg h6]
      · rw [if_neg hp]
        by_cases h1 : cnt < 1
        · rw [if_pos h1]
        · rw [if_neg h1]
          by_cases h6 : (rd_T40 l (n : Int)).f6 > 0
          · rw [if_pos h6, if_neg (by omega), if_pos (by
             rw [bne_iff_ne]; intro ht; exact hp ⟨by omega, t5, t6, .inr ht⟩)]
          · exact absurd ⟨by omega, t5, t6, .inl (by omega)⟩ hp
    · have hF : (if ¬ (rd_T40 l (n : Int)).f5 = 2 ∧ (rd_T40 l (n : Int)).f4 = lba then some n else apFind l lba n) = apFind l lba n := if_neg (fun hh => h4 hh.2)
      have hb : ((rd_T40 l (n : Int)).f4 != lba) = true := bne_iff_ne.mpr h4
      rw [hF, hb, if_pos rfl]
      exact rap_l0 hc hn h lba cnt n k (by omega)
theorem append_ref (k : Nat) (cap cl : Int) (fin : Bool) (l : List S40) (a b : Int) (hv : masterdiscref14_Valid.f cap cl fin l = some true) : masterdiscref14_Append.f (k + 2 * l.length + 3) cap cl fin l a b = some (opAppend cl fin l a b) := by
 obtain ⟨⟨c1, c2, c3, c4, c5⟩, ht⟩ := valid_toks hv
 unfold masterdiscref14_Append.f opAppend
 rw [hv]
 simp only [Option.bind, if_true]
 rw [w64 (n := (l.length : Int) - 1) (by omega)]
 exact rap_l0 c2 c3 ht a b l.length k (Nat.le_refl _)
def opCloseT (cl : Int) (fin : Bool) (l : List S40) (num : Int) : Int × Bool × List S40 × Int :=
 if num < 1 ∨ num > (l.length : Int) then (0, false, [], 6) else
  if (rd_T40 l (num - 1)).f5 = 1 ∧ (num = (l.length : Int) ∨ (rd_T40 l (num - 1)).f4 = (rd_T40 l (num - 1)).f2 + (rd_T40 l (num - 1)).f3) then
   (cl, fin, l.set (num - 1).toNat ⟨(rd_T40 l (num - 1)).f0, (rd_T40 l (num - 1)).f1, (rd_T40 l (num - 1)).f2, (rd_T40 l (num - 1)).f4 - (rd_T40 l (num - 1)).f2, (rd_T40 l (num - 1)).f4, 2, (rd_T40 l (num - 1)).f6⟩, 0) else (0, false, [], 8)
theorem closeT_toc (cap cl : Int) (fin : Bool) (l : List S40) (num : Int) (hB : ∀ x ∈ l, BdT x) (hv : masterdiscref14_Valid.f cap cl fin l = some true) : toc_CloseTrack.f cap cl fin l num = some (opCloseT cl fin l num) := by
 obtain ⟨⟨c1, c2, c3, c4, c5⟩, ht⟩ := valid_toks hv
 unfold toc_CloseTrack.f opCloseT
 rw [valid_eq _ _ _ _ hB, hv]
 simp only [Option.bind, if_true]
 by_cases hn : num < 1 ∨ num > (l.length : Int)
 · rw [if_pos hn, if_pos hn]
 · rw [if_neg hn, if_neg hn, if_pos (by omega)]
   obtain ⟨t0, t1, t2, t3, t4, t5, t6, -⟩ := ht (num - 1).toNat (by omega)
   rw [show (((num - 1).toNat : Nat) : Int) = num - 1 by omega] at t0 t1 t2 t3 t4 t5 t6
   generalize hx : rd_T40 l (num - 1) = x at *
   have hw : wrap64 (x.f2 + x.f3) = x.f2 + x.f3 ∧ wrap64 (x.f4 - x.f2) = x.f4 - x.f2 := ⟨w64 (by omega), w64 (by omega)⟩
   unfold ctOk ctNew ctLast
   rw [hx, hw.1, hw.2]
   by_cases h5 : x.f5 = 1
   · by_cases hl : num = (l.length : Int)
     · have hb : (x.f5 == 1 && (decide (num - 1 + 1 = (l.length : Int)) || x.f4 == x.f2 + x.f3)) = true := by rw [h5, decide_eq_true (show num - 1 + 1 = (l.length : Int) by omega)]; rfl
       have hc : x.f5 = 1 ∧ (num = (l.length : Int) ∨ x.f4 = x.f2 + x.f3) := ⟨h5, .inl hl⟩
       rw [if_pos hb, if_pos hc, decide_eq_true (show num - 1 + 1 = (l.length : Int) by omega), if_pos rfl]
     · by_cases h4 : x.f4 = x.f2 + x.f3
       · have hb : (x.f5 == 1 && (decide (num - 1 + 1 = (l.length : Int)) || x.f4 == x.f2 + x.f3)) = true := by rw [h5, beq_iff_eq.mpr h4, Bool.or_true]; rfl
         have hc : x.f5 = 1 ∧ (num = (l.length : Int) ∨ x.f4 = x.f2 + x.f3) := ⟨h5, .inr h4⟩
         rw [if_pos hb, if_pos hc, decide_eq_false (show ¬ num - 1 + 1 = (l.length : Int) by omega), if_neg (show ¬ (false = true) by decide), show x.f4 - x.f2 = x.f3 by omega]
       · have hb : (x.f5 == 1 && (decide (num - 1 + 1 = (l.length : Int)) || x.f4 == x.f2 + x.f3)) = false := by rw [decide_eq_false (show ¬ num - 1 + 1 = (l.length : Int) by omega), beq_eq_false_iff_ne.mpr h4, Bool.or_false, Bool.and_false]
         have hc : ¬ (x.f5 = 1 ∧ (num = (l.length : Int) ∨ x.f4 = x.f2 + x.f3)) := fun h => h.2.elim hl h4
         rw [hb, if_neg hc]; rfl
   · have hb : (x.f5 == 1 && (decide (num - 1 + 1 = (l.length : Int)) || x.f4 == x.f2 + x.f3)) = false := by rw [beq_eq_false_iff_ne.mpr h5]; rfl
     have hc : ¬ (x.f5 = 1 ∧ (num = (l.length : Int) ∨ x.f4 = x.f2 + x.f3)) := fun h => h5 h.1
     rw [hb, if_neg hc]; rfl
theorem closeT_ref (k : Nat) (cap cl : Int) (fin : Bool) (l : List S40) (num : Int) (hv : masterdiscref14_Valid.f cap cl fin l = some true) : masterdiscref14_CloseTrack.f (k + 2) cap cl fin l num = some (opCloseT cl fin l num) := by
 obtain ⟨⟨c1, c2, c3, c4, c5⟩, ht⟩ := valid_toks hv
 unfold masterdiscref14_CloseTrack.f opCloseT
 rw [hv]
 simp only [Option.bind, if_true]
 by_cases hn1 : num < 1
 · rw [if_pos hn1, if_pos (.inl hn1), masterdiscref14_CloseTrack.j0, if_pos rfl]
 · rw [if_neg hn1, masterdiscref14_CloseTrack.j0]
   by_cases hn2 : num > (l.length : Int)
   · rw [decide_eq_true hn2, if_pos rfl, if_pos (.inr hn2)]
   · have hw0 : wrap64 (num - 1) = num - 1 := w64 (by omega)
     rw [decide_eq_false hn2, if_neg (show ¬ (false = true) by decide), if_neg (show ¬ (num < 1 ∨ num > (l.length : Int)) by omega), hw0, if_pos (show 0 ≤ num - 1 by omega), if_pos (show num - 1 < (l.length : Int) by omega)]
     obtain ⟨t0, t1, t2, t3, t4, t5, t6, -⟩ := ht (num - 1).toNat (by omega)
     have hi : (((num - 1).toNat : Nat) : Int) = num - 1 := by omega
     rw [hi] at t0 t1 t2 t3 t4 t5 t6
     have hch := fun a b c d e f g => changed_eq (cl := cl) (fin := fin) c3 (num - 1).toNat (by omega) a b c d e f g
     rw [hi] at hch
     generalize rd_T40 l (num - 1) = x at *
     have hw : wrap64 (x.f2 + x.f3) = x.f2 + x.f3 ∧ wrap64 (x.f4 - x.f2) = x.f4 - x.f2 := ⟨w64 (by omega), w64 (by omega)⟩
     rw [hw.1]
     have hj : ∀ b, masterdiscref14_CloseTrack.j1 (k + 1) num b cl fin l x.f0 x.f1 x.f2 x.f3 x.f4 x.f5 x.f6 = if b = true then some (0, false, [], 8) else some (cl, fin, l.set (num - 1).toNat ⟨x.f0, x.f1, x.f2, x.f4 - x.f2, x.f4, 2, x.f6⟩, 0) := by
      intro b
      rw [masterdiscref14_CloseTrack.j1, hw0, hw.2, hch]
      rfl
     simp only [hj]
     by_cases h5 : x.f5 = 1
     · rw [if_pos h5]
       by_cases hl : num = (l.length : Int)
       · have hc : x.f5 = 1 ∧ (num = (l.length : Int) ∨ x.f4 = x.f2 + x.f3) := ⟨h5, .inl hl⟩
         rw [if_pos hl, if_pos hc]; rfl
       · rw [if_neg hl]
         by_cases h4 : x.f4 = x.f2 + x.f3
         · have hc : x.f5 = 1 ∧ (num = (l.length : Int) ∨ x.f4 = x.f2 + x.f3) := ⟨h5, .inr h4⟩
           rw [if_pos hc, bne_eq_false_iff_eq.mpr h4]; rfl
         · have hc : ¬ (x.f5 = 1 ∧ (num = (l.length : Int) ∨ x.f4 = x.f2 + x.f3)) := fun h => h.2.elim hl h4
           rw [if_neg hc, bne_iff_ne.mpr h4]; rfl
     · have hc : ¬ (x.f5 = 1 ∧ (num = (l.length : Int) ∨ x.f4 = x.f2 + x.f3)) := fun h => h5 h.1
       rw [if_neg h5, if_neg hc]; rfl
def opCloseS (cl : Int) (fin : Bool) (l : List S40) (fz : Bool) : Int × Bool × List S40 × Int :=
 if fin = true then (0, false, [], 15) else if l.any unfB = true then (0, false, [], 8) else
  if l.any (openB cl) = true then (cl + 1, fz, l, 0) else if fz = true ∧ ¬ cl = 0 then (cl, true, l, 0) else (0, false, [], 8)
theorem closeS_toc (cap cl : Int) (fin : Bool) (l : List S40) (fz : Bool) (hB : ∀ x ∈ l, BdT x) (hv : masterdiscref14_Valid.f cap cl fin l = some true) : toc_CloseSession.f cap cl fin l fz = some (opCloseS cl fin l fz) := by
 obtain ⟨⟨c1, c2, c3, c4, c5⟩, ht⟩ := valid_toks hv
 unfold toc_CloseSession.f opCloseS csOk
 rw [valid_eq _ _ _ _ hB, hv]
 simp only [Option.bind, if_true]
 cases fin with
 | true => rfl
 | false =>
  simp only [Bool.false_eq_true, if_false]
  rw [if_pos (show l.length < 2513169434916 by omega)]
  cases hu : l.any unfB with
  | true => rfl
  | false =>
   cases ho : l.any (openB cl) with
   | true => rfl
   | false =>
    cases fz with
    | false => rfl
    | true =>
     by_cases h0 : cl = 0
     · rw [if_neg (show ¬ (true = true ∧ ¬ cl = 0) from fun h => h.2 h0), beq_iff_eq.mpr h0]; rfl
     · rw [if_pos (show true = true ∧ ¬ cl = 0 from ⟨rfl, h0⟩), beq_eq_false_iff_ne.mpr h0]; rfl
theorem drop_any {l : List S40} (f : S40 → Bool) {i : Nat} (h : i < l.length) : (l.drop i).any f = (f (rd_T40 l (i : Int)) || (l.drop (i + 1)).any f) := by
 rw [List.drop_eq_getElem_cons h, List.any_cons]
 unfold rd_T40
 rw [Int.toNat_natCast, List.getD_eq_getElem?_getD, List.getElem?_eq_getElem h]
 rfl
theorem cs_l0 {cl : Int} {fin : Bool} {l : List S40} (fz : Bool) (hn : l.length ≤ 99) (hcl : 0 ≤ cl ∧ cl ≤ 16) :
 ∀ (d i k : Nat) (cnt : Int), i + d = l.length → 0 ≤ cnt → cnt ≤ i → masterdiscref14_CloseSession.l0 (k + d + 3) fz cnt (i : Int) cl fin l =
  some (if (l.drop i).any unfB = true then (0, false, [], 8) else if ¬ cnt = 0 ∨ (l.drop i).any (openB cl) = true then (cl + 1, fz, l, 0) else if fz = true ∧ ¬ cl = 0 then (cl, true, l, 0) else (0, false, [], 8))
 | 0, i, k, cnt, hd, h0, hc => by
  obtain rfl : i = l.length := by omega
  have hw : wrap64 (cl + 1) = cl + 1 := w64 (by omega)
  rw [masterdiscref14_CloseSession.l0, if_neg (by omega), List.drop_length]
  simp only [Option.bind, List.length_nil, Nat.zero_add, List.nil_append, List.any_nil, Bool.false_eq_true, if_false, or_false]
  rw [if_pos (by omega), hw]
  have hj : ∀ b, masterdiscref14_CloseSession.j1 (k + 2) b cl fin l = if b = true then some (0, false, [], 8) else some (cl, true, l, 0) := fun b => by rw [masterdiscref14_CloseSession.j1]
  have hj' : ∀ b, masterdiscref14_CloseSession.j1 (k + 0 + 2) b cl fin l = if b = true then some (0, false, [], 8) else some (cl, true, l, 0) := hj
  simp only [hj']
  by_cases hz : cnt = 0
  · simp only [hz, if_true, not_true_eq_false, if_false]
    cases fz with
    | false => simp
    | true =>
     by_cases hc0 : cl = 0
     · simp [hc0]
     · simp [hc0]
  · simp only [hz, if_false, not_false_eq_true, if_true]
 | d + 1, i, k, cnt, hd, h0, hc => by
  have hi : i < l.length := by omega
  have hw : wrap64 ((i : Int) + 1) = ((i + 1 : Nat) : Int) ∧ wrap64 (cnt + 1) = cnt + 1 := ⟨(w64 (by omega)).trans (by omega), w64 (by omega)⟩
  have ek : k + (d + 1) + 2 = k + d + 3 := by omega
  rw [masterdiscref14_CloseSession.l0, if_pos (by omega), if_pos (by omega), ek, hw.1, hw.2, drop_any unfB hi, drop_any (openB cl) hi]
  by_cases h5 : (rd_T40 l (i : Int)).f5 = 2
  · have hu : unfB (rd_T40 l (i : Int)) = false := by unfold unfB; rw [h5]; rfl
    rw [if_pos h5, hu, Bool.false_or]
    by_cases h1 : (rd_T40 l (i : Int)).f1 > cl
    · have ho : openB cl (rd_T40 l (i : Int)) = true := decide_eq_true h1
      rw [if_pos h1, cs_l0 fz hn hcl d (i + 1) k (cnt + 1) (by omega) (by omega) (by omega), ho, Bool.true_or]
      rw [if_pos (show ¬ cnt + 1 = 0 ∨ _ from .inl (by omega)), if_pos (show ¬ cnt = 0 ∨ true = true from .inr rfl)]
    · have ho : openB cl (rd_T40 l (i : Int)) = false := decide_eq_false h1
      rw [if_neg h1, cs_l0 fz hn hcl d (i + 1) k cnt (by omega) (by omega) (by omega), ho, Bool.false_or]
  · have hu : unfB (rd_T40 l (i : Int)) = true := bne_iff_ne.mpr h5
    rw [if_neg h5, hu, Bool.true_or, if_pos rfl]
theorem closeS_ref (k : Nat) (cap cl : Int) (fin : Bool) (l : List S40) (fz : Bool) (hv : masterdiscref14_Valid.f cap cl fin l = some true) : masterdiscref14_CloseSession.f (k + l.length + 3) cap cl fin l fz = some (opCloseS cl fin l fz) := by
 obtain ⟨⟨c1, c2, c3, c4, c5⟩, ht⟩ := valid_toks hv
 unfold masterdiscref14_CloseSession.f opCloseS
 rw [hv]
 simp only [Option.bind, if_true]
 cases fin with
 | true => rfl
 | false =>
  simp only [Bool.false_eq_true, if_false]
  have := cs_l0 (fin := false) fz c3 ⟨c4, c5⟩ l.length 0 k 0 (by omega) (by omega) (by omega)
  rw [show (((0 : Nat)) : Int) = 0 from rfl, List.drop_zero] at this
  rw [this]
  simp only [not_true_eq_false, false_or]
end Go.Proofs.Ytjhepdcdhabcjaa.G
