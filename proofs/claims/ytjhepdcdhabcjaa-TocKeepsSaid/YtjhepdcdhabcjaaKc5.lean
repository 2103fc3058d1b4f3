/- Texts of one claim, merged by a program of this session; what is proved stands in the last of them. -/
import Derived.Test.YtjhepdcdhabcjaaKc1
import Derived.Test.YtjhepdcdhabcjaaKc3
namespace Go.Proofs.Ytjhepdcdhabcjaa.G
open Go.RowKit Go.Proofs.YtjhepdcdhabcjaaW.PrintWords Go.Proofs.YtjhepdcdhabcjaaW.PrintLast Go.Proofs.YtjhepdcdhabcjaaW.PrintMore
attribute [local go_sem] max2_int min2_int max_two min_two max_three min_three max_four min_four   -- for this text's walks alone
set_option linter.unusedVariables false
set_option linter.unusedSimpArgs false
attribute [local go_sem high] eqA40
mutual
def masterdisclaw14_TocKeeps.j0 : Nat → Int → List (S26) → Bool → Option (Bool)
 | 0, _, _, _ => none
 | k + 1, x0, x1, x27 => if x27 = true then (some true) else (masterdisclaw14_TocKeeps.l0 k x0 x1 (x1.length : Int) 0 0 false ([] : List (S40)))
def masterdisclaw14_TocKeeps.l0 : Nat → Int → List (S26) → Int → Int → Int → Bool → List (S40) → Option (Bool)
 | 0, _, _, _, _, _, _, _ => none
 | k + 1, x0, x29, x30, x31, x367000, x367001, x367002 => if x31 < x30 then (if 0 ≤ x31 then (if x31 < (x29.length : Int) then ((masterdisclaw14_do.f k x0 x367000 x367001 x367002 ((rd_T26 x29 x31).f0) ((rd_T26 x29 x31).f1) ((rd_T26 x29 x31).f2) ((rd_T26 x29 x31).f3)).bind fun bt369 => (if bt369.2.2.2 = 0 then (if x367001 = true then (masterdisclaw14_TocKeeps.j2 k x0 x29 x30 x31 true x367000 x367001 x367002 bt369.1 bt369.2.1 bt369.2.2.1) else ((toc_Valid.f x0 bt369.1 bt369.2.1 bt369.2.2.1).bind fun t376 => (if t376 = true then (if bt369.1 < x367000 then (masterdisclaw14_TocKeeps.j2 k x0 x29 x30 x31 true x367000 x367001 x367002 bt369.1 bt369.2.1 bt369.2.2.1) else (if bt369.1 > (wrap64 (x367000 + 1)) then (masterdisclaw14_TocKeeps.j2 k x0 x29 x30 x31 true x367000 x367001 x367002 bt369.1 bt369.2.1 bt369.2.2.1) else (masterdisclaw14_TocKeeps.j2 k x0 x29 x30 x31 (decide ((bt369.2.2.1.length : Int) < (x367002.length : Int))) x367000 x367001 x367002 bt369.1 bt369.2.1 bt369.2.2.1))) else (masterdisclaw14_TocKeeps.j2 k x0 x29 x30 x31 true x367000 x367001 x367002 bt369.1 bt369.2.1 bt369.2.2.1)))) else (if bt369.1 = 0 then (if bt369.2.1 = true then (none) else (if (bt369.2.2.1.length : Int) = 0 then (masterdisclaw14_TocKeeps.l0 k x0 x29 x30 (wrap64 (x31 + 1)) x367000 x367001 x367002) else (none))) else (none)))) else (none)) else (none)) else (some true)
def masterdisclaw14_TocKeeps.j2 : Nat → Int → List (S26) → Int → Int → Bool → Int → Bool → List (S40) → Int → Bool → List (S40) → Option (Bool)
 | 0, _, _, _, _, _, _, _, _, _, _, _ => none
 | k + 1, x0, x29, x30, x31, x88, x367000, x367001, x367002, x376000, x376001, x376002 => if x88 = true then (none) else (masterdisclaw14_TocKeeps.l1 k x0 x29 x30 x31 x367002 (x367002.length : Int) 0 x367000 x367001 x367002 x376000 x376001 x376002)
def masterdisclaw14_TocKeeps.l1 : Nat → Int → List (S26) → Int → Int → List (S40) → Int → Int → Int → Bool → List (S40) → Int → Bool → List (S40) → Option (Bool)
 | 0, _, _, _, _, _, _, _, _, _, _, _, _, _ => none
 | k + 1, x0, x29, x30, x31, x90, x91, x92, x367000, x367001, x367002, x376000, x376001, x376002 => if x92 < x91 then (if 0 ≤ x92 then (if x92 < (x90.length : Int) then (if x92 < (x376002.length : Int) then (if ((rd_T40 x90 x92).f5) = 2 then (if (!(((rd_T40 x376002 x92).f0) == ((rd_T40 x90 x92).f0)) || (!(((rd_T40 x376002 x92).f1) == ((rd_T40 x90 x92).f1)) || (!(((rd_T40 x376002 x92).f2) == ((rd_T40 x90 x92).f2)) || (!(((rd_T40 x376002 x92).f3) == ((rd_T40 x90 x92).f3)) || (!(((rd_T40 x376002 x92).f4) == ((rd_T40 x90 x92).f4)) || (!(((rd_T40 x376002 x92).f5) == ((rd_T40 x90 x92).f5)) || (!(((rd_T40 x376002 x92).f6) == ((rd_T40 x90 x92).f6))))))))) = true then (none) else (if ((rd_T40 x376002 x92).f4) < ((rd_T40 x90 x92).f4) then (none) else (if ((rd_T40 x376002 x92).f2) = ((rd_T40 x90 x92).f2) then (if ((rd_T40 x376002 x92).f1) = ((rd_T40 x90 x92).f1) then (if ((rd_T40 x376002 x92).f3) > ((rd_T40 x90 x92).f3) then (none) else (masterdisclaw14_TocKeeps.l1 k x0 x29 x30 x31 x90 x91 (wrap64 (x92 + 1)) x367000 x367001 x367002 x376000 x376001 x376002)) else (none)) else (none)))) else (if ((rd_T40 x376002 x92).f4) < ((rd_T40 x90 x92).f4) then (none) else (if ((rd_T40 x376002 x92).f2) = ((rd_T40 x90 x92).f2) then (if ((rd_T40 x376002 x92).f1) = ((rd_T40 x90 x92).f1) then (if ((rd_T40 x376002 x92).f3) > ((rd_T40 x90 x92).f3) then (none) else (masterdisclaw14_TocKeeps.l1 k x0 x29 x30 x31 x90 x91 (wrap64 (x92 + 1)) x367000 x367001 x367002 x376000 x376001 x376002)) else (none)) else (none)))) else (none)) else (none)) else (none)) else ((toc_Sessions.f k x367000 x367001 x367002).bind fun t381 => ((toc_Sessions.f k x376000 x376001 x376002).bind fun t384 => (if (t381.length : Int) < x367000 then (none) else (if (t384.length : Int) < x367000 then (none) else (if 0 ≤ x367000 then (if x367000 ≤ (t381.length : Int) then (if x367000 ≤ (t384.length : Int) then ((api_Session.f k (t381.take (x367000 : Int).toNat) (t384.take (x367000 : Int).toNat)).bind fun t395 => (if t395 = true then (masterdisclaw14_TocKeeps.l0 k x0 x29 x30 (wrap64 (x31 + 1)) x376000 x376001 x376002) else (none))) else (none)) else (none)) else (none))))))
end
def masterdisclaw14_TocKeeps.f (k : Nat) (a0 : Int) (l1 : List (S26)) : Option (Bool) := (masterdisclaw14_awake.f k).bind fun t365 => (if t365 = true then (if (l1.length : Int) > 40 then (masterdisclaw14_TocKeeps.j0 k a0 l1 true) else (if a0 < 1 then (masterdisclaw14_TocKeeps.j0 k a0 l1 true) else (masterdisclaw14_TocKeeps.j0 k a0 l1 (decide (a0 > 449849))))) else (none))
theorem masterdisclaw14_TocKeeps.mono_l : ∀ k, (∀ y0 y1 y2, LeO (masterdisclaw14_TocKeeps.j0 k y0 y1 y2) (masterdisclaw14_TocKeeps.j0 (k + 1) y0 y1 y2)) ∧ (∀ y0 y1 y2 y3 y4 y5 y6, LeO (masterdisclaw14_TocKeeps.l0 k y0 y1 y2 y3 y4 y5 y6) (masterdisclaw14_TocKeeps.l0 (k + 1) y0 y1 y2 y3 y4 y5 y6)) ∧ (∀ y0 y1 y2 y3 y4 y5 y6 y7 y8 y9 y10, LeO (masterdisclaw14_TocKeeps.j2 k y0 y1 y2 y3 y4 y5 y6 y7 y8 y9 y10) (masterdisclaw14_TocKeeps.j2 (k + 1) y0 y1 y2 y3 y4 y5 y6 y7 y8 y9 y10)) ∧ (∀ y0 y1 y2 y3 y4 y5 y6 y7 y8 y9 y10 y11 y12, LeO (masterdisclaw14_TocKeeps.l1 k y0 y1 y2 y3 y4 y5 y6 y7 y8 y9 y10 y11 y12) (masterdisclaw14_TocKeeps.l1 (k + 1) y0 y1 y2 y3 y4 y5 y6 y7 y8 y9 y10 y11 y12))
 | 0 => ⟨fun _ _ _ r h => by simp [masterdisclaw14_TocKeeps.j0] at h, fun _ _ _ _ _ _ _ r h => by simp [masterdisclaw14_TocKeeps.l0] at h, fun _ _ _ _ _ _ _ _ _ _ _ r h => by simp [masterdisclaw14_TocKeeps.j2] at h, fun _ _ _ _ _ _ _ _ _ _ _ _ _ r h => by simp [masterdisclaw14_TocKeeps.l1] at h⟩
 | k + 1 => by
  obtain ⟨ih0, ih1, ih2, ih3⟩ := masterdisclaw14_TocKeeps.mono_l k
  refine ⟨?_, ?_, ?_, ?_⟩
  · intro y0 y1 y2
    unfold masterdisclaw14_TocKeeps.j0
    repeat' first
    | (with_reducible exact ih0 _ _ _)
    | (with_reducible exact ih1 _ _ _ _ _ _ _)
    | (with_reducible exact ih2 _ _ _ _ _ _ _ _ _ _ _)
    | (with_reducible exact ih3 _ _ _ _ _ _ _ _ _ _ _ _ _)
    | (with_reducible exact api_Session.mono _ _ _)
    | (with_reducible exact masterdisclaw14_awake.mono _)
    | (with_reducible exact masterdisclaw14_do.mono _ _ _ _ _ _ _ _ _)
    | (with_reducible exact toc_Sessions.mono _ _ _ _)
    | (with_reducible exact LeO.refl _)
    | (with_reducible exact LeO.none _)
    | (with_reducible refine LeO.ite ?_ ?_)
    | (with_reducible refine LeO.bind ?_ (fun _ => ?_))
    | exact ih0 _ _ _
    | exact ih1 _ _ _ _ _ _ _
    | exact ih2 _ _ _ _ _ _ _ _ _ _ _
    | exact ih3 _ _ _ _ _ _ _ _ _ _ _ _ _
    | exact api_Session.mono _ _ _
    | exact masterdisclaw14_awake.mono _
    | exact masterdisclaw14_do.mono _ _ _ _ _ _ _ _ _
    | exact toc_Sessions.mono _ _ _ _
    | exact LeO.none _
    | refine LeO.ite ?_ ?_
    | refine LeO.bind ?_ (fun _ => ?_)
  · intro y0 y1 y2 y3 y4 y5 y6
    unfold masterdisclaw14_TocKeeps.l0
    repeat' first
    | (with_reducible exact ih0 _ _ _)
    | (with_reducible exact ih1 _ _ _ _ _ _ _)
    | (with_reducible exact ih2 _ _ _ _ _ _ _ _ _ _ _)
    | (with_reducible exact ih3 _ _ _ _ _ _ _ _ _ _ _ _ _)
    | (with_reducible exact api_Session.mono _ _ _)
    | (with_reducible exact masterdisclaw14_awake.mono _)
    | (with_reducible exact masterdisclaw14_do.mono _ _ _ _ _ _ _ _ _)
    | (with_reducible exact toc_Sessions.mono _ _ _ _)
    | (with_reducible exact LeO.refl _)
    | (with_reducible exact LeO.none _)
    | (with_reducible refine LeO.ite ?_ ?_)
    | (with_reducible refine LeO.bind ?_ (fun _ => ?_))
    | exact ih0 _ _ _
    | exact ih1 _ _ _ _ _ _ _
    | exact ih2 _ _ _ _ _ _ _ _ _ _ _
    | exact ih3 _ _ _ _ _ _ _ _ _ _ _ _ _
    | exact api_Session.mono _ _ _
    | exact masterdisclaw14_awake.mono _
    | exact masterdisclaw14_do.mono _ _ _ _ _ _ _ _ _
    | exact toc_Sessions.mono _ _ _ _
    | exact LeO.none _
    | refine LeO.ite ?_ ?_
    | refine LeO.bind ?_ (fun _ => ?_)
  · intro y0 y1 y2 y3 y4 y5 y6 y7 y8 y9 y10
    unfold masterdisclaw14_TocKeeps.j2
    repeat' first
    | (with_reducible exact ih0 _ _ _)
    | (with_reducible exact ih1 _ _ _ _ _ _ _)
    | (with_reducible exact ih2 _ _ _ _ _ _ _ _ _ _ _)
    | (with_reducible exact ih3 _ _ _ _ _ _ _ _ _ _ _ _ _)
    | (with_reducible exact api_Session.mono _ _ _)
    | (with_reducible exact masterdisclaw14_awake.mono _)
    | (with_reducible exact masterdisclaw14_do.mono _ _ _ _ _ _ _ _ _)
    | (with_reducible exact toc_Sessions.mono _ _ _ _)
    | (with_reducible exact LeO.refl _)
    | (with_reducible exact LeO.none _)
    | (with_reducible refine LeO.ite ?_ ?_)
    | (with_reducible refine LeO.bind ?_ (fun _ => ?_))
    | exact ih0 _ _ _
    | exact ih1 _ _ _ _ _ _ _
    | exact ih2 _ _ _ _ _ _ _ _ _ _ _
    | exact ih3 _ _ _ _ _ _ _ _ _ _ _ _ _
    | exact api_Session.mono _ _ _
    | exact masterdisclaw14_awake.mono _
    | exact masterdisclaw14_do.mono _ _ _ _ _ _ _ _ _
    | exact toc_Sessions.mono _ _ _ _
    | exact LeO.none _
    | refine LeO.ite ?_ ?_
    | refine LeO.bind ?_ (fun _ => ?_)
  · intro y0 y1 y2 y3 y4 y5 y6 y7 y8 y9 y10 y11 y12
    unfold masterdisclaw14_TocKeeps.l1
    repeat' first
    | (with_reducible exact ih0 _ _ _)
    | (with_reducible exact ih1 _ _ _ _ _ _ _)
    | (with_reducible exact ih2 _ _ _ _ _ _ _ _ _ _ _)
    | (with_reducible exact ih3 _ _ _ _ _ _ _ _ _ _ _ _ _)
    | (with_reducible exact api_Session.mono _ _ _)
    | (with_reducible exact masterdisclaw14_awake.mono _)
    | (with_reducible exact masterdisclaw14_do.mono _ _ _ _ _ _ _ _ _)
    | (with_reducible exact toc_Sessions.mono _ _ _ _)
    | (with_reducible exact LeO.refl _)
    | (with_reducible exact LeO.none _)
    | (with_reducible refine LeO.ite ?_ ?_)
    | (with_reducible refine LeO.bind ?_ (fun _ => ?_))
    | exact ih0 _ _ _
    | exact ih1 _ _ _ _ _ _ _
    | exact ih2 _ _ _ _ _ _ _ _ _ _ _
    | exact ih3 _ _ _ _ _ _ _ _ _ _ _ _ _
    | exact api_Session.mono _ _ _
    | exact masterdisclaw14_awake.mono _
    | exact masterdisclaw14_do.mono _ _ _ _ _ _ _ _ _
    | exact toc_Sessions.mono _ _ _ _
    | exact LeO.none _
    | refine LeO.ite ?_ ?_
    | refine LeO.bind ?_ (fun _ => ?_)
theorem masterdisclaw14_TocKeeps.mono : ∀ a0 a1 k, LeO (masterdisclaw14_TocKeeps.f k a0 a1) (masterdisclaw14_TocKeeps.f (k + 1) a0 a1) := by
 intro a0 a1 k
 obtain ⟨ih0, ih1, ih2, ih3⟩ := masterdisclaw14_TocKeeps.mono_l k
 unfold masterdisclaw14_TocKeeps.f
 repeat' first
  | (with_reducible exact ih0 _ _ _)
  | (with_reducible exact ih1 _ _ _ _ _ _ _)
  | (with_reducible exact ih2 _ _ _ _ _ _ _ _ _ _ _)
  | (with_reducible exact ih3 _ _ _ _ _ _ _ _ _ _ _ _ _)
  | (with_reducible exact api_Session.mono _ _ _)
  | (with_reducible exact masterdisclaw14_awake.mono _)
  | (with_reducible exact masterdisclaw14_do.mono _ _ _ _ _ _ _ _ _)
  | (with_reducible exact toc_Sessions.mono _ _ _ _)
  | (with_reducible exact LeO.refl _)
  | (with_reducible exact LeO.none _)
  | (with_reducible refine LeO.ite ?_ ?_)
  | (with_reducible refine LeO.bind ?_ (fun _ => ?_))
  | exact ih0 _ _ _
  | exact ih1 _ _ _ _ _ _ _
  | exact ih2 _ _ _ _ _ _ _ _ _ _ _
  | exact ih3 _ _ _ _ _ _ _ _ _ _ _ _ _
  | exact api_Session.mono _ _ _
  | exact masterdisclaw14_awake.mono _
  | exact masterdisclaw14_do.mono _ _ _ _ _ _ _ _ _
  | exact toc_Sessions.mono _ _ _ _
  | exact LeO.none _
  | refine LeO.ite ?_ ?_
  | refine LeO.bind ?_ (fun _ => ?_)
def masterdisclaw14_TocKeeps.T23 : Bool × List (List Nat × List Nat) := (true, [([], []), ([0], [0]), ([], []), ([2], [2]), ([1, 3], [1, 3]), ([4], [4]), ([5], [5]), ([6, 5], [5, 6]), ([5], [5]), ([8, 5], [5, 8]), ([7, 9, 5], [5, 7, 9]), ([5, 10], [5, 10]), ([11, 5], [11]), ([12], [12]), ([12], [12]), ([14, 12], [12, 14]), ([13, 15, 12], [12, 13, 15]), ([12], [12]), ([12], [12]), ([18, 12], [12, 18]), ([17, 19, 12], [12, 17, 19]), ([16, 20, 12, 12], [12, 16, 20]), ([21, 12], [12, 21]), ([12, 22], [12, 22])])
def masterdisclaw14_TocKeeps.B23 : List Nat := [0, 1, 0, 4, 15, 31, 63, 127, 63, 319, 1023, 2047, 4095, 8191, 8191, 24575, 65535, 8191, 8191, 270335, 925695, 2097151, 4194303, 8388607]
theorem masterdisclaw14_TocKeeps.tab23 : rtab .any (opsOf Try.f5 23) = masterdisclaw14_TocKeeps.T23 := by kernel_rfl
theorem masterdisclaw14_TocKeeps.bits23 : waitsOk masterdisclaw14_TocKeeps.T23.2 masterdisclaw14_TocKeeps.B23 = true := by kernel_rfl
set_option maxHeartbeats 8000000 in
set_option maxRecDepth 100000 in
theorem masterdisclaw14_TocKeeps.calls (k : Nat) (a0 : Int) (A1 : Option Addr) (c1 : Nat) (l1 : List (S26)) (r : Bool) (w : World) (hr1 : Kd.C k26 w A1 l1.length l1) (hc1 : l1.length ≤ c1) (h : masterdisclaw14_TocKeeps.f k a0 l1 = some r) :
 Calls Try.prog 5 #[.int .i64 a0, .slice A1 l1.length c1] w fun e w' => e = .returned (.bool r) ∧ Below w.heap.size w w' := by
 have hu24 := Try.underlying24
 have hu26 := Try.underlying26
 have hu40 := Try.underlying40
 have HR1 := Aside0.mk hr1
 have HC1 := Aside0.mk hc1
 clear hr1 hc1
 have HB := Aside0.mk (Below.refl w.heap.size w)
 have H : ((masterdisclaw14_awake.f k).bind fun t365 => (if t365 = true then (if (l1.length : Int) > 40 then (masterdisclaw14_TocKeeps.j0 k a0 l1 true) else (if a0 < 1 then (masterdisclaw14_TocKeeps.j0 k a0 l1 true) else (masterdisclaw14_TocKeeps.j0 k a0 l1 (decide (a0 > 449849))))) else (none))) = some r := h
 clear h
 replace H := Option.bind_eq_some_iff.mp H
 obtain ⟨t365, A30, H⟩ := H
 replace H : (if t365 = true then (if (l1.length : Int) > 40 then (masterdisclaw14_TocKeeps.j0 k a0 l1 true) else (if a0 < 1 then (masterdisclaw14_TocKeeps.j0 k a0 l1 true) else (masterdisclaw14_TocKeeps.j0 k a0 l1 (decide (a0 > 449849))))) else (none)) = some r := H
 have A3 := Aside0.mk A30
 clear A30
 by_cases c4 : t365 = true
 · subst c4
   have H1 : (if (l1.length : Int) > 40 then (masterdisclaw14_TocKeeps.j0 k a0 l1 true) else (if a0 < 1 then (masterdisclaw14_TocKeeps.j0 k a0 l1 true) else (masterdisclaw14_TocKeeps.j0 k a0 l1 (decide (a0 > 449849))))) = some r := by rw [if_pos rfl] at H; exact H
   clear H
   have H := H1
   clear H1
   have HC5 := Aside0.mk H
   clear H
   go_enter Try.func5, Try.ntmps5
   go_upto_region 3 with (first | ((with_reducible refine gate_callee (f := 6) rfl ?_); refine goesL_ (some 15) rfl rfl Try.func6 (by kernel_rfl) rfl #[] rfl (by (try simp only [List.map_toArray, List.map_cons, List.map_nil]); first | done | rfl | (simp only [List.length_drop, List.length_take]; rfl)) ?_; (with_reducible refine (masterdisclaw14_awake.calls k  true _ A3.out).mono ?_); rintro e w6 ⟨rfl, hb⟩; refine ⟨_, rfl, ?_⟩; have n0_ := Aside0.mk (below_step (by repeat (first | (with_reducible first | exact HB.out | apply below_alloc | apply pw_below_drewN | apply below_drew1) | exact HB.out)) hb); clear HB; have HB := n0_; clear n0_; (try clear hb); (try clear hb2); (try clear hk); (try clear hi)))
   (try simp only [Act.put, List.setIfInBounds_toArray, List.set_cons_zero, List.set_cons_succ])
   go_cut [27] (fun v27 wc => ∃ (kq : Nat) (x27_4 : Bool), v27 = .bool x27_4 ∧ Aside0 (masterdisclaw14_TocKeeps.j0 kq a0 l1 x27_4 = some r) ∧ Aside0 (kq ≤ k) ∧ Aside0 (Below w.heap.size w wc))
   case first =>
    have H := HC5.out
    clear HC5
    by_cases c7 : (l1.length : Int) > 40
    · rw [if_pos c7] at H
      have c7b0 : decide (40 < (l1.length : Int)) = true := decide_eq_true c7
      have c7b1 : decide (40 < l1.length) = true := decide_eq_true (by omega)
      clear c7
      (first | rw [c7b0] | (simp only [i64_w, i32_w]; rw [c7b0]) | skip)
      have H' := Aside0.mk H
      clear H
      go_wp2
      go_meet
      case rel => exact ⟨_, (true), (by first | rfl | (simp; done) | (simp [*]; done)), H', ⟨by first | omega | exact Nat.le_refl _⟩, ⟨by repeat (first | (with_reducible first | exact HB.out | apply below_alloc | apply pw_below_drewN | apply below_drew1) | exact HB.out)⟩⟩
    · rw [if_neg c7] at H
      have c7b0 : decide (40 < (l1.length : Int)) = false := decide_eq_false c7
      have c7b1 : decide (40 < l1.length) = false := decide_eq_false (by omega)
      clear c7
      (first | rw [c7b0] | (simp only [i64_w, i32_w]; rw [c7b0]) | skip)
      by_cases c8 : a0 < 1
      · rw [if_pos c8] at H
        have c8b0 : decide (a0 < 1) = true := decide_eq_true c8
        clear c8
        have H' := Aside0.mk H
        clear H
        go_wp2
        go_meet
        case rel => exact ⟨_, (true), (by first | rfl | (simp; done) | (simp [*]; done)), H', ⟨by first | omega | exact Nat.le_refl _⟩, ⟨by repeat (first | (with_reducible first | exact HB.out | apply below_alloc | apply pw_below_drewN | apply below_drew1) | exact HB.out)⟩⟩
      · rw [if_neg c8] at H
        have c8b0 : decide (a0 < 1) = false := decide_eq_false c8
        clear c8
        have H' := Aside0.mk H
        clear H
        go_wp2
        go_meet
        case rel => exact ⟨_, (decide (a0 > 449849)), (by first | rfl | (simp; done) | (simp [*]; done)), H', ⟨by first | omega | exact Nat.le_refl _⟩, ⟨by repeat (first | (with_reducible first | exact HB.out | apply below_alloc | apply pw_below_drewN | apply below_drew1) | exact HB.out)⟩⟩
   case rest =>
    clear HC5
    try clear c1
    try clear p2
    try clear c4
    try clear c5
    try clear c6
    try clear c7
    try clear c7b0
    try clear c7b1
    try clear c8
    try clear c8b0
    obtain ⟨kq, x27_4, rfl, HA, HJ4, HB⟩ := hcut
    cases kq with
    | zero => exact absurd HA.out (by simp [masterdisclaw14_TocKeeps.j0])
    | succ kj4 =>
     have H := HA.out
     clear HA
     simp only [masterdisclaw14_TocKeeps.j0] at H
     by_cases c9 : x27_4 = true
     · subst c9
       have H1 : (some true) = some r := by rw [if_pos rfl] at H; exact H
       clear H
       have H := H1
       clear H1
       obtain rfl := Option.some.inj H
       go_wp2
       go_ret
       exact ⟨by first | rfl | (simp [errW_none, errW_some] <;> rfl) | (simp [*, errW_none, errW_some] <;> rfl), by repeat (first | (with_reducible first | exact HB.out | apply below_alloc | apply pw_below_drewN | apply below_drew1) | exact HB.out)⟩
     · replace c9 := Bool.eq_false_iff.mpr c9
       subst c9
       have H1 : (masterdisclaw14_TocKeeps.l0 kj4 a0 l1 (l1.length : Int) 0 0 false ([] : List (S40))) = some r := by rw [if_neg (show ¬ (false = true) by decide)] at H; exact H
       clear H
       have H := H1
       clear H1
       have H' := Aside0.mk H
       clear H
       go_wp2_with (first | ((with_reducible refine gate_dst (N := 5) rfl ?_); (try (refine gate_guard (by rfl) ?_; dsimp only)); refine box_event ?hg (N := 5) ?hd (cs := #[.int .i64 0, .bool false, .slice none 0 0]) (t := 24) ?hr ?_; (case hd => rfl); (case hg => rfl); (case hr => first | (go_simp; done) | (go_simp; rfl)); intro gb366 hg w10 hbox hb; have n0_ := Aside0.mk (below_step (by repeat (first | (with_reducible first | exact HB.out | apply below_alloc | apply pw_below_drewN | apply below_drew1) | exact HB.out)) hb); have n1_ := Aside0.mk (hbox); have n2_ := Aside0.mk ((by rw [hg]; exact (below_size (by repeat (first | (with_reducible first | exact HB.out | apply below_alloc | apply pw_below_drewN | apply below_drew1) | exact HB.out))) : w.heap.size ≤ gb366)); have n3_ := Aside0.mk ((by rw [hg]; exact (below_size (by repeat (first | (with_reducible first | exact HB.out | apply below_alloc | apply pw_below_drewN | apply below_drew1) | exact HB.out))) : w.heap.size ≤ gb366)); clear HB; have HB := n0_; have BK366 := n1_; have GW366 := n2_; have GE366 := n3_; clear n0_ n1_ n2_ n3_; clear hb hbox hg; obtain ⟨hcz11_0, hcz11_1, hcz11_2⟩ := cel3 BK366.out; obtain ⟨hfz11_0, hfz11_1, hfz11_2⟩ := frz3 BK366.out))
       go_loopg [31] kj4 (fun kq v31 w' => ∃ (x31_2 : Int) (x367000_2 : Int) (x367001_2 : Bool) (x367002_2 : List (S40)) (u367002 : Value), v31 = .int .i64 x31_2 ∧ Aside0 (masterdisclaw14_TocKeeps.l0 kq a0 l1 (l1.length : Int) x31_2 x367000_2 x367001_2 x367002_2 = some r) ∧ Aside0 (kq ≤ kj4) ∧ Aside0 (Kd.R k40 40 w' w.heap.size (fun _ => True) u367002 x367002_2) ∧ Aside0 (w'.heap[gb366]? = some (.cells #[.int .i64 x367000_2, .bool x367001_2, u367002] 24 (0, 0))) ∧ Aside0 (Below w.heap.size w w'))
       case atStart => exact ⟨(0), (0), (false), (([] : List (S40))), (.slice none 0 0), (by first | rfl | (simp; done) | (simp [*]; done)), H', ⟨Nat.le_refl _⟩, ⟨by first | exact Kd.R_nil _ _ _ _ _ | exact Kd.N_nil _ _ _ _ _ | exact Kd.V_nil _ _ _ _ _ | exact Kd.Q_nil _ _ _ _ _ | exact Kd.S_nil _ _ _ _ _⟩, ⟨by (with_reducible repeat (first | refine blk_drewN ?_ _ | refine blk_drew ?_ | refine blk_alloc ?_ _)); refine blk_put (cs := #[.int .i64 0, .bool false, .slice none 0 0]) ?_ 2 _ rfl; (with_reducible repeat (first | refine blk_drewN ?_ _ | refine blk_drew ?_ | refine blk_alloc ?_ _)); refine blk_put (cs := #[.int .i64 0, .bool false, .slice none 0 0]) ?_ 1 _ rfl; (with_reducible repeat (first | refine blk_drewN ?_ _ | refine blk_drew ?_ | refine blk_alloc ?_ _)); refine blk_put (cs := #[.int .i64 0, .bool false, .slice none 0 0]) ?_ 0 _ rfl; (with_reducible repeat (first | refine blk_drewN ?_ _ | refine blk_drew ?_ | refine blk_alloc ?_ _)); exact BK366.out⟩, ⟨by repeat (first | (with_reducible first | exact HB.out | apply below_alloc | apply pw_below_drewN | apply below_drew1 | refine below_set ?_ GE366.out) | exact HB.out)⟩⟩
       case round =>
        clear H'
        try clear c1
        try clear p2
        try clear c4
        try clear c5
        try clear c6
        try clear c7
        try clear c7b0
        try clear c7b1
        try clear c8
        try clear c8b0
        try clear c9
        try clear hcz11_0
        try clear hcz11_1
        try clear hcz11_2
        try clear hfz11_0
        try clear hfz11_1
        try clear hfz11_2
        try clear p2
        obtain ⟨x31_2, x367000_2, x367001_2, x367002_2, u367002, rfl, HA, HK2, HO_367002, BK366, HB⟩ := hrel
        cases gk with
        | zero => exact absurd HA.out (by simp [masterdisclaw14_TocKeeps.l0])
        | succ k2 =>
         have H := HA.out
         clear HA
         simp only [masterdisclaw14_TocKeeps.l0] at H
         by_cases c12 : x31_2 < (l1.length : Int)
         · rw [if_pos c12] at H
           have c12b0 : decide (x31_2 < (l1.length : Int)) = true := decide_eq_true c12
           clear c12
           by_cases c13 : 0 ≤ x31_2
           · rw [if_pos c13] at H
             have c13b0 : decide (0 ≤ x31_2) = true := decide_eq_true c13
             clear c13
             by_cases c14 : x31_2 < (l1.length : Int)
             · rw [if_pos c14] at H
               have c14b0 : decide (x31_2 < (l1.length : Int)) = true := decide_eq_true c14
               clear c14
               replace H := Option.bind_eq_some_iff.mp H
               obtain ⟨⟨t369, t370, t371, t374⟩, A150, H⟩ := H
               replace H : (if t374 = 0 then (if x367001_2 = true then (masterdisclaw14_TocKeeps.j2 k2 a0 l1 (l1.length : Int) x31_2 true x367000_2 x367001_2 x367002_2 t369 t370 t371) else ((toc_Valid.f a0 t369 t370 t371).bind fun t376 => (if t376 = true then (if t369 < x367000_2 then (masterdisclaw14_TocKeeps.j2 k2 a0 l1 (l1.length : Int) x31_2 true x367000_2 x367001_2 x367002_2 t369 t370 t371) else (if t369 > (wrap64 (x367000_2 + 1)) then (masterdisclaw14_TocKeeps.j2 k2 a0 l1 (l1.length : Int) x31_2 true x367000_2 x367001_2 x367002_2 t369 t370 t371) else (masterdisclaw14_TocKeeps.j2 k2 a0 l1 (l1.length : Int) x31_2 (decide ((t371.length : Int) < (x367002_2.length : Int))) x367000_2 x367001_2 x367002_2 t369 t370 t371))) else (masterdisclaw14_TocKeeps.j2 k2 a0 l1 (l1.length : Int) x31_2 true x367000_2 x367001_2 x367002_2 t369 t370 t371)))) else (if t369 = 0 then (if t370 = true then (none) else (if (t371.length : Int) = 0 then (masterdisclaw14_TocKeeps.l0 k2 a0 l1 (l1.length : Int) (wrap64 (x31_2 + 1)) x367000_2 x367001_2 x367002_2) else (none))) else (none))) = some r := H
               have A15 := Aside0.mk A150
               clear A150
               by_cases c16 : t374 = 0
               · rw [if_pos c16] at H
                 have c16b0 : (t374 == 0) = true := beq_iff_eq.mpr c16
                 have c16b1 : (t374 != 0) = false := bne_eq_false_iff_eq.mpr c16
                 clear c16
                 have HC17 := Aside0.mk H
                 clear H
                 have p367 : 0 ≤ (x31_2 : Int) := of_decide_eq_true (by first | (with_reducible assumption) | assumption)
                 have q367 : x31_2 < (l1.length : Int) := of_decide_eq_true (by first | (with_reducible assumption) | assumption)
                 obtain ⟨ad367, e367, hx367_0, hx367_1, hx367_2, hx367_3⟩ := at_T26 HR1.out x31_2 p367 q367
                 cases e367
                 replace hx367_0 := upc HB.out hx367_0
                 replace hx367_1 := upc HB.out hx367_1
                 replace hx367_2 := upc HB.out hx367_2
                 replace hx367_3 := upc HB.out hx367_3
                 replace p367 := eq_true p367
                 replace q367 := eq_true q367
                 go_upto_region 13 with (first | ((with_reducible refine gate_dst (N := 7) rfl ?_); (try (refine gate_guard (by rfl) ?_; dsimp only)); refine box_event ?hg (N := 7) ?hd (cs := #[.int .i64 0, .int .i64 0, .int .i64 0, .bool false]) (t := 26) ?hr ?_; (case hd => rfl); (case hg => rfl); (case hr => first | (go_simp; done) | (go_simp; rfl)); intro gb368 hg w18 hbox hb; have n0_ := Aside0.mk (Kd.R_below (by (with_reducible repeat (first | apply Kd.R_alloc | apply Kd.R_drewN | apply Kd.R_drew)); exact HO_367002.out) hb); have n1_ := Aside0.mk (blk_below (g := gb366) (o := .cells #[.int .i64 x367000_2, .bool x367001_2, u367002] 24 (0, 0)) (by (with_reducible repeat (first | refine blk_drewN ?_ _ | refine blk_drew ?_ | refine blk_alloc ?_ _)); exact BK366.out) hb); have n2_ := Aside0.mk (below_step (by repeat (first | (with_reducible first | exact HB.out | apply below_alloc | apply pw_below_drewN | apply below_drew1 | refine below_set ?_ GE366.out) | exact HB.out)) hb); have n3_ := Aside0.mk (hbox); have n4_ := Aside0.mk ((by rw [hg]; exact (below_size (by repeat (first | (with_reducible first | exact HB.out | apply below_alloc | apply pw_below_drewN | apply below_drew1 | refine below_set ?_ GE366.out) | exact HB.out))) : w.heap.size ≤ gb368)); have n5_ := Aside0.mk ((by rw [hg]; exact (below_size (by repeat (first | (with_reducible first | exact HB.out | apply below_alloc | apply pw_below_drewN | apply below_drew1 | refine below_set ?_ GE366.out) | exact HB.out))) : w.heap.size ≤ gb368)); have n6_ := Aside0.mk ((by rw [hg]; exact Nat.ne_of_lt (blk_lt (g := gb366) (o := .cells #[.int .i64 x367000_2, .bool x367001_2, u367002] 24 (0, 0)) (by (with_reducible repeat (first | refine blk_drewN ?_ _ | refine blk_drew ?_ | refine blk_alloc ?_ _)); exact BK366.out)) : gb366 ≠ gb368)); have n7_ := Aside0.mk ((by rw [hg]; exact Nat.ne_of_gt (blk_lt (g := gb366) (o := .cells #[.int .i64 x367000_2, .bool x367001_2, u367002] 24 (0, 0)) (by (with_reducible repeat (first | refine blk_drewN ?_ _ | refine blk_drew ?_ | refine blk_alloc ?_ _)); exact BK366.out)) : gb368 ≠ gb366)); clear HO_367002; clear BK366; clear HB; have HO_367002 := n0_; have BK366 := n1_; have HB := n2_; have BK368 := n3_; have GW368 := n4_; have GE368 := n5_; have NB366_368 := n6_; have NB368_366 := n7_; clear n0_ n1_ n2_ n3_ n4_ n5_ n6_ n7_; clear hb hbox hg; have hnb19 := NB368_366.out; have hnc19 := NB366_368.out; obtain ⟨hcz20_0, hcz20_1, hcz20_2, hcz20_3⟩ := cel4 BK368.out; obtain ⟨hfz20_0, hfz20_1, hfz20_2, hfz20_3⟩ := frz4 BK368.out; obtain ⟨hcz21_0, hcz21_1, hcz21_2⟩ := cel3 BK366.out; obtain ⟨hfz21_0, hfz21_1, hfz21_2⟩ := frz3 BK366.out; obtain ⟨Ao22, co22, eo22⟩ := Kd.R_slice HO_367002.out; subst eo22) | ((with_reducible refine gate_callee (f := 8) rfl ?_); refine goesL_ (some 39) rfl rfl Try.func8 (by kernel_rfl) rfl #[.int .i64 a0, .agg #[.int .i64 x367000_2, .bool x367001_2, .slice Ao22 x367002_2.length co22], .agg #[.int .i64 ((rd_T26 l1 x31_2).f0), .int .i64 ((rd_T26 l1 x31_2).f1), .int .i64 ((rd_T26 l1 x31_2).f2), .bool ((rd_T26 l1 x31_2).f3)]] rfl (by (try simp only [List.map_toArray, List.map_cons, List.map_nil]); first | done | rfl | (simp only [List.length_drop, List.length_take]; rfl)) ?_; (with_reducible refine (masterdisclaw14_do.calls k2 a0 x367000_2 x367001_2 _ _ x367002_2 ((rd_T26 l1 x31_2).f0) ((rd_T26 l1 x31_2).f1) ((rd_T26 l1 x31_2).f2) ((rd_T26 l1 x31_2).f3) t369 t370 t371 t374 _ ?side1 ?side2 A15.out).mono ?_); (case side1 => refine (Kd.R_reads' (e := 40) (base := w.heap.size) (ok := fun k_ => True) (n := x367002_2.length) (c := co22) ?_).2.2; exact (by (with_reducible repeat (first | apply Kd.R_alloc | apply Kd.R_drewN | apply Kd.R_drew)); exact (Kd.R_mono (Kd.R_far (p := ⟨gb368, 3, none⟩) (Kd.R_far (p := ⟨gb368, 2, none⟩) (Kd.R_far (p := ⟨gb368, 1, none⟩) (Kd.R_far (p := ⟨gb368, 0, none⟩) (Kd.R_types HO_367002.out BK368.out (by decide)) (fun _ hk => hk.2) (.int .i64 ((rd_T26 l1 x31_2).f0))) (fun _ hk => hk.2) (.int .i64 ((rd_T26 l1 x31_2).f1))) (fun _ hk => hk.2) (.int .i64 ((rd_T26 l1 x31_2).f2))) (fun _ hk => hk.2) (.bool ((rd_T26 l1 x31_2).f3))) (fun _ h_ => h_.1)))); (case side2 => exact (Kd.R_reads' HO_367002.out).2.1); rintro e w23 ⟨v372, rfl, ho0, hb⟩; refine ⟨_, rfl, ?_⟩; have n0_ := Aside0.mk (Kd.R_elder' (by (with_reducible repeat (first | apply Kd.R_alloc | apply Kd.R_drewN | apply Kd.R_drew)); exact (Kd.R_mono (Kd.R_far (p := ⟨gb368, 3, none⟩) (Kd.R_far (p := ⟨gb368, 2, none⟩) (Kd.R_far (p := ⟨gb368, 1, none⟩) (Kd.R_far (p := ⟨gb368, 0, none⟩) (Kd.R_types HO_367002.out BK368.out (by decide)) (fun _ hk => hk.2) (.int .i64 ((rd_T26 l1 x31_2).f0))) (fun _ hk => hk.2) (.int .i64 ((rd_T26 l1 x31_2).f1))) (fun _ hk => hk.2) (.int .i64 ((rd_T26 l1 x31_2).f2))) (fun _ hk => hk.2) (.bool ((rd_T26 l1 x31_2).f3))) (fun _ h_ => h_.1))) (Kd.R_base ho0) hb); have n1_ := Aside0.mk (Kd.R_lower (Kd.R_new' ho0 (Kd.R_lt (by (with_reducible repeat (first | apply Kd.R_alloc | apply Kd.R_drewN | apply Kd.R_drew)); exact (Kd.R_mono (Kd.R_far (p := ⟨gb368, 3, none⟩) (Kd.R_far (p := ⟨gb368, 2, none⟩) (Kd.R_far (p := ⟨gb368, 1, none⟩) (Kd.R_far (p := ⟨gb368, 0, none⟩) (Kd.R_types HO_367002.out BK368.out (by decide)) (fun _ hk => hk.2) (.int .i64 ((rd_T26 l1 x31_2).f0))) (fun _ hk => hk.2) (.int .i64 ((rd_T26 l1 x31_2).f1))) (fun _ hk => hk.2) (.int .i64 ((rd_T26 l1 x31_2).f2))) (fun _ hk => hk.2) (.bool ((rd_T26 l1 x31_2).f3))) (fun _ h_ => h_.1))))) (below_size (by repeat (first | (with_reducible first | exact HB.out | apply below_alloc | apply pw_below_drewN | apply below_drew1 | refine below_set ?_ GE366.out | refine below_set ?_ GE368.out) | exact HB.out)))); have n2_ := Aside0.mk (blk_below (g := gb366) (o := .cells #[.int .i64 x367000_2, .bool x367001_2, .slice Ao22 x367002_2.length co22] 24 (0, 0)) (by (with_reducible repeat (first | refine blk_drewN ?_ _ | refine blk_drew ?_ | refine blk_alloc ?_ _)); refine blk_far ?_ NB366_368.out _; (with_reducible repeat (first | refine blk_drewN ?_ _ | refine blk_drew ?_ | refine blk_alloc ?_ _)); refine blk_far ?_ NB366_368.out _; (with_reducible repeat (first | refine blk_drewN ?_ _ | refine blk_drew ?_ | refine blk_alloc ?_ _)); refine blk_far ?_ NB366_368.out _; (with_reducible repeat (first | refine blk_drewN ?_ _ | refine blk_drew ?_ | refine blk_alloc ?_ _)); refine blk_far ?_ NB366_368.out _; (with_reducible repeat (first | refine blk_drewN ?_ _ | refine blk_drew ?_ | refine blk_alloc ?_ _)); exact BK366.out) hb); have n3_ := Aside0.mk (blk_below (g := gb368) (o := .cells #[.int .i64 ((rd_T26 l1 x31_2).f0), .int .i64 ((rd_T26 l1 x31_2).f1), .int .i64 ((rd_T26 l1 x31_2).f2), .bool ((rd_T26 l1 x31_2).f3)] 26 (0, 0)) (by (with_reducible repeat (first | refine blk_drewN ?_ _ | refine blk_drew ?_ | refine blk_alloc ?_ _)); refine blk_put (cs := #[.int .i64 ((rd_T26 l1 x31_2).f0), .int .i64 ((rd_T26 l1 x31_2).f1), .int .i64 ((rd_T26 l1 x31_2).f2), .bool false]) ?_ 3 _ rfl; (with_reducible repeat (first | refine blk_drewN ?_ _ | refine blk_drew ?_ | refine blk_alloc ?_ _)); refine blk_put (cs := #[.int .i64 ((rd_T26 l1 x31_2).f0), .int .i64 ((rd_T26 l1 x31_2).f1), .int .i64 0, .bool false]) ?_ 2 _ rfl; (with_reducible repeat (first | refine blk_drewN ?_ _ | refine blk_drew ?_ | refine blk_alloc ?_ _)); refine blk_put (cs := #[.int .i64 ((rd_T26 l1 x31_2).f0), .int .i64 0, .int .i64 0, .bool false]) ?_ 1 _ rfl; (with_reducible repeat (first | refine blk_drewN ?_ _ | refine blk_drew ?_ | refine blk_alloc ?_ _)); refine blk_put (cs := #[.int .i64 0, .int .i64 0, .int .i64 0, .bool false]) ?_ 0 _ rfl; (with_reducible repeat (first | refine blk_drewN ?_ _ | refine blk_drew ?_ | refine blk_alloc ?_ _)); exact BK368.out) hb); have n4_ := Aside0.mk (below_step (by repeat (first | (with_reducible first | exact HB.out | apply below_alloc | apply pw_below_drewN | apply below_drew1 | refine below_set ?_ GE366.out | refine below_set ?_ GE368.out) | exact HB.out)) hb); clear HO_367002; clear BK366; clear BK368; clear HB; have HO_367002 := n0_; have HO373 := n1_; have BK366 := n2_; have BK368 := n3_; have HB := n4_; clear n0_ n1_ n2_ n3_ n4_; (try clear hb); (try clear hb2); (try clear hk); (try clear hi); (try clear ho0)) | ((with_reducible refine gate_dst (N := 8) rfl ?_); (try (refine gate_guard (by rfl) ?_; dsimp only)); refine box_event ?hg (N := 8) ?hd (cs := #[.int .i64 0, .bool false, .slice none 0 0]) (t := 24) ?hr ?_; (case hd => rfl); (case hg => rfl); (case hr => first | (go_simp; done) | (go_simp; rfl)); intro gb375 hg w24 hbox hb; have n0_ := Aside0.mk (Kd.R_below (by (with_reducible repeat (first | apply Kd.R_alloc | apply Kd.R_drewN | apply Kd.R_drew)); exact HO_367002.out) hb); have n1_ := Aside0.mk (Kd.R_below (by (with_reducible repeat (first | apply Kd.R_alloc | apply Kd.R_drewN | apply Kd.R_drew)); exact HO373.out) hb); have n2_ := Aside0.mk (blk_below (g := gb366) (o := .cells #[.int .i64 x367000_2, .bool x367001_2, .slice Ao22 x367002_2.length co22] 24 (0, 0)) (by (with_reducible repeat (first | refine blk_drewN ?_ _ | refine blk_drew ?_ | refine blk_alloc ?_ _)); exact BK366.out) hb); have n3_ := Aside0.mk (blk_below (g := gb368) (o := .cells #[.int .i64 ((rd_T26 l1 x31_2).f0), .int .i64 ((rd_T26 l1 x31_2).f1), .int .i64 ((rd_T26 l1 x31_2).f2), .bool ((rd_T26 l1 x31_2).f3)] 26 (0, 0)) (by (with_reducible repeat (first | refine blk_drewN ?_ _ | refine blk_drew ?_ | refine blk_alloc ?_ _)); exact BK368.out) hb); have n4_ := Aside0.mk (below_step (by repeat (first | (with_reducible first | exact HB.out | apply below_alloc | apply pw_below_drewN | apply below_drew1 | refine below_set ?_ GE366.out | refine below_set ?_ GE368.out) | exact HB.out)) hb); have n5_ := Aside0.mk (hbox); have n6_ := Aside0.mk ((by rw [hg]; exact (below_size (by repeat (first | (with_reducible first | exact HB.out | apply below_alloc | apply pw_below_drewN | apply below_drew1 | refine below_set ?_ GE366.out | refine below_set ?_ GE368.out) | exact HB.out))) : w.heap.size ≤ gb375)); have n7_ := Aside0.mk ((by rw [hg]; exact (below_size (by repeat (first | (with_reducible first | exact HB.out | apply below_alloc | apply pw_below_drewN | apply below_drew1 | refine below_set ?_ GE366.out | refine below_set ?_ GE368.out) | exact HB.out))) : w.heap.size ≤ gb375)); have n8_ := Aside0.mk ((by rw [hg]; exact Nat.ne_of_lt (blk_lt (g := gb366) (o := .cells #[.int .i64 x367000_2, .bool x367001_2, .slice Ao22 x367002_2.length co22] 24 (0, 0)) (by (with_reducible repeat (first | refine blk_drewN ?_ _ | refine blk_drew ?_ | refine blk_alloc ?_ _)); exact BK366.out)) : gb366 ≠ gb375)); have n9_ := Aside0.mk ((by rw [hg]; exact Nat.ne_of_gt (blk_lt (g := gb366) (o := .cells #[.int .i64 x367000_2, .bool x367001_2, .slice Ao22 x367002_2.length co22] 24 (0, 0)) (by (with_reducible repeat (first | refine blk_drewN ?_ _ | refine blk_drew ?_ | refine blk_alloc ?_ _)); exact BK366.out)) : gb375 ≠ gb366)); have n10_ := Aside0.mk ((by rw [hg]; exact Nat.ne_of_lt (blk_lt (g := gb368) (o := .cells #[.int .i64 ((rd_T26 l1 x31_2).f0), .int .i64 ((rd_T26 l1 x31_2).f1), .int .i64 ((rd_T26 l1 x31_2).f2), .bool ((rd_T26 l1 x31_2).f3)] 26 (0, 0)) (by (with_reducible repeat (first | refine blk_drewN ?_ _ | refine blk_drew ?_ | refine blk_alloc ?_ _)); exact BK368.out)) : gb368 ≠ gb375)); have n11_ := Aside0.mk ((by rw [hg]; exact Nat.ne_of_gt (blk_lt (g := gb368) (o := .cells #[.int .i64 ((rd_T26 l1 x31_2).f0), .int .i64 ((rd_T26 l1 x31_2).f1), .int .i64 ((rd_T26 l1 x31_2).f2), .bool ((rd_T26 l1 x31_2).f3)] 26 (0, 0)) (by (with_reducible repeat (first | refine blk_drewN ?_ _ | refine blk_drew ?_ | refine blk_alloc ?_ _)); exact BK368.out)) : gb375 ≠ gb368)); clear HO_367002; clear HO373; clear BK366; clear BK368; clear HB; have HO_367002 := n0_; have HO373 := n1_; have BK366 := n2_; have BK368 := n3_; have HB := n4_; have BK375 := n5_; have GW375 := n6_; have GE375 := n7_; have NB366_375 := n8_; have NB375_366 := n9_; have NB368_375 := n10_; have NB375_368 := n11_; clear n0_ n1_ n2_ n3_ n4_ n5_ n6_ n7_ n8_ n9_ n10_ n11_; clear hb hbox hg; have hnb25 := NB375_366.out; have hnc25 := NB366_375.out; have hnb26 := NB375_368.out; have hnc26 := NB368_375.out; obtain ⟨hcz27_0, hcz27_1, hcz27_2⟩ := cel3 BK375.out; obtain ⟨hfz27_0, hfz27_1, hfz27_2⟩ := frz3 BK375.out; obtain ⟨Ao28, co28, eo28⟩ := Kd.R_slice HO373.out; subst eo28))
                 (try simp only [Act.put, List.setIfInBounds_toArray, List.set_cons_zero, List.set_cons_succ])
                 go_cut [88] (fun v88 wc => ∃ (kq : Nat) (x88_16 : Bool), v88 = .bool x88_16 ∧ Aside0 (masterdisclaw14_TocKeeps.j2 kq a0 l1 (l1.length : Int) x31_2 x88_16 x367000_2 x367001_2 x367002_2 t369 t370 t371 = some r) ∧ Aside0 (kq ≤ k2) ∧ Aside0 (Kd.R k40 40 wc w.heap.size (fun k_ => some k_ ≠ ((.slice Ao28 t371.length co28) : Value).ownBlock) (.slice Ao22 x367002_2.length co22) x367002_2) ∧ Aside0 (Kd.R k40 40 wc w.heap.size (fun k_ => some k_ ≠ ((.slice Ao22 x367002_2.length co22) : Value).ownBlock) (.slice Ao28 t371.length co28) t371) ∧ Aside0 (wc.heap[gb366]? = some (.cells #[.int .i64 x367000_2, .bool x367001_2, (.slice Ao22 x367002_2.length co22)] 24 (0, 0))) ∧ Aside0 (wc.heap[gb368]? = some (.cells #[.int .i64 ((rd_T26 l1 x31_2).f0), .int .i64 ((rd_T26 l1 x31_2).f1), .int .i64 ((rd_T26 l1 x31_2).f2), .bool ((rd_T26 l1 x31_2).f3)] 26 (0, 0))) ∧ Aside0 (wc.heap[gb375]? = some (.cells #[.int .i64 t369, .bool t370, (.slice Ao28 t371.length co28)] 24 (0, 0))) ∧ Aside0 (Below w.heap.size w wc))
                 case first =>
                  have H := HC17.out
                  clear HC17
                  by_cases c29 : x367001_2 = true
                  · subst c29
                    have H1 : (masterdisclaw14_TocKeeps.j2 k2 a0 l1 (l1.length : Int) x31_2 true x367000_2 true x367002_2 t369 t370 t371) = some r := by rw [if_pos rfl] at H; exact H
                    clear H
                    have H := H1
                    clear H1
                    have H' := Aside0.mk H
                    clear H
                    have hnb30 := NB366_368.out
                    have hnc30 := NB368_366.out
                    have hnb31 := NB366_375.out
                    have hnc31 := NB375_366.out
                    obtain ⟨hcz32_0, hcz32_1, hcz32_2⟩ := cel3 BK366.out
                    obtain ⟨hfz32_0, hfz32_1, hfz32_2⟩ := frz3 BK366.out
                    go_wp2
                    go_meet
                    case rel => exact ⟨_, (true), (by first | rfl | (simp; done) | (simp [*]; done)), H', ⟨by have := HJ4.out; have := HK2.out; first | omega | exact Nat.le_refl _⟩, ⟨by (with_reducible repeat (first | apply Kd.R_alloc | apply Kd.R_drewN | apply Kd.R_drew)); exact Kd.R_mono (Kd.R_far (p := ⟨gb375, 2, none⟩) (Kd.R_far (p := ⟨gb375, 1, none⟩) (Kd.R_far (p := ⟨gb375, 0, none⟩) (Kd.R_types HO_367002.out BK375.out (by decide)) (fun _ hk => hk.2) (.int .i64 t369)) (fun _ hk => hk.2) (.bool t370)) (fun _ hk => hk.2) (.slice Ao28 t371.length co28)) (fun _ hk => hk.1.2)⟩, ⟨by (with_reducible repeat (first | apply Kd.R_alloc | apply Kd.R_drewN | apply Kd.R_drew)); exact Kd.R_mono (Kd.R_far (p := ⟨gb375, 2, none⟩) (Kd.R_far (p := ⟨gb375, 1, none⟩) (Kd.R_far (p := ⟨gb375, 0, none⟩) (Kd.R_types HO373.out BK375.out (by decide)) (fun _ hk => hk.2) (.int .i64 t369)) (fun _ hk => hk.2) (.bool t370)) (fun _ hk => hk.2) (.slice Ao28 t371.length co28)) (fun _ hk => hk.1.2)⟩, ⟨by (with_reducible repeat (first | refine blk_drewN ?_ _ | refine blk_drew ?_ | refine blk_alloc ?_ _)); refine blk_far ?_ NB366_375.out _; (with_reducible repeat (first | refine blk_drewN ?_ _ | refine blk_drew ?_ | refine blk_alloc ?_ _)); refine blk_far ?_ NB366_375.out _; (with_reducible repeat (first | refine blk_drewN ?_ _ | refine blk_drew ?_ | refine blk_alloc ?_ _)); refine blk_far ?_ NB366_375.out _; (with_reducible repeat (first | refine blk_drewN ?_ _ | refine blk_drew ?_ | refine blk_alloc ?_ _)); exact BK366.out⟩, ⟨by (with_reducible repeat (first | refine blk_drewN ?_ _ | refine blk_drew ?_ | refine blk_alloc ?_ _)); refine blk_far ?_ NB368_375.out _; (with_reducible repeat (first | refine blk_drewN ?_ _ | refine blk_drew ?_ | refine blk_alloc ?_ _)); refine blk_far ?_ NB368_375.out _; (with_reducible repeat (first | refine blk_drewN ?_ _ | refine blk_drew ?_ | refine blk_alloc ?_ _)); refine blk_far ?_ NB368_375.out _; (with_reducible repeat (first | refine blk_drewN ?_ _ | refine blk_drew ?_ | refine blk_alloc ?_ _)); exact BK368.out⟩, ⟨by (with_reducible repeat (first | refine blk_drewN ?_ _ | refine blk_drew ?_ | refine blk_alloc ?_ _)); refine blk_put (cs := #[.int .i64 t369, .bool t370, .slice none 0 0]) ?_ 2 _ rfl; (with_reducible repeat (first | refine blk_drewN ?_ _ | refine blk_drew ?_ | refine blk_alloc ?_ _)); refine blk_put (cs := #[.int .i64 t369, .bool false, .slice none 0 0]) ?_ 1 _ rfl; (with_reducible repeat (first | refine blk_drewN ?_ _ | refine blk_drew ?_ | refine blk_alloc ?_ _)); refine blk_put (cs := #[.int .i64 0, .bool false, .slice none 0 0]) ?_ 0 _ rfl; (with_reducible repeat (first | refine blk_drewN ?_ _ | refine blk_drew ?_ | refine blk_alloc ?_ _)); exact BK375.out⟩, ⟨by repeat (first | (with_reducible first | exact HB.out | apply below_alloc | apply pw_below_drewN | apply below_drew1 | refine below_set ?_ GE366.out | refine below_set ?_ GE368.out | refine below_set ?_ GE375.out) | exact HB.out)⟩⟩
                  · replace c29 := Bool.eq_false_iff.mpr c29
                    subst c29
                    have H1 : ((toc_Valid.f a0 t369 t370 t371).bind fun t376 => (if t376 = true then (if t369 < x367000_2 then (masterdisclaw14_TocKeeps.j2 k2 a0 l1 (l1.length : Int) x31_2 true x367000_2 false x367002_2 t369 t370 t371) else (if t369 > (wrap64 (x367000_2 + 1)) then (masterdisclaw14_TocKeeps.j2 k2 a0 l1 (l1.length : Int) x31_2 true x367000_2 false x367002_2 t369 t370 t371) else (masterdisclaw14_TocKeeps.j2 k2 a0 l1 (l1.length : Int) x31_2 (decide ((t371.length : Int) < (x367002_2.length : Int))) x367000_2 false x367002_2 t369 t370 t371))) else (masterdisclaw14_TocKeeps.j2 k2 a0 l1 (l1.length : Int) x31_2 true x367000_2 false x367002_2 t369 t370 t371))) = some r := by rw [if_neg (show ¬ (false = true) by decide)] at H; exact H
                    clear H
                    have H := H1
                    clear H1
                    replace H := Option.bind_eq_some_iff.mp H
                    obtain ⟨t376, A330, H⟩ := H
                    replace H : (if t376 = true then (if t369 < x367000_2 then (masterdisclaw14_TocKeeps.j2 k2 a0 l1 (l1.length : Int) x31_2 true x367000_2 false x367002_2 t369 t370 t371) else (if t369 > (wrap64 (x367000_2 + 1)) then (masterdisclaw14_TocKeeps.j2 k2 a0 l1 (l1.length : Int) x31_2 true x367000_2 false x367002_2 t369 t370 t371) else (masterdisclaw14_TocKeeps.j2 k2 a0 l1 (l1.length : Int) x31_2 (decide ((t371.length : Int) < (x367002_2.length : Int))) x367000_2 false x367002_2 t369 t370 t371))) else (masterdisclaw14_TocKeeps.j2 k2 a0 l1 (l1.length : Int) x31_2 true x367000_2 false x367002_2 t369 t370 t371)) = some r := H
                    have A33 := Aside0.mk A330
                    clear A330
                    by_cases c34 : t376 = true
                    · subst c34
                      have H1 : (if t369 < x367000_2 then (masterdisclaw14_TocKeeps.j2 k2 a0 l1 (l1.length : Int) x31_2 true x367000_2 false x367002_2 t369 t370 t371) else (if t369 > (wrap64 (x367000_2 + 1)) then (masterdisclaw14_TocKeeps.j2 k2 a0 l1 (l1.length : Int) x31_2 true x367000_2 false x367002_2 t369 t370 t371) else (masterdisclaw14_TocKeeps.j2 k2 a0 l1 (l1.length : Int) x31_2 (decide ((t371.length : Int) < (x367002_2.length : Int))) x367000_2 false x367002_2 t369 t370 t371))) = some r := by rw [if_pos rfl] at H; exact H
                      clear H
                      have H := H1
                      clear H1
                      by_cases c35 : t369 < x367000_2
                      · rw [if_pos c35] at H
                        have c35b0 : decide (t369 < x367000_2) = true := decide_eq_true c35
                        clear c35
                        (first | rw [c35b0] | (simp only [i64_w, i32_w]; rw [c35b0]) | skip)
                        have H' := Aside0.mk H
                        clear H
                        have hnb36 := NB366_368.out
                        have hnc36 := NB368_366.out
                        have hnb37 := NB366_375.out
                        have hnc37 := NB375_366.out
                        obtain ⟨hcz38_0, hcz38_1, hcz38_2⟩ := cel3 BK366.out
                        obtain ⟨hfz38_0, hfz38_1, hfz38_2⟩ := frz3 BK366.out
                        have hnb39 := NB375_368.out
                        have hnc39 := NB368_375.out
                        obtain ⟨hcz40_0, hcz40_1, hcz40_2⟩ := cel3 BK375.out
                        obtain ⟨hfz40_0, hfz40_1, hfz40_2⟩ := frz3 BK375.out
                        go_wp2_with (first | (go_at_call 10; (with_reducible refine (toc_Valid.calls a0 t369 t370 _ _ t371 true _ ?side1 ?side2 A33.out).mono ?_); (case side1 => refine (Kd.R_reads' (e := 40) (base := w.heap.size) (ok := fun k_ => (True ∧ some k_ ≠ (.slice Ao22 x367002_2.length co22 : Value).ownBlock)) (n := t371.length) (c := co28) ?_).2.2; exact (by (with_reducible repeat (first | apply Kd.R_alloc | apply Kd.R_drewN | apply Kd.R_drew)); exact (Kd.R_mono (Kd.R_far (p := ⟨gb375, 2, none⟩) (Kd.R_far (p := ⟨gb375, 1, none⟩) (Kd.R_far (p := ⟨gb375, 0, none⟩) (Kd.R_types HO373.out BK375.out (by decide)) (fun _ hk => hk.2) (.int .i64 t369)) (fun _ hk => hk.2) (.bool t370)) (fun _ hk => hk.2) (.slice Ao28 t371.length co28)) (fun _ h_ => h_.1)))); (case side2 => exact (Kd.R_reads' HO373.out).2.1); rintro e w41 ⟨rfl, hb⟩; have n0_ := Aside0.mk (Kd.R_below (by (with_reducible repeat (first | apply Kd.R_alloc | apply Kd.R_drewN | apply Kd.R_drew)); exact (Kd.R_mono (Kd.R_far (p := ⟨gb375, 2, none⟩) (Kd.R_far (p := ⟨gb375, 1, none⟩) (Kd.R_far (p := ⟨gb375, 0, none⟩) (Kd.R_types HO_367002.out BK375.out (by decide)) (fun _ hk => hk.2) (.int .i64 t369)) (fun _ hk => hk.2) (.bool t370)) (fun _ hk => hk.2) (.slice Ao28 t371.length co28)) (fun _ h_ => h_.1))) hb); have n1_ := Aside0.mk (Kd.R_below (by (with_reducible repeat (first | apply Kd.R_alloc | apply Kd.R_drewN | apply Kd.R_drew)); exact (Kd.R_mono (Kd.R_far (p := ⟨gb375, 2, none⟩) (Kd.R_far (p := ⟨gb375, 1, none⟩) (Kd.R_far (p := ⟨gb375, 0, none⟩) (Kd.R_types HO373.out BK375.out (by decide)) (fun _ hk => hk.2) (.int .i64 t369)) (fun _ hk => hk.2) (.bool t370)) (fun _ hk => hk.2) (.slice Ao28 t371.length co28)) (fun _ h_ => h_.1))) hb); have n2_ := Aside0.mk (blk_below (g := gb366) (o := .cells #[.int .i64 x367000_2, .bool false, .slice Ao22 x367002_2.length co22] 24 (0, 0)) (by (with_reducible repeat (first | refine blk_drewN ?_ _ | refine blk_drew ?_ | refine blk_alloc ?_ _)); refine blk_far ?_ NB366_375.out _; (with_reducible repeat (first | refine blk_drewN ?_ _ | refine blk_drew ?_ | refine blk_alloc ?_ _)); refine blk_far ?_ NB366_375.out _; (with_reducible repeat (first | refine blk_drewN ?_ _ | refine blk_drew ?_ | refine blk_alloc ?_ _)); refine blk_far ?_ NB366_375.out _; (with_reducible repeat (first | refine blk_drewN ?_ _ | refine blk_drew ?_ | refine blk_alloc ?_ _)); exact BK366.out) hb); have n3_ := Aside0.mk (blk_below (g := gb368) (o := .cells #[.int .i64 ((rd_T26 l1 x31_2).f0), .int .i64 ((rd_T26 l1 x31_2).f1), .int .i64 ((rd_T26 l1 x31_2).f2), .bool ((rd_T26 l1 x31_2).f3)] 26 (0, 0)) (by (with_reducible repeat (first | refine blk_drewN ?_ _ | refine blk_drew ?_ | refine blk_alloc ?_ _)); refine blk_far ?_ NB368_375.out _; (with_reducible repeat (first | refine blk_drewN ?_ _ | refine blk_drew ?_ | refine blk_alloc ?_ _)); refine blk_far ?_ NB368_375.out _; (with_reducible repeat (first | refine blk_drewN ?_ _ | refine blk_drew ?_ | refine blk_alloc ?_ _)); refine blk_far ?_ NB368_375.out _; (with_reducible repeat (first | refine blk_drewN ?_ _ | refine blk_drew ?_ | refine blk_alloc ?_ _)); exact BK368.out) hb); have n4_ := Aside0.mk (blk_below (g := gb375) (o := .cells #[.int .i64 t369, .bool t370, .slice Ao28 t371.length co28] 24 (0, 0)) (by (with_reducible repeat (first | refine blk_drewN ?_ _ | refine blk_drew ?_ | refine blk_alloc ?_ _)); refine blk_put (cs := #[.int .i64 t369, .bool t370, .slice none 0 0]) ?_ 2 _ rfl; (with_reducible repeat (first | refine blk_drewN ?_ _ | refine blk_drew ?_ | refine blk_alloc ?_ _)); refine blk_put (cs := #[.int .i64 t369, .bool false, .slice none 0 0]) ?_ 1 _ rfl; (with_reducible repeat (first | refine blk_drewN ?_ _ | refine blk_drew ?_ | refine blk_alloc ?_ _)); refine blk_put (cs := #[.int .i64 0, .bool false, .slice none 0 0]) ?_ 0 _ rfl; (with_reducible repeat (first | refine blk_drewN ?_ _ | refine blk_drew ?_ | refine blk_alloc ?_ _)); exact BK375.out) hb); have n5_ := Aside0.mk (below_step (by repeat (first | (with_reducible first | exact HB.out | apply below_alloc | apply pw_below_drewN | apply below_drew1 | refine below_set ?_ GE366.out | refine below_set ?_ GE368.out | refine below_set ?_ GE375.out) | exact HB.out)) hb); clear HO_367002; clear HO373; clear BK366; clear BK368; clear BK375; clear HB; have HO_367002 := n0_; have HO373 := n1_; have BK366 := n2_; have BK368 := n3_; have BK375 := n4_; have HB := n5_; clear n0_ n1_ n2_ n3_ n4_ n5_; (try clear hb); (try clear hb2); (try clear hk); (try clear hi); obtain ⟨hcz42_0, hcz42_1, hcz42_2⟩ := cel3 BK375.out; obtain ⟨hfz42_0, hfz42_1, hfz42_2⟩ := frz3 BK375.out; obtain ⟨hcz43_0, hcz43_1, hcz43_2⟩ := cel3 BK366.out; obtain ⟨hfz43_0, hfz43_1, hfz43_2⟩ := frz3 BK366.out))
                        go_meet
                        case rel => exact ⟨_, (true), (by first | rfl | (simp; done) | (simp [*]; done)), H', ⟨by have := HJ4.out; have := HK2.out; first | omega | exact Nat.le_refl _⟩, ⟨by (with_reducible repeat (first | apply Kd.R_alloc | apply Kd.R_drewN | apply Kd.R_drew)); exact Kd.R_mono HO_367002.out (fun _ hk => hk.2)⟩, ⟨by (with_reducible repeat (first | apply Kd.R_alloc | apply Kd.R_drewN | apply Kd.R_drew)); exact Kd.R_mono HO373.out (fun _ hk => hk.2)⟩, ⟨by (with_reducible repeat (first | refine blk_drewN ?_ _ | refine blk_drew ?_ | refine blk_alloc ?_ _)); exact BK366.out⟩, ⟨by (with_reducible repeat (first | refine blk_drewN ?_ _ | refine blk_drew ?_ | refine blk_alloc ?_ _)); exact BK368.out⟩, ⟨by (with_reducible repeat (first | refine blk_drewN ?_ _ | refine blk_drew ?_ | refine blk_alloc ?_ _)); exact BK375.out⟩, ⟨by repeat (first | (with_reducible first | exact HB.out | apply below_alloc | apply pw_below_drewN | apply below_drew1 | refine below_set ?_ GE366.out | refine below_set ?_ GE368.out | refine below_set ?_ GE375.out) | exact HB.out)⟩⟩
                      · rw [if_neg c35] at H
                        have c35b0 : decide (t369 < x367000_2) = false := decide_eq_false c35
                        clear c35
                        (first | rw [c35b0] | (simp only [i64_w, i32_w]; rw [c35b0]) | skip)
                        by_cases c44 : t369 > (wrap64 (x367000_2 + 1))
                        · rw [if_pos c44] at H
                          have c44b0 : decide ((wrap64 (x367000_2 + 1)) < t369) = true := decide_eq_true c44
                          clear c44
                          have H' := Aside0.mk H
                          clear H
                          have hnb45 := NB366_368.out
                          have hnc45 := NB368_366.out
                          have hnb46 := NB366_375.out
                          have hnc46 := NB375_366.out
                          obtain ⟨hcz47_0, hcz47_1, hcz47_2⟩ := cel3 BK366.out
                          obtain ⟨hfz47_0, hfz47_1, hfz47_2⟩ := frz3 BK366.out
                          have hnb48 := NB375_368.out
                          have hnc48 := NB368_375.out
                          obtain ⟨hcz49_0, hcz49_1, hcz49_2⟩ := cel3 BK375.out
                          obtain ⟨hfz49_0, hfz49_1, hfz49_2⟩ := frz3 BK375.out
                          go_wp2_with (first | (go_at_call 10; (with_reducible refine (toc_Valid.calls a0 t369 t370 _ _ t371 true _ ?side1 ?side2 A33.out).mono ?_); (case side1 => refine (Kd.R_reads' (e := 40) (base := w.heap.size) (ok := fun k_ => (True ∧ some k_ ≠ (.slice Ao22 x367002_2.length co22 : Value).ownBlock)) (n := t371.length) (c := co28) ?_).2.2; exact (by (with_reducible repeat (first | apply Kd.R_alloc | apply Kd.R_drewN | apply Kd.R_drew)); exact (Kd.R_mono (Kd.R_far (p := ⟨gb375, 2, none⟩) (Kd.R_far (p := ⟨gb375, 1, none⟩) (Kd.R_far (p := ⟨gb375, 0, none⟩) (Kd.R_types HO373.out BK375.out (by decide)) (fun _ hk => hk.2) (.int .i64 t369)) (fun _ hk => hk.2) (.bool t370)) (fun _ hk => hk.2) (.slice Ao28 t371.length co28)) (fun _ h_ => h_.1)))); (case side2 => exact (Kd.R_reads' HO373.out).2.1); rintro e w50 ⟨rfl, hb⟩; have n0_ := Aside0.mk (Kd.R_below (by (with_reducible repeat (first | apply Kd.R_alloc | apply Kd.R_drewN | apply Kd.R_drew)); exact (Kd.R_mono (Kd.R_far (p := ⟨gb375, 2, none⟩) (Kd.R_far (p := ⟨gb375, 1, none⟩) (Kd.R_far (p := ⟨gb375, 0, none⟩) (Kd.R_types HO_367002.out BK375.out (by decide)) (fun _ hk => hk.2) (.int .i64 t369)) (fun _ hk => hk.2) (.bool t370)) (fun _ hk => hk.2) (.slice Ao28 t371.length co28)) (fun _ h_ => h_.1))) hb); have n1_ := Aside0.mk (Kd.R_below (by (with_reducible repeat (first | apply Kd.R_alloc | apply Kd.R_drewN | apply Kd.R_drew)); exact (Kd.R_mono (Kd.R_far (p := ⟨gb375, 2, none⟩) (Kd.R_far (p := ⟨gb375, 1, none⟩) (Kd.R_far (p := ⟨gb375, 0, none⟩) (Kd.R_types HO373.out BK375.out (by decide)) (fun _ hk => hk.2) (.int .i64 t369)) (fun _ hk => hk.2) (.bool t370)) (fun _ hk => hk.2) (.slice Ao28 t371.length co28)) (fun _ h_ => h_.1))) hb); have n2_ := Aside0.mk (blk_below (g := gb366) (o := .cells #[.int .i64 x367000_2, .bool false, .slice Ao22 x367002_2.length co22] 24 (0, 0)) (by (with_reducible repeat (first | refine blk_drewN ?_ _ | refine blk_drew ?_ | refine blk_alloc ?_ _)); refine blk_far ?_ NB366_375.out _; (with_reducible repeat (first | refine blk_drewN ?_ _ | refine blk_drew ?_ | refine blk_alloc ?_ _)); refine blk_far ?_ NB366_375.out _; (with_reducible repeat (first | refine blk_drewN ?_ _ | refine blk_drew ?_ | refine blk_alloc ?_ _)); refine blk_far ?_ NB366_375.out _; (with_reducible repeat (first | refine blk_drewN ?_ _ | refine blk_drew ?_ | refine blk_alloc ?_ _)); exact BK366.out) hb); have n3_ := Aside0.mk (blk_below (g := gb368) (o := .cells #[.int .i64 ((rd_T26 l1 x31_2).f0), .int .i64 ((rd_T26 l1 x31_2).f1), .int .i64 ((rd_T26 l1 x31_2).f2), .bool ((rd_T26 l1 x31_2).f3)] 26 (0, 0)) (by (with_reducible repeat (first | refine blk_drewN ?_ _ | refine blk_drew ?_ | refine blk_alloc ?_ _)); refine blk_far ?_ NB368_375.out _; (with_reducible repeat (first | refine blk_drewN ?_ _ | refine blk_drew ?_ | refine blk_alloc ?_ _)); refine blk_far ?_ NB368_375.out _; (with_reducible repeat (first | refine blk_drewN ?_ _ | refine blk_drew ?_ | refine blk_alloc ?_ _)); refine blk_far ?_ NB368_375.out _; (with_reducible repeat (first | refine blk_drewN ?_ _ | refine blk_drew ?_ | refine blk_alloc ?_ _)); exact BK368.out) hb); have n4_ := Aside0.mk (blk_below (g := gb375) (o := .cells #[.int .i64 t369, .bool t370, .slice Ao28 t371.length co28] 24 (0, 0)) (by (with_reducible repeat (first | refine blk_drewN ?_ _ | refine blk_drew ?_ | refine blk_alloc ?_ _)); refine blk_put (cs := #[.int .i64 t369, .bool t370, .slice none 0 0]) ?_ 2 _ rfl; (with_reducible repeat (first | refine blk_drewN ?_ _ | refine blk_drew ?_ | refine blk_alloc ?_ _)); refine blk_put (cs := #[.int .i64 t369, .bool false, .slice none 0 0]) ?_ 1 _ rfl; (with_reducible repeat (first | refine blk_drewN ?_ _ | refine blk_drew ?_ | refine blk_alloc ?_ _)); refine blk_put (cs := #[.int .i64 0, .bool false, .slice none 0 0]) ?_ 0 _ rfl; (with_reducible repeat (first | refine blk_drewN ?_ _ | refine blk_drew ?_ | refine blk_alloc ?_ _)); exact BK375.out) hb); have n5_ := Aside0.mk (below_step (by repeat (first | (with_reducible first | exact HB.out | apply below_alloc | apply pw_below_drewN | apply below_drew1 | refine below_set ?_ GE366.out | refine below_set ?_ GE368.out | refine below_set ?_ GE375.out) | exact HB.out)) hb); clear HO_367002; clear HO373; clear BK366; clear BK368; clear BK375; clear HB; have HO_367002 := n0_; have HO373 := n1_; have BK366 := n2_; have BK368 := n3_; have BK375 := n4_; have HB := n5_; clear n0_ n1_ n2_ n3_ n4_ n5_; (try clear hb); (try clear hb2); (try clear hk); (try clear hi); obtain ⟨hcz51_0, hcz51_1, hcz51_2⟩ := cel3 BK375.out; obtain ⟨hfz51_0, hfz51_1, hfz51_2⟩ := frz3 BK375.out; obtain ⟨hcz52_0, hcz52_1, hcz52_2⟩ := cel3 BK366.out; obtain ⟨hfz52_0, hfz52_1, hfz52_2⟩ := frz3 BK366.out))
                          go_meet
                          case rel => exact ⟨_, (true), (by first | rfl | (simp; done) | (simp [*]; done)), H', ⟨by have := HJ4.out; have := HK2.out; first | omega | exact Nat.le_refl _⟩, ⟨by (with_reducible repeat (first | apply Kd.R_alloc | apply Kd.R_drewN | apply Kd.R_drew)); exact Kd.R_mono HO_367002.out (fun _ hk => hk.2)⟩, ⟨by (with_reducible repeat (first | apply Kd.R_alloc | apply Kd.R_drewN | apply Kd.R_drew)); exact Kd.R_mono HO373.out (fun _ hk => hk.2)⟩, ⟨by (with_reducible repeat (first | refine blk_drewN ?_ _ | refine blk_drew ?_ | refine blk_alloc ?_ _)); exact BK366.out⟩, ⟨by (with_reducible repeat (first | refine blk_drewN ?_ _ | refine blk_drew ?_ | refine blk_alloc ?_ _)); exact BK368.out⟩, ⟨by (with_reducible repeat (first | refine blk_drewN ?_ _ | refine blk_drew ?_ | refine blk_alloc ?_ _)); exact BK375.out⟩, ⟨by repeat (first | (with_reducible first | exact HB.out | apply below_alloc | apply pw_below_drewN | apply below_drew1 | refine below_set ?_ GE366.out | refine below_set ?_ GE368.out | refine below_set ?_ GE375.out) | exact HB.out)⟩⟩
                        · rw [if_neg c44] at H
                          have c44b0 : decide ((wrap64 (x367000_2 + 1)) < t369) = false := decide_eq_false c44
                          clear c44
                          have H' := Aside0.mk H
                          clear H
                          have hnb53 := NB366_368.out
                          have hnc53 := NB368_366.out
                          have hnb54 := NB366_375.out
                          have hnc54 := NB375_366.out
                          obtain ⟨hcz55_0, hcz55_1, hcz55_2⟩ := cel3 BK366.out
                          obtain ⟨hfz55_0, hfz55_1, hfz55_2⟩ := frz3 BK366.out
                          have hnb56 := NB375_368.out
                          have hnc56 := NB368_375.out
                          obtain ⟨hcz57_0, hcz57_1, hcz57_2⟩ := cel3 BK375.out
                          obtain ⟨hfz57_0, hfz57_1, hfz57_2⟩ := frz3 BK375.out
                          go_wp2_with (first | (go_at_call 10; (with_reducible refine (toc_Valid.calls a0 t369 t370 _ _ t371 true _ ?side1 ?side2 A33.out).mono ?_); (case side1 => refine (Kd.R_reads' (e := 40) (base := w.heap.size) (ok := fun k_ => (True ∧ some k_ ≠ (.slice Ao22 x367002_2.length co22 : Value).ownBlock)) (n := t371.length) (c := co28) ?_).2.2; exact (by (with_reducible repeat (first | apply Kd.R_alloc | apply Kd.R_drewN | apply Kd.R_drew)); exact (Kd.R_mono (Kd.R_far (p := ⟨gb375, 2, none⟩) (Kd.R_far (p := ⟨gb375, 1, none⟩) (Kd.R_far (p := ⟨gb375, 0, none⟩) (Kd.R_types HO373.out BK375.out (by decide)) (fun _ hk => hk.2) (.int .i64 t369)) (fun _ hk => hk.2) (.bool t370)) (fun _ hk => hk.2) (.slice Ao28 t371.length co28)) (fun _ h_ => h_.1)))); (case side2 => exact (Kd.R_reads' HO373.out).2.1); rintro e w58 ⟨rfl, hb⟩; have n0_ := Aside0.mk (Kd.R_below (by (with_reducible repeat (first | apply Kd.R_alloc | apply Kd.R_drewN | apply Kd.R_drew)); exact (Kd.R_mono (Kd.R_far (p := ⟨gb375, 2, none⟩) (Kd.R_far (p := ⟨gb375, 1, none⟩) (Kd.R_far (p := ⟨gb375, 0, none⟩) (Kd.R_types HO_367002.out BK375.out (by decide)) (fun _ hk => hk.2) (.int .i64 t369)) (fun _ hk => hk.2) (.bool t370)) (fun _ hk => hk.2) (.slice Ao28 t371.length co28)) (fun _ h_ => h_.1))) hb); have n1_ := Aside0.mk (Kd.R_below (by (with_reducible repeat (first | apply Kd.R_alloc | apply Kd.R_drewN | apply Kd.R_drew)); exact (Kd.R_mono (Kd.R_far (p := ⟨gb375, 2, none⟩) (Kd.R_far (p := ⟨gb375, 1, none⟩) (Kd.R_far (p := ⟨gb375, 0, none⟩) (Kd.R_types HO373.out BK375.out (by decide)) (fun _ hk => hk.2) (.int .i64 t369)) (fun _ hk => hk.2) (.bool t370)) (fun _ hk => hk.2) (.slice Ao28 t371.length co28)) (fun _ h_ => h_.1))) hb); have n2_ := Aside0.mk (blk_below (g := gb366) (o := .cells #[.int .i64 x367000_2, .bool false, .slice Ao22 x367002_2.length co22] 24 (0, 0)) (by (with_reducible repeat (first | refine blk_drewN ?_ _ | refine blk_drew ?_ | refine blk_alloc ?_ _)); refine blk_far ?_ NB366_375.out _; (with_reducible repeat (first | refine blk_drewN ?_ _ | refine blk_drew ?_ | refine blk_alloc ?_ _)); refine blk_far ?_ NB366_375.out _; (with_reducible repeat (first | refine blk_drewN ?_ _ | refine blk_drew ?_ | refine blk_alloc ?_ _)); refine blk_far ?_ NB366_375.out _; (with_reducible repeat (first | refine blk_drewN ?_ _ | refine blk_drew ?_ | refine blk_alloc ?_ _)); exact BK366.out) hb); have n3_ := Aside0.mk (blk_below (g := gb368) (o := .cells #[.int .i64 ((rd_T26 l1 x31_2).f0), .int .i64 ((rd_T26 l1 x31_2).f1), .int .i64 ((rd_T26 l1 x31_2).f2), .bool ((rd_T26 l1 x31_2).f3)] 26 (0, 0)) (by (with_reducible repeat (first | refine blk_drewN ?_ _ | refine blk_drew ?_ | refine blk_alloc ?_ _)); refine blk_far ?_ NB368_375.out _; (with_reducible repeat (first | refine blk_drewN ?_ _ | refine blk_drew ?_ | refine blk_alloc ?_ _)); refine blk_far ?_ NB368_375.out _; (with_reducible repeat (first | refine blk_drewN ?_ _ | refine blk_drew ?_ | refine blk_alloc ?_ _)); refine blk_far ?_ NB368_375.out _; (with_reducible repeat (first | refine blk_drewN ?_ _ | refine blk_drew ?_ | refine blk_alloc ?_ _)); exact BK368.out) hb); have n4_ := Aside0.mk (blk_below (g := gb375) (o := .cells #[.int .i64 t369, .bool t370, .slice Ao28 t371.length co28] 24 (0, 0)) (by (with_reducible repeat (first | refine blk_drewN ?_ _ | refine blk_drew ?_ | refine blk_alloc ?_ _)); refine blk_put (cs := #[.int .i64 t369, .bool t370, .slice none 0 0]) ?_ 2 _ rfl; (with_reducible repeat (first | refine blk_drewN ?_ _ | refine blk_drew ?_ | refine blk_alloc ?_ _)); refine blk_put (cs := #[.int .i64 t369, .bool false, .slice none 0 0]) ?_ 1 _ rfl; (with_reducible repeat (first | refine blk_drewN ?_ _ | refine blk_drew ?_ | refine blk_alloc ?_ _)); refine blk_put (cs := #[.int .i64 0, .bool false, .slice none 0 0]) ?_ 0 _ rfl; (with_reducible repeat (first | refine blk_drewN ?_ _ | refine blk_drew ?_ | refine blk_alloc ?_ _)); exact BK375.out) hb); have n5_ := Aside0.mk (below_step (by repeat (first | (with_reducible first | exact HB.out | apply below_alloc | apply pw_below_drewN | apply below_drew1 | refine below_set ?_ GE366.out | refine below_set ?_ GE368.out | refine below_set ?_ GE375.out) | exact HB.out)) hb); clear HO_367002; clear HO373; clear BK366; clear BK368; clear BK375; clear HB; have HO_367002 := n0_; have HO373 := n1_; have BK366 := n2_; have BK368 := n3_; have BK375 := n4_; have HB := n5_; clear n0_ n1_ n2_ n3_ n4_ n5_; (try clear hb); (try clear hb2); (try clear hk); (try clear hi); obtain ⟨hcz59_0, hcz59_1, hcz59_2⟩ := cel3 BK375.out; obtain ⟨hfz59_0, hfz59_1, hfz59_2⟩ := frz3 BK375.out; obtain ⟨hcz60_0, hcz60_1, hcz60_2⟩ := cel3 BK366.out; obtain ⟨hfz60_0, hfz60_1, hfz60_2⟩ := frz3 BK366.out))
                          go_meet
                          case rel => exact ⟨_, (decide ((t371.length : Int) < (x367002_2.length : Int))), (by first | rfl | (simp; done) | (simp [*]; done)), H', ⟨by have := HJ4.out; have := HK2.out; first | omega | exact Nat.le_refl _⟩, ⟨by (with_reducible repeat (first | apply Kd.R_alloc | apply Kd.R_drewN | apply Kd.R_drew)); exact Kd.R_mono HO_367002.out (fun _ hk => hk.2)⟩, ⟨by (with_reducible repeat (first | apply Kd.R_alloc | apply Kd.R_drewN | apply Kd.R_drew)); exact Kd.R_mono HO373.out (fun _ hk => hk.2)⟩, ⟨by (with_reducible repeat (first | refine blk_drewN ?_ _ | refine blk_drew ?_ | refine blk_alloc ?_ _)); exact BK366.out⟩, ⟨by (with_reducible repeat (first | refine blk_drewN ?_ _ | refine blk_drew ?_ | refine blk_alloc ?_ _)); exact BK368.out⟩, ⟨by (with_reducible repeat (first | refine blk_drewN ?_ _ | refine blk_drew ?_ | refine blk_alloc ?_ _)); exact BK375.out⟩, ⟨by repeat (first | (with_reducible first | exact HB.out | apply below_alloc | apply pw_below_drewN | apply below_drew1 | refine below_set ?_ GE366.out | refine below_set ?_ GE368.out | refine below_set ?_ GE375.out) | exact HB.out)⟩⟩
                    · replace c34 := Bool.eq_false_iff.mpr c34
                      subst c34
                      have H1 : (masterdisclaw14_TocKeeps.j2 k2 a0 l1 (l1.length : Int) x31_2 true x367000_2 false x367002_2 t369 t370 t371) = some r := by rw [if_neg (show ¬ (false = true) by decide)] at H; exact H
                      clear H
                      have H := H1
                      clear H1
                      have H' := Aside0.mk H
                      clear H
                      have hnb61 := NB366_368.out
                      have hnc61 := NB368_366.out
                      have hnb62 := NB366_375.out
                      have hnc62 := NB375_366.out
                      obtain ⟨hcz63_0, hcz63_1, hcz63_2⟩ := cel3 BK366.out
                      obtain ⟨hfz63_0, hfz63_1, hfz63_2⟩ := frz3 BK366.out
                      have hnb64 := NB375_368.out
                      have hnc64 := NB368_375.out
                      obtain ⟨hcz65_0, hcz65_1, hcz65_2⟩ := cel3 BK375.out
                      obtain ⟨hfz65_0, hfz65_1, hfz65_2⟩ := frz3 BK375.out
                      go_wp2_with (first | (go_at_call 10; (with_reducible refine (toc_Valid.calls a0 t369 t370 _ _ t371 false _ ?side1 ?side2 A33.out).mono ?_); (case side1 => refine (Kd.R_reads' (e := 40) (base := w.heap.size) (ok := fun k_ => (True ∧ some k_ ≠ (.slice Ao22 x367002_2.length co22 : Value).ownBlock)) (n := t371.length) (c := co28) ?_).2.2; exact (by (with_reducible repeat (first | apply Kd.R_alloc | apply Kd.R_drewN | apply Kd.R_drew)); exact (Kd.R_mono (Kd.R_far (p := ⟨gb375, 2, none⟩) (Kd.R_far (p := ⟨gb375, 1, none⟩) (Kd.R_far (p := ⟨gb375, 0, none⟩) (Kd.R_types HO373.out BK375.out (by decide)) (fun _ hk => hk.2) (.int .i64 t369)) (fun _ hk => hk.2) (.bool t370)) (fun _ hk => hk.2) (.slice Ao28 t371.length co28)) (fun _ h_ => h_.1)))); (case side2 => exact (Kd.R_reads' HO373.out).2.1); rintro e w66 ⟨rfl, hb⟩; have n0_ := Aside0.mk (Kd.R_below (by (with_reducible repeat (first | apply Kd.R_alloc | apply Kd.R_drewN | apply Kd.R_drew)); exact (Kd.R_mono (Kd.R_far (p := ⟨gb375, 2, none⟩) (Kd.R_far (p := ⟨gb375, 1, none⟩) (Kd.R_far (p := ⟨gb375, 0, none⟩) (Kd.R_types HO_367002.out BK375.out (by decide)) (fun _ hk => hk.2) (.int .i64 t369)) (fun _ hk => hk.2) (.bool t370)) (fun _ hk => hk.2) (.slice Ao28 t371.length co28)) (fun _ h_ => h_.1))) hb); have n1_ := Aside0.mk (Kd.R_below (by (with_reducible repeat (first | apply Kd.R_alloc | apply Kd.R_drewN | apply Kd.R_drew)); exact (Kd.R_mono (Kd.R_far (p := ⟨gb375, 2, none⟩) (Kd.R_far (p := ⟨gb375, 1, none⟩) (Kd.R_far (p := ⟨gb375, 0, none⟩) (Kd.R_types HO373.out BK375.out (by decide)) (fun _ hk => hk.2) (.int .i64 t369)) (fun _ hk => hk.2) (.bool t370)) (fun _ hk => hk.2) (.slice Ao28 t371.length co28)) (fun _ h_ => h_.1))) hb); have n2_ := Aside0.mk (blk_below (g := gb366) (o := .cells #[.int .i64 x367000_2, .bool false, .slice Ao22 x367002_2.length co22] 24 (0, 0)) (by (with_reducible repeat (first | refine blk_drewN ?_ _ | refine blk_drew ?_ | refine blk_alloc ?_ _)); refine blk_far ?_ NB366_375.out _; (with_reducible repeat (first | refine blk_drewN ?_ _ | refine blk_drew ?_ | refine blk_alloc ?_ _)); refine blk_far ?_ NB366_375.out _; (with_reducible repeat (first | refine blk_drewN ?_ _ | refine blk_drew ?_ | refine blk_alloc ?_ _)); refine blk_far ?_ NB366_375.out _; (with_reducible repeat (first | refine blk_drewN ?_ _ | refine blk_drew ?_ | refine blk_alloc ?_ _)); exact BK366.out) hb); have n3_ := Aside0.mk (blk_below (g := gb368) (o := .cells #[.int .i64 ((rd_T26 l1 x31_2).f0), .int .i64 ((rd_T26 l1 x31_2).f1), .int .i64 ((rd_T26 l1 x31_2).f2), .bool ((rd_T26 l1 x31_2).f3)] 26 (0, 0)) (by (with_reducible repeat (first | refine blk_drewN ?_ _ | refine blk_drew ?_ | refine blk_alloc ?_ _)); refine blk_far ?_ NB368_375.out _; (with_reducible repeat (first | refine blk_drewN ?_ _ | refine blk_drew ?_ | refine blk_alloc ?_ _)); refine blk_far ?_ NB368_375.out _; (with_reducible repeat (first | refine blk_drewN ?_ _ | refine blk_drew ?_ | refine blk_alloc ?_ _)); refine blk_far ?_ NB368_375.out _; (with_reducible repeat (first | refine blk_drewN ?_ _ | refine blk_drew ?_ | refine blk_alloc ?_ _)); exact BK368.out) hb); have n4_ := Aside0.mk (blk_below (g := gb375) (o := .cells #[.int .i64 t369, .bool t370, .slice Ao28 t371.length co28] 24 (0, 0)) (by (with_reducible repeat (first | refine blk_drewN ?_ _ | refine blk_drew ?_ | refine blk_alloc ?_ _)); refine blk_put (cs := #[.int .i64 t369, .bool t370, .slice none 0 0]) ?_ 2 _ rfl; (with_reducible repeat (first | refine blk_drewN ?_ _ | refine blk_drew ?_ | refine blk_alloc ?_ _)); refine blk_put (cs := #[.int .i64 t369, .bool false, .slice none 0 0]) ?_ 1 _ rfl; (with_reducible repeat (first | refine blk_drewN ?_ _ | refine blk_drew ?_ | refine blk_alloc ?_ _)); refine blk_put (cs := #[.int .i64 0, .bool false, .slice none 0 0]) ?_ 0 _ rfl; (with_reducible repeat (first | refine blk_drewN ?_ _ | refine blk_drew ?_ | refine blk_alloc ?_ _)); exact BK375.out) hb); have n5_ := Aside0.mk (below_step (by repeat (first | (with_reducible first | exact HB.out | apply below_alloc | apply pw_below_drewN | apply below_drew1 | refine below_set ?_ GE366.out | refine below_set ?_ GE368.out | refine below_set ?_ GE375.out) | exact HB.out)) hb); clear HO_367002; clear HO373; clear BK366; clear BK368; clear BK375; clear HB; have HO_367002 := n0_; have HO373 := n1_; have BK366 := n2_; have BK368 := n3_; have BK375 := n4_; have HB := n5_; clear n0_ n1_ n2_ n3_ n4_ n5_; (try clear hb); (try clear hb2); (try clear hk); (try clear hi)))
                      go_meet
                      case rel => exact ⟨_, (true), (by first | rfl | (simp; done) | (simp [*]; done)), H', ⟨by have := HJ4.out; have := HK2.out; first | omega | exact Nat.le_refl _⟩, ⟨by (with_reducible repeat (first | apply Kd.R_alloc | apply Kd.R_drewN | apply Kd.R_drew)); exact Kd.R_mono HO_367002.out (fun _ hk => hk.2)⟩, ⟨by (with_reducible repeat (first | apply Kd.R_alloc | apply Kd.R_drewN | apply Kd.R_drew)); exact Kd.R_mono HO373.out (fun _ hk => hk.2)⟩, ⟨by (with_reducible repeat (first | refine blk_drewN ?_ _ | refine blk_drew ?_ | refine blk_alloc ?_ _)); exact BK366.out⟩, ⟨by (with_reducible repeat (first | refine blk_drewN ?_ _ | refine blk_drew ?_ | refine blk_alloc ?_ _)); exact BK368.out⟩, ⟨by (with_reducible repeat (first | refine blk_drewN ?_ _ | refine blk_drew ?_ | refine blk_alloc ?_ _)); exact BK375.out⟩, ⟨by repeat (first | (with_reducible first | exact HB.out | apply below_alloc | apply pw_below_drewN | apply below_drew1 | refine below_set ?_ GE366.out | refine below_set ?_ GE368.out | refine below_set ?_ GE375.out) | exact HB.out)⟩⟩
                 case rest =>
                  clear HC17
                  try clear c1
                  try clear c2
                  try clear p2
                  try clear c3
                  try clear p3
                  try clear q3
                  try clear hx3
                  try clear c4
                  try clear c5
                  try clear c6
                  try clear p6
                  try clear c7
                  try clear c7b0
                  try clear c7b1
                  try clear c8
                  try clear c8b0
                  try clear c9
                  try clear c12
                  try clear c12b0
                  try clear c13
                  try clear c13b0
                  try clear c14
                  try clear c14b0
                  try clear c16
                  try clear c16b0
                  try clear c16b1
                  try clear c19
                  try clear c25
                  try clear c26
                  try clear c29
                  try clear c30
                  try clear c31
                  try clear c34
                  try clear c35
                  try clear c35b0
                  try clear c36
                  try clear p36
                  try clear q36
                  try clear hx36
                  try clear c37
                  try clear c39
                  try clear c44
                  try clear c44b0
                  try clear c45
                  try clear c46
                  try clear c48
                  try clear c53
                  try clear c54
                  try clear c56
                  try clear c61
                  try clear c62
                  try clear c64
                  try clear p64
                  try clear hcz11_0
                  try clear hcz11_1
                  try clear hcz11_2
                  try clear hcz20_0
                  try clear hcz20_1
                  try clear hcz20_2
                  try clear hcz20_3
                  try clear hcz21_0
                  try clear hcz21_1
                  try clear hcz21_2
                  try clear hcz27_0
                  try clear hcz27_1
                  try clear hcz27_2
                  try clear hcz32_0
                  try clear hcz32_1
                  try clear hcz32_2
                  try clear hcz38_0
                  try clear hcz38_1
                  try clear hcz38_2
                  try clear hcz40_0
                  try clear hcz40_1
                  try clear hcz40_2
                  try clear hcz42_0
                  try clear hcz42_1
                  try clear hcz42_2
                  try clear hcz43_0
                  try clear hcz43_1
                  try clear hcz43_2
                  try clear hcz47_0
                  try clear hcz47_1
                  try clear hcz47_2
                  try clear hcz49_0
                  try clear hcz49_1
                  try clear hcz49_2
                  try clear hcz51_0
                  try clear hcz51_1
                  try clear hcz51_2
                  try clear hcz52_0
                  try clear hcz52_1
                  try clear hcz52_2
                  try clear hcz55_0
                  try clear hcz55_1
                  try clear hcz55_2
                  try clear hcz57_0
                  try clear hcz57_1
                  try clear hcz57_2
                  try clear hcz59_0
                  try clear hcz59_1
                  try clear hcz59_2
                  try clear hcz60_0
                  try clear hcz60_1
                  try clear hcz60_2
                  try clear hcz63_0
                  try clear hcz63_1
                  try clear hcz63_2
                  try clear hcz65_0
                  try clear hcz65_1
                  try clear hcz65_2
                  try clear hfz11_0
                  try clear hfz11_1
                  try clear hfz11_2
                  try clear hfz20_0
                  try clear hfz20_1
                  try clear hfz20_2
                  try clear hfz20_3
                  try clear hfz21_0
                  try clear hfz21_1
                  try clear hfz21_2
                  try clear hfz27_0
                  try clear hfz27_1
                  try clear hfz27_2
                  try clear hfz32_0
                  try clear hfz32_1
                  try clear hfz32_2
                  try clear hfz38_0
                  try clear hfz38_1
                  try clear hfz38_2
                  try clear hfz40_0
                  try clear hfz40_1
                  try clear hfz40_2
                  try clear hfz42_0
                  try clear hfz42_1
                  try clear hfz42_2
                  try clear hfz43_0
                  try clear hfz43_1
                  try clear hfz43_2
                  try clear hfz47_0
                  try clear hfz47_1
                  try clear hfz47_2
                  try clear hfz49_0
                  try clear hfz49_1
                  try clear hfz49_2
                  try clear hfz51_0
                  try clear hfz51_1
                  try clear hfz51_2
                  try clear hfz52_0
                  try clear hfz52_1
                  try clear hfz52_2
                  try clear hfz55_0
                  try clear hfz55_1
                  try clear hfz55_2
                  try clear hfz57_0
                  try clear hfz57_1
                  try clear hfz57_2
                  try clear hfz59_0
                  try clear hfz59_1
                  try clear hfz59_2
                  try clear hfz60_0
                  try clear hfz60_1
                  try clear hfz60_2
                  try clear hfz63_0
                  try clear hfz63_1
                  try clear hfz63_2
                  try clear hfz65_0
                  try clear hfz65_1
                  try clear hfz65_2
                  try clear hx367_0
                  try clear hx367_1
                  try clear hx367_2
                  try clear hx367_3
                  try clear p2
                  try clear p367
                  try clear q367
                  obtain ⟨kq, x88_16, rfl, HA, HJ16, HO_367002, HO_376002, BK366, BK368, BK375, HB⟩ := hcut
                  cases kq with
                  | zero => exact absurd HA.out (by simp [masterdisclaw14_TocKeeps.j2])
                  | succ kj16 =>
                   have H := HA.out
                   clear HA
                   simp only [masterdisclaw14_TocKeeps.j2] at H
                   by_cases c67 : x88_16 = true
                   · subst c67
                     have H1 : (none) = some r := by rw [if_pos rfl] at H; exact H
                     clear H
                     have H := H1
                     clear H1
                     exact absurd H (by simp)
                   · replace c67 := Bool.eq_false_iff.mpr c67
                     subst c67
                     have H1 : (masterdisclaw14_TocKeeps.l1 kj16 a0 l1 (l1.length : Int) x31_2 x367002_2 (x367002_2.length : Int) 0 x367000_2 x367001_2 x367002_2 t369 t370 t371) = some r := by rw [if_neg (show ¬ (false = true) by decide)] at H; exact H
                     clear H
                     have H := H1
                     clear H1
                     have H' := Aside0.mk H
                     clear H
                     have hnb68 := NB366_368.out
                     have hnc68 := NB368_366.out
                     have hnb69 := NB366_375.out
                     have hnc69 := NB375_366.out
                     obtain ⟨hcz70_0, hcz70_1, hcz70_2⟩ := cel3 BK366.out
                     obtain ⟨hfz70_0, hfz70_1, hfz70_2⟩ := frz3 BK366.out
                     go_wp2
                     go_loopg [92] kj16 (fun kq v92 w' => ∃ (x92_4 : Int), v92 = .int .i64 x92_4 ∧ Aside0 (masterdisclaw14_TocKeeps.l1 kq a0 l1 (l1.length : Int) x31_2 x367002_2 (x367002_2.length : Int) x92_4 x367000_2 x367001_2 x367002_2 t369 t370 t371 = some r) ∧ Aside0 (kq ≤ kj16) ∧ Aside0 (Kd.R k40 40 w' w.heap.size (fun k_ => some k_ ≠ ((.slice Ao28 t371.length co28) : Value).ownBlock) (.slice Ao22 x367002_2.length co22) x367002_2) ∧ Aside0 (Kd.R k40 40 w' w.heap.size (fun k_ => some k_ ≠ ((.slice Ao28 t371.length co28) : Value).ownBlock) (.slice Ao22 x367002_2.length co22) x367002_2) ∧ Aside0 (Kd.R k40 40 w' w.heap.size (fun k_ => some k_ ≠ ((.slice Ao22 x367002_2.length co22) : Value).ownBlock ∧ some k_ ≠ ((.slice Ao22 x367002_2.length co22) : Value).ownBlock) (.slice Ao28 t371.length co28) t371) ∧ Aside0 (w'.heap[gb366]? = some (.cells #[.int .i64 x367000_2, .bool x367001_2, (.slice Ao22 x367002_2.length co22)] 24 (0, 0))) ∧ Aside0 (w'.heap[gb368]? = some (.cells #[.int .i64 ((rd_T26 l1 x31_2).f0), .int .i64 ((rd_T26 l1 x31_2).f1), .int .i64 ((rd_T26 l1 x31_2).f2), .bool ((rd_T26 l1 x31_2).f3)] 26 (0, 0))) ∧ Aside0 (w'.heap[gb375]? = some (.cells #[.int .i64 t369, .bool t370, (.slice Ao28 t371.length co28)] 24 (0, 0))) ∧ Aside0 (Below w.heap.size w w'))
                     case atStart => exact ⟨(0), (by first | rfl | (simp; done) | (simp [*]; done)), H', ⟨Nat.le_refl _⟩, ⟨by (with_reducible repeat (first | apply Kd.R_alloc | apply Kd.R_drewN | apply Kd.R_drew)); exact HO_367002.out⟩, ⟨by (with_reducible repeat (first | apply Kd.R_alloc | apply Kd.R_drewN | apply Kd.R_drew)); exact HO_367002.out⟩, ⟨by (with_reducible repeat (first | apply Kd.R_alloc | apply Kd.R_drewN | apply Kd.R_drew)); exact Kd.R_mono HO_376002.out (fun _ hk => ⟨hk, hk⟩)⟩, ⟨by (with_reducible repeat (first | refine blk_drewN ?_ _ | refine blk_drew ?_ | refine blk_alloc ?_ _)); exact BK366.out⟩, ⟨by (with_reducible repeat (first | refine blk_drewN ?_ _ | refine blk_drew ?_ | refine blk_alloc ?_ _)); exact BK368.out⟩, ⟨by (with_reducible repeat (first | refine blk_drewN ?_ _ | refine blk_drew ?_ | refine blk_alloc ?_ _)); exact BK375.out⟩, ⟨by repeat (first | (with_reducible first | exact HB.out | apply below_alloc | apply pw_below_drewN | apply below_drew1 | refine below_set ?_ GE366.out | refine below_set ?_ GE368.out | refine below_set ?_ GE375.out) | exact HB.out)⟩⟩
                     case round =>
                      clear H'
                      try clear c1
                      try clear c2
                      try clear p2
                      try clear c3
                      try clear p3
                      try clear q3
                      try clear hx3
                      try clear c4
                      try clear c5
                      try clear c6
                      try clear p6
                      try clear c7
                      try clear c7b0
                      try clear c7b1
                      try clear c8
                      try clear c8b0
                      try clear c9
                      try clear c12
                      try clear c12b0
                      try clear c13
                      try clear c13b0
                      try clear c14
                      try clear c14b0
                      try clear c16
                      try clear c16b0
                      try clear c16b1
                      try clear c19
                      try clear c25
                      try clear c26
                      try clear c29
                      try clear c30
                      try clear c31
                      try clear c34
                      try clear c35
                      try clear c35b0
                      try clear c36
                      try clear p36
                      try clear q36
                      try clear hx36
                      try clear c37
                      try clear c39
                      try clear c44
                      try clear c44b0
                      try clear c45
                      try clear c46
                      try clear c48
                      try clear c53
                      try clear c54
                      try clear c56
                      try clear c61
                      try clear c62
                      try clear c64
                      try clear p64
                      try clear c67
                      try clear c68
                      try clear c69
                      try clear hcz11_0
                      try clear hcz11_1
                      try clear hcz11_2
                      try clear hcz20_0
                      try clear hcz20_1
                      try clear hcz20_2
                      try clear hcz20_3
                      try clear hcz21_0
                      try clear hcz21_1
                      try clear hcz21_2
                      try clear hcz27_0
                      try clear hcz27_1
                      try clear hcz27_2
                      try clear hcz32_0
                      try clear hcz32_1
                      try clear hcz32_2
                      try clear hcz38_0
                      try clear hcz38_1
                      try clear hcz38_2
                      try clear hcz40_0
                      try clear hcz40_1
                      try clear hcz40_2
                      try clear hcz42_0
                      try clear hcz42_1
                      try clear hcz42_2
                      try clear hcz43_0
                      try clear hcz43_1
                      try clear hcz43_2
                      try clear hcz47_0
                      try clear hcz47_1
                      try clear hcz47_2
                      try clear hcz49_0
                      try clear hcz49_1
                      try clear hcz49_2
                      try clear hcz51_0
                      try clear hcz51_1
                      try clear hcz51_2
                      try clear hcz52_0
                      try clear hcz52_1
                      try clear hcz52_2
                      try clear hcz55_0
                      try clear hcz55_1
                      try clear hcz55_2
                      try clear hcz57_0
                      try clear hcz57_1
                      try clear hcz57_2
                      try clear hcz59_0
                      try clear hcz59_1
                      try clear hcz59_2
                      try clear hcz60_0
                      try clear hcz60_1
                      try clear hcz60_2
                      try clear hcz63_0
                      try clear hcz63_1
                      try clear hcz63_2
                      try clear hcz65_0
                      try clear hcz65_1
                      try clear hcz65_2
                      try clear hcz70_0
                      try clear hcz70_1
                      try clear hcz70_2
                      try clear hfz11_0
                      try clear hfz11_1
                      try clear hfz11_2
                      try clear hfz20_0
                      try clear hfz20_1
                      try clear hfz20_2
                      try clear hfz20_3
                      try clear hfz21_0
                      try clear hfz21_1
                      try clear hfz21_2
                      try clear hfz27_0
                      try clear hfz27_1
                      try clear hfz27_2
                      try clear hfz32_0
                      try clear hfz32_1
                      try clear hfz32_2
                      try clear hfz38_0
                      try clear hfz38_1
                      try clear hfz38_2
                      try clear hfz40_0
                      try clear hfz40_1
                      try clear hfz40_2
                      try clear hfz42_0
                      try clear hfz42_1
                      try clear hfz42_2
                      try clear hfz43_0
                      try clear hfz43_1
                      try clear hfz43_2
                      try clear hfz47_0
                      try clear hfz47_1
                      try clear hfz47_2
                      try clear hfz49_0
                      try clear hfz49_1
                      try clear hfz49_2
                      try clear hfz51_0
                      try clear hfz51_1
                      try clear hfz51_2
                      try clear hfz52_0
                      try clear hfz52_1
                      try clear hfz52_2
                      try clear hfz55_0
                      try clear hfz55_1
                      try clear hfz55_2
                      try clear hfz57_0
                      try clear hfz57_1
                      try clear hfz57_2
                      try clear hfz59_0
                      try clear hfz59_1
                      try clear hfz59_2
                      try clear hfz60_0
                      try clear hfz60_1
                      try clear hfz60_2
                      try clear hfz63_0
                      try clear hfz63_1
                      try clear hfz63_2
                      try clear hfz65_0
                      try clear hfz65_1
                      try clear hfz65_2
                      try clear hfz70_0
                      try clear hfz70_1
                      try clear hfz70_2
                      try clear hx367_0
                      try clear hx367_1
                      try clear hx367_2
                      try clear hx367_3
                      try clear p2
                      try clear p3
                      try clear p36
                      try clear p367
                      try clear p6
                      try clear p64
                      try clear q3
                      try clear q36
                      try clear q367
                      obtain ⟨x92_4, rfl, HA, HK4, HO_90, HO_367002, HO_376002, BK366, BK368, BK375, HB⟩ := hrel
                      cases gk with
                      | zero => exact absurd HA.out (by simp [masterdisclaw14_TocKeeps.l1])
                      | succ k4 =>
                       have H := HA.out
                       clear HA
                       simp only [masterdisclaw14_TocKeeps.l1] at H
                       by_cases c71 : x92_4 < (x367002_2.length : Int)
                       · rw [if_pos c71] at H
                         have c71b0 : decide (x92_4 < (x367002_2.length : Int)) = true := decide_eq_true c71
                         clear c71
                         by_cases c72 : 0 ≤ x92_4
                         · rw [if_pos c72] at H
                           have c72b0 : decide (0 ≤ x92_4) = true := decide_eq_true c72
                           clear c72
                           by_cases c73 : x92_4 < (x367002_2.length : Int)
                           · rw [if_pos c73] at H
                             have c73b0 : decide (x92_4 < (x367002_2.length : Int)) = true := decide_eq_true c73
                             clear c73
                             by_cases c74 : x92_4 < (t371.length : Int)
                             · rw [if_pos c74] at H
                               have c74b0 : decide (x92_4 < (t371.length : Int)) = true := decide_eq_true c74
                               clear c74
                               by_cases c75 : ((rd_T40 x367002_2 x92_4).f5) = 2
                               · rw [if_pos c75] at H
                                 have c75b0 : (((rd_T40 x367002_2 x92_4).f5) == 2) = true := beq_iff_eq.mpr c75
                                 have c75b1 : (((rd_T40 x367002_2 x92_4).f5) != 2) = false := bne_eq_false_iff_eq.mpr c75
                                 clear c75
                                 by_cases c76 : (!(((rd_T40 t371 x92_4).f0) == ((rd_T40 x367002_2 x92_4).f0)) || (!(((rd_T40 t371 x92_4).f1) == ((rd_T40 x367002_2 x92_4).f1)) || (!(((rd_T40 t371 x92_4).f2) == ((rd_T40 x367002_2 x92_4).f2)) || (!(((rd_T40 t371 x92_4).f3) == ((rd_T40 x367002_2 x92_4).f3)) || (!(((rd_T40 t371 x92_4).f4) == ((rd_T40 x367002_2 x92_4).f4)) || (!(((rd_T40 t371 x92_4).f5) == ((rd_T40 x367002_2 x92_4).f5)) || (!(((rd_T40 t371 x92_4).f6) == ((rd_T40 x367002_2 x92_4).f6))))))))) = true
                                 · rw [if_pos c76] at H
                                   exact absurd H (by simp)
                                 · rw [if_neg c76] at H
                                   have c76b0 : (!(((rd_T40 t371 x92_4).f0) == ((rd_T40 x367002_2 x92_4).f0)) || (!(((rd_T40 t371 x92_4).f1) == ((rd_T40 x367002_2 x92_4).f1)) || (!(((rd_T40 t371 x92_4).f2) == ((rd_T40 x367002_2 x92_4).f2)) || (!(((rd_T40 t371 x92_4).f3) == ((rd_T40 x367002_2 x92_4).f3)) || (!(((rd_T40 t371 x92_4).f4) == ((rd_T40 x367002_2 x92_4).f4)) || (!(((rd_T40 t371 x92_4).f5) == ((rd_T40 x367002_2 x92_4).f5)) || (!(((rd_T40 t371 x92_4).f6) == ((rd_T40 x367002_2 x92_4).f6))))))))) = false := by simpa using c76
                                   have e_ := c76b0
                                   simp only [Bool.or_eq_false_iff, Bool.not_eq_false'] at e_
                                   obtain ⟨ez0, ez1, ez2, ez3, ez4, ez5, ez6⟩ := e_
                                   clear c76b0
                                   clear c76
                                   by_cases c77 : ((rd_T40 t371 x92_4).f4) < ((rd_T40 x367002_2 x92_4).f4)
                                   · rw [if_pos c77] at H
                                     exact absurd H (by simp)
                                   · rw [if_neg c77] at H
                                     have c77b0 : decide (((rd_T40 t371 x92_4).f4) < ((rd_T40 x367002_2 x92_4).f4)) = false := decide_eq_false c77
                                     clear c77
                                     by_cases c78 : ((rd_T40 t371 x92_4).f2) = ((rd_T40 x367002_2 x92_4).f2)
                                     · rw [if_pos c78] at H
                                       have c78b0 : (((rd_T40 t371 x92_4).f2) == ((rd_T40 x367002_2 x92_4).f2)) = true := beq_iff_eq.mpr c78
                                       have c78b1 : (((rd_T40 t371 x92_4).f2) != ((rd_T40 x367002_2 x92_4).f2)) = false := bne_eq_false_iff_eq.mpr c78
                                       clear c78
                                       by_cases c79 : ((rd_T40 t371 x92_4).f1) = ((rd_T40 x367002_2 x92_4).f1)
                                       · rw [if_pos c79] at H
                                         have c79b0 : (((rd_T40 t371 x92_4).f1) == ((rd_T40 x367002_2 x92_4).f1)) = true := beq_iff_eq.mpr c79
                                         have c79b1 : (((rd_T40 t371 x92_4).f1) != ((rd_T40 x367002_2 x92_4).f1)) = false := bne_eq_false_iff_eq.mpr c79
                                         clear c79
                                         by_cases c80 : ((rd_T40 t371 x92_4).f3) > ((rd_T40 x367002_2 x92_4).f3)
                                         · rw [if_pos c80] at H
                                           exact absurd H (by simp)
                                         · rw [if_neg c80] at H
                                           have c80b0 : decide (((rd_T40 x367002_2 x92_4).f3) < ((rd_T40 t371 x92_4).f3)) = false := decide_eq_false c80
                                           clear c80
                                           have H' := Aside0.mk H
                                           clear H
                                           have p377 : 0 ≤ (x92_4 : Int) := of_decide_eq_true (by first | (with_reducible assumption) | assumption)
                                           have q377 : x92_4 < (x367002_2.length : Int) := of_decide_eq_true (by first | (with_reducible assumption) | assumption)
                                           obtain ⟨ad377, e377, hx377_0, hx377_1, hx377_2, hx377_3, hx377_4, hx377_5, hx377_6⟩ := at_T40 (Kd.R_reads' HO_90.out).2.2 x92_4 p377 q377
                                           cases e377
                                           replace p377 := eq_true p377
                                           replace q377 := eq_true q377
                                           go_upto_region 19 with (first | ((with_reducible refine gate_dst (N := 11) rfl ?_); (try (refine gate_guard (by rfl) ?_; dsimp only)); refine box_event ?hg (N := 11) ?hd (cs := #[.int .i64 0, .int .i64 0, .int .i64 0, .int .i64 0, .int .i64 0, .int .i64 0, .int .i64 0]) (t := 40) ?hr ?_; (case hd => rfl); (case hg => rfl); (case hr => first | (go_simp; done) | (go_simp; rfl)); intro gb378 hg w81 hbox hb; have n0_ := Aside0.mk (Kd.R_below (Kd.R_elderB (by (with_reducible repeat (first | apply Kd.R_alloc | apply Kd.R_drewN | apply Kd.R_drew)); exact HO_90.out) gb378 (Nat.le_of_eq hg.symm)) hb); have n1_ := Aside0.mk (Kd.R_below (Kd.R_elderB (by (with_reducible repeat (first | apply Kd.R_alloc | apply Kd.R_drewN | apply Kd.R_drew)); exact HO_367002.out) gb378 (Nat.le_of_eq hg.symm)) hb); have n2_ := Aside0.mk (Kd.R_below (Kd.R_elderB (by (with_reducible repeat (first | apply Kd.R_alloc | apply Kd.R_drewN | apply Kd.R_drew)); exact HO_376002.out) gb378 (Nat.le_of_eq hg.symm)) hb); have n3_ := Aside0.mk (blk_below (g := gb366) (o := .cells #[.int .i64 x367000_2, .bool x367001_2, .slice (some ad377) x367002_2.length co22] 24 (0, 0)) (by (with_reducible repeat (first | refine blk_drewN ?_ _ | refine blk_drew ?_ | refine blk_alloc ?_ _)); exact BK366.out) hb); have n4_ := Aside0.mk (blk_below (g := gb368) (o := .cells #[.int .i64 ((rd_T26 l1 x31_2).f0), .int .i64 ((rd_T26 l1 x31_2).f1), .int .i64 ((rd_T26 l1 x31_2).f2), .bool ((rd_T26 l1 x31_2).f3)] 26 (0, 0)) (by (with_reducible repeat (first | refine blk_drewN ?_ _ | refine blk_drew ?_ | refine blk_alloc ?_ _)); exact BK368.out) hb); have n5_ := Aside0.mk (blk_below (g := gb375) (o := .cells #[.int .i64 t369, .bool t370, .slice Ao28 t371.length co28] 24 (0, 0)) (by (with_reducible repeat (first | refine blk_drewN ?_ _ | refine blk_drew ?_ | refine blk_alloc ?_ _)); exact BK375.out) hb); have n6_ := Aside0.mk (below_step (by repeat (first | (with_reducible first | exact HB.out | apply below_alloc | apply pw_below_drewN | apply below_drew1 | refine below_set ?_ GE366.out | refine below_set ?_ GE368.out | refine below_set ?_ GE375.out) | exact HB.out)) hb); have n7_ := Aside0.mk (hbox); have n8_ := Aside0.mk ((by rw [hg]; exact (below_size (by repeat (first | (with_reducible first | exact HB.out | apply below_alloc | apply pw_below_drewN | apply below_drew1 | refine below_set ?_ GE366.out | refine below_set ?_ GE368.out | refine below_set ?_ GE375.out) | exact HB.out))) : w.heap.size ≤ gb378)); have n9_ := Aside0.mk ((by rw [hg]; exact (below_size (by repeat (first | (with_reducible first | exact HB.out | apply below_alloc | apply pw_below_drewN | apply below_drew1 | refine below_set ?_ GE366.out | refine below_set ?_ GE368.out | refine below_set ?_ GE375.out) | exact HB.out))) : w.heap.size ≤ gb378)); have n10_ := Aside0.mk ((by rw [hg]; exact Nat.ne_of_lt (blk_lt (g := gb366) (o := .cells #[.int .i64 x367000_2, .bool x367001_2, .slice (some ad377) x367002_2.length co22] 24 (0, 0)) (by (with_reducible repeat (first | refine blk_drewN ?_ _ | refine blk_drew ?_ | refine blk_alloc ?_ _)); exact BK366.out)) : gb366 ≠ gb378)); have n11_ := Aside0.mk ((by rw [hg]; exact Nat.ne_of_gt (blk_lt (g := gb366) (o := .cells #[.int .i64 x367000_2, .bool x367001_2, .slice (some ad377) x367002_2.length co22] 24 (0, 0)) (by (with_reducible repeat (first | refine blk_drewN ?_ _ | refine blk_drew ?_ | refine blk_alloc ?_ _)); exact BK366.out)) : gb378 ≠ gb366)); have n12_ := Aside0.mk ((by rw [hg]; exact Nat.ne_of_lt (blk_lt (g := gb368) (o := .cells #[.int .i64 ((rd_T26 l1 x31_2).f0), .int .i64 ((rd_T26 l1 x31_2).f1), .int .i64 ((rd_T26 l1 x31_2).f2), .bool ((rd_T26 l1 x31_2).f3)] 26 (0, 0)) (by (with_reducible repeat (first | refine blk_drewN ?_ _ | refine blk_drew ?_ | refine blk_alloc ?_ _)); exact BK368.out)) : gb368 ≠ gb378)); have n13_ := Aside0.mk ((by rw [hg]; exact Nat.ne_of_gt (blk_lt (g := gb368) (o := .cells #[.int .i64 ((rd_T26 l1 x31_2).f0), .int .i64 ((rd_T26 l1 x31_2).f1), .int .i64 ((rd_T26 l1 x31_2).f2), .bool ((rd_T26 l1 x31_2).f3)] 26 (0, 0)) (by (with_reducible repeat (first | refine blk_drewN ?_ _ | refine blk_drew ?_ | refine blk_alloc ?_ _)); exact BK368.out)) : gb378 ≠ gb368)); have n14_ := Aside0.mk ((by rw [hg]; exact Nat.ne_of_lt (blk_lt (g := gb375) (o := .cells #[.int .i64 t369, .bool t370, .slice Ao28 t371.length co28] 24 (0, 0)) (by (with_reducible repeat (first | refine blk_drewN ?_ _ | refine blk_drew ?_ | refine blk_alloc ?_ _)); exact BK375.out)) : gb375 ≠ gb378)); have n15_ := Aside0.mk ((by rw [hg]; exact Nat.ne_of_gt (blk_lt (g := gb375) (o := .cells #[.int .i64 t369, .bool t370, .slice Ao28 t371.length co28] 24 (0, 0)) (by (with_reducible repeat (first | refine blk_drewN ?_ _ | refine blk_drew ?_ | refine blk_alloc ?_ _)); exact BK375.out)) : gb378 ≠ gb375)); clear HO_90; clear HO_367002; clear HO_376002; clear BK366; clear BK368; clear BK375; clear HB; have HO_90 := n0_; have HO_367002 := n1_; have HO_376002 := n2_; have BK366 := n3_; have BK368 := n4_; have BK375 := n5_; have HB := n6_; have BK378 := n7_; have GW378 := n8_; have GE378 := n9_; have NB366_378 := n10_; have NB378_366 := n11_; have NB368_378 := n12_; have NB378_368 := n13_; have NB375_378 := n14_; have NB378_375 := n15_; clear n0_ n1_ n2_ n3_ n4_ n5_ n6_ n7_ n8_ n9_ n10_ n11_ n12_ n13_ n14_ n15_; clear hb hbox hg; have hnb82 := NB378_366.out; have hnc82 := NB366_378.out; have hnb83 := NB378_368.out; have hnc83 := NB368_378.out; have hnb84 := NB378_375.out; have hnc84 := NB375_378.out; obtain ⟨hcz85_0, hcz85_1, hcz85_2, hcz85_3, hcz85_4, hcz85_5, hcz85_6⟩ := cel7 BK378.out; obtain ⟨hfz85_0, hfz85_1, hfz85_2, hfz85_3, hfz85_4, hfz85_5, hfz85_6⟩ := frz7 BK378.out; have hnb86 := NB375_366.out; have hnc86 := NB366_375.out; have hnb87 := NB375_368.out; have hnc87 := NB368_375.out; obtain ⟨hcz88_0, hcz88_1, hcz88_2⟩ := cel3 BK375.out; obtain ⟨hfz88_0, hfz88_1, hfz88_2⟩ := frz3 BK375.out; have p379 : 0 ≤ (x92_4 : Int) := of_decide_eq_true (by first | (with_reducible assumption) | assumption); have q379 : x92_4 < (t371.length : Int) := of_decide_eq_true (by first | (with_reducible assumption) | assumption); obtain ⟨ad379, e379, hx379_0, hx379_1, hx379_2, hx379_3, hx379_4, hx379_5, hx379_6⟩ := at_T40 (Kd.R_reads' HO_376002.out).2.2 x92_4 p379 q379; cases e379; have hn379_0 : ad379.block ≠ gb378 := Kd.own_blk (by first | exact Kd.R_ne HO_376002.out BK378.out (by decide) | exact fun h => (HO_376002.out.1 _ h).2 rfl | exact fun h => (HO_376002.out.1 _ h.symm).2 rfl | exact fun h => (HO_376002.out.1 _ h).2.2 rfl); have hn379_1 : ad379.block ≠ gb378 := Kd.own_blk (by first | exact Kd.R_ne HO_376002.out BK378.out (by decide) | exact fun h => (HO_376002.out.1 _ h).2 rfl | exact fun h => (HO_376002.out.1 _ h.symm).2 rfl | exact fun h => (HO_376002.out.1 _ h).2.2 rfl); have hn379_2 : ad379.block ≠ gb378 := Kd.own_blk (by first | exact Kd.R_ne HO_376002.out BK378.out (by decide) | exact fun h => (HO_376002.out.1 _ h).2 rfl | exact fun h => (HO_376002.out.1 _ h.symm).2 rfl | exact fun h => (HO_376002.out.1 _ h).2.2 rfl); have hn379_3 : ad379.block ≠ gb378 := Kd.own_blk (by first | exact Kd.R_ne HO_376002.out BK378.out (by decide) | exact fun h => (HO_376002.out.1 _ h).2 rfl | exact fun h => (HO_376002.out.1 _ h.symm).2 rfl | exact fun h => (HO_376002.out.1 _ h).2.2 rfl); have hn379_4 : ad379.block ≠ gb378 := Kd.own_blk (by first | exact Kd.R_ne HO_376002.out BK378.out (by decide) | exact fun h => (HO_376002.out.1 _ h).2 rfl | exact fun h => (HO_376002.out.1 _ h.symm).2 rfl | exact fun h => (HO_376002.out.1 _ h).2.2 rfl); have hn379_5 : ad379.block ≠ gb378 := Kd.own_blk (by first | exact Kd.R_ne HO_376002.out BK378.out (by decide) | exact fun h => (HO_376002.out.1 _ h).2 rfl | exact fun h => (HO_376002.out.1 _ h.symm).2 rfl | exact fun h => (HO_376002.out.1 _ h).2.2 rfl); have hn379_6 : ad379.block ≠ gb378 := Kd.own_blk (by first | exact Kd.R_ne HO_376002.out BK378.out (by decide) | exact fun h => (HO_376002.out.1 _ h).2 rfl | exact fun h => (HO_376002.out.1 _ h.symm).2 rfl | exact fun h => (HO_376002.out.1 _ h).2.2 rfl); replace hx379_0 := (cell_far (p := ⟨gb378, 0, none⟩) (by first | (rw [add_block]; exact hn379_0) | (show (Addr.add _ _).block ≠ _; rw [add_block]; exact hn379_0) | exact hn379_0) (.int .i64 ((rd_T40 x367002_2 x92_4).f0))).trans hx379_0; replace hx379_1 := (cell_far (p := ⟨gb378, 0, none⟩) (by first | (rw [add_block]; exact hn379_0) | (show (Addr.add _ _).block ≠ _; rw [add_block]; exact hn379_0) | exact hn379_0) (.int .i64 ((rd_T40 x367002_2 x92_4).f0))).trans hx379_1; replace hx379_2 := (cell_far (p := ⟨gb378, 0, none⟩) (by first | (rw [add_block]; exact hn379_0) | (show (Addr.add _ _).block ≠ _; rw [add_block]; exact hn379_0) | exact hn379_0) (.int .i64 ((rd_T40 x367002_2 x92_4).f0))).trans hx379_2; replace hx379_3 := (cell_far (p := ⟨gb378, 0, none⟩) (by first | (rw [add_block]; exact hn379_0) | (show (Addr.add _ _).block ≠ _; rw [add_block]; exact hn379_0) | exact hn379_0) (.int .i64 ((rd_T40 x367002_2 x92_4).f0))).trans hx379_3; replace hx379_4 := (cell_far (p := ⟨gb378, 0, none⟩) (by first | (rw [add_block]; exact hn379_0) | (show (Addr.add _ _).block ≠ _; rw [add_block]; exact hn379_0) | exact hn379_0) (.int .i64 ((rd_T40 x367002_2 x92_4).f0))).trans hx379_4; replace hx379_5 := (cell_far (p := ⟨gb378, 0, none⟩) (by first | (rw [add_block]; exact hn379_0) | (show (Addr.add _ _).block ≠ _; rw [add_block]; exact hn379_0) | exact hn379_0) (.int .i64 ((rd_T40 x367002_2 x92_4).f0))).trans hx379_5; replace hx379_6 := (cell_far (p := ⟨gb378, 0, none⟩) (by first | (rw [add_block]; exact hn379_0) | (show (Addr.add _ _).block ≠ _; rw [add_block]; exact hn379_0) | exact hn379_0) (.int .i64 ((rd_T40 x367002_2 x92_4).f0))).trans hx379_6; replace hx379_0 := (cell_far (p := ⟨gb378, 1, none⟩) (by first | (rw [add_block]; exact hn379_1) | (show (Addr.add _ _).block ≠ _; rw [add_block]; exact hn379_1) | exact hn379_1) (.int .i64 ((rd_T40 x367002_2 x92_4).f1))).trans hx379_0; replace hx379_1 := (cell_far (p := ⟨gb378, 1, none⟩) (by first | (rw [add_block]; exact hn379_1) | (show (Addr.add _ _).block ≠ _; rw [add_block]; exact hn379_1) | exact hn379_1) (.int .i64 ((rd_T40 x367002_2 x92_4).f1))).trans hx379_1; replace hx379_2 := (cell_far (p := ⟨gb378, 1, none⟩) (by first | (rw [add_block]; exact hn379_1) | (show (Addr.add _ _).block ≠ _; rw [add_block]; exact hn379_1) | exact hn379_1) (.int .i64 ((rd_T40 x367002_2 x92_4).f1))).trans hx379_2; replace hx379_3 := (cell_far (p := ⟨gb378, 1, none⟩) (by first | (rw [add_block]; exact hn379_1) | (show (Addr.add _ _).block ≠ _; rw [add_block]; exact hn379_1) | exact hn379_1) (.int .i64 ((rd_T40 x367002_2 x92_4).f1))).trans hx379_3; replace hx379_4 := (cell_far (p := ⟨gb378, 1, none⟩) (by first | (rw [add_block]; exact hn379_1) | (show (Addr.add _ _).block ≠ _; rw [add_block]; exact hn379_1) | exact hn379_1) (.int .i64 ((rd_T40 x367002_2 x92_4).f1))).trans hx379_4; replace hx379_5 := (cell_far (p := ⟨gb378, 1, none⟩) (by first | (rw [add_block]; exact hn379_1) | (show (Addr.add _ _).block ≠ _; rw [add_block]; exact hn379_1) | exact hn379_1) (.int .i64 ((rd_T40 x367002_2 x92_4).f1))).trans hx379_5; replace hx379_6 := (cell_far (p := ⟨gb378, 1, none⟩) (by first | (rw [add_block]; exact hn379_1) | (show (Addr.add _ _).block ≠ _; rw [add_block]; exact hn379_1) | exact hn379_1) (.int .i64 ((rd_T40 x367002_2 x92_4).f1))).trans hx379_6; replace hx379_0 := (cell_far (p := ⟨gb378, 2, none⟩) (by first | (rw [add_block]; exact hn379_2) | (show (Addr.add _ _).block ≠ _; rw [add_block]; exact hn379_2) | exact hn379_2) (.int .i64 ((rd_T40 x367002_2 x92_4).f2))).trans hx379_0; replace hx379_1 := (cell_far (p := ⟨gb378, 2, none⟩) (by first | (rw [add_block]; exact hn379_2) | (show (Addr.add _ _).block ≠ _; rw [add_block]; exact hn379_2) | exact hn379_2) (.int .i64 ((rd_T40 x367002_2 x92_4).f2))).trans hx379_1; replace hx379_2 := (cell_far (p := ⟨gb378, 2, none⟩) (by first | (rw [add_block]; exact hn379_2) | (show (Addr.add _ _).block ≠ _; rw [add_block]; exact hn379_2) | exact hn379_2) (.int .i64 ((rd_T40 x367002_2 x92_4).f2))).trans hx379_2; replace hx379_3 := (cell_far (p := ⟨gb378, 2, none⟩) (by first | (rw [add_block]; exact hn379_2) | (show (Addr.add _ _).block ≠ _; rw [add_block]; exact hn379_2) | exact hn379_2) (.int .i64 ((rd_T40 x367002_2 x92_4).f2))).trans hx379_3; replace hx379_4 := (cell_far (p := ⟨gb378, 2, none⟩) (by first | (rw [add_block]; exact hn379_2) | (show (Addr.add _ _).block ≠ _; rw [add_block]; exact hn379_2) | exact hn379_2) (.int .i64 ((rd_T40 x367002_2 x92_4).f2))).trans hx379_4; replace hx379_5 := (cell_far (p := ⟨gb378, 2, none⟩) (by first | (rw [add_block]; exact hn379_2) | (show (Addr.add _ _).block ≠ _; rw [add_block]; exact hn379_2) | exact hn379_2) (.int .i64 ((rd_T40 x367002_2 x92_4).f2))).trans hx379_5; replace hx379_6 := (cell_far (p := ⟨gb378, 2, none⟩) (by first | (rw [add_block]; exact hn379_2) | (show (Addr.add _ _).block ≠ _; rw [add_block]; exact hn379_2) | exact hn379_2) (.int .i64 ((rd_T40 x367002_2 x92_4).f2))).trans hx379_6; replace hx379_0 := (cell_far (p := ⟨gb378, 3, none⟩) (by first | (rw [add_block]; exact hn379_3) | (show (Addr.add _ _).block ≠ _; rw [add_block]; exact hn379_3) | exact hn379_3) (.int .i64 ((rd_T40 x367002_2 x92_4).f3))).trans hx379_0; replace hx379_1 := (cell_far (p := ⟨gb378, 3, none⟩) (by first | (rw [add_block]; exact hn379_3) | (show (Addr.add _ _).block ≠ _; rw [add_block]; exact hn379_3) | exact hn379_3) (.int .i64 ((rd_T40 x367002_2 x92_4).f3))).trans hx379_1; replace hx379_2 := (cell_far (p := ⟨gb378, 3, none⟩) (by first | (rw [add_block]; exact hn379_3) | (show (Addr.add _ _).block ≠ _; rw [add_block]; exact hn379_3) | exact hn379_3) (.int .i64 ((rd_T40 x367002_2 x92_4).f3))).trans hx379_2; replace hx379_3 := (cell_far (p := ⟨gb378, 3, none⟩) (by first | (rw [add_block]; exact hn379_3) | (show (Addr.add _ _).block ≠ _; rw [add_block]; exact hn379_3) | exact hn379_3) (.int .i64 ((rd_T40 x367002_2 x92_4).f3))).trans hx379_3; replace hx379_4 := (cell_far (p := ⟨gb378, 3, none⟩) (by first | (rw [add_block]; exact hn379_3) | (show (Addr.add _ _).block ≠ _; rw [add_block]; exact hn379_3) | exact hn379_3) (.int .i64 ((rd_T40 x367002_2 x92_4).f3))).trans hx379_4; replace hx379_5 := (cell_far (p := ⟨gb378, 3, none⟩) (by first | (rw [add_block]; exact hn379_3) | (show (Addr.add _ _).block ≠ _; rw [add_block]; exact hn379_3) | exact hn379_3) (.int .i64 ((rd_T40 x367002_2 x92_4).f3))).trans hx379_5; replace hx379_6 := (cell_far (p := ⟨gb378, 3, none⟩) (by first | (rw [add_block]; exact hn379_3) | (show (Addr.add _ _).block ≠ _; rw [add_block]; exact hn379_3) | exact hn379_3) (.int .i64 ((rd_T40 x367002_2 x92_4).f3))).trans hx379_6; replace hx379_0 := (cell_far (p := ⟨gb378, 4, none⟩) (by first | (rw [add_block]; exact hn379_4) | (show (Addr.add _ _).block ≠ _; rw [add_block]; exact hn379_4) | exact hn379_4) (.int .i64 ((rd_T40 x367002_2 x92_4).f4))).trans hx379_0; replace hx379_1 := (cell_far (p := ⟨gb378, 4, none⟩) (by first | (rw [add_block]; exact hn379_4) | (show (Addr.add _ _).block ≠ _; rw [add_block]; exact hn379_4) | exact hn379_4) (.int .i64 ((rd_T40 x367002_2 x92_4).f4))).trans hx379_1; replace hx379_2 := (cell_far (p := ⟨gb378, 4, none⟩) (by first | (rw [add_block]; exact hn379_4) | (show (Addr.add _ _).block ≠ _; rw [add_block]; exact hn379_4) | exact hn379_4) (.int .i64 ((rd_T40 x367002_2 x92_4).f4))).trans hx379_2; replace hx379_3 := (cell_far (p := ⟨gb378, 4, none⟩) (by first | (rw [add_block]; exact hn379_4) | (show (Addr.add _ _).block ≠ _; rw [add_block]; exact hn379_4) | exact hn379_4) (.int .i64 ((rd_T40 x367002_2 x92_4).f4))).trans hx379_3; replace hx379_4 := (cell_far (p := ⟨gb378, 4, none⟩) (by first | (rw [add_block]; exact hn379_4) | (show (Addr.add _ _).block ≠ _; rw [add_block]; exact hn379_4) | exact hn379_4) (.int .i64 ((rd_T40 x367002_2 x92_4).f4))).trans hx379_4; replace hx379_5 := (cell_far (p := ⟨gb378, 4, none⟩) (by first | (rw [add_block]; exact hn379_4) | (show (Addr.add _ _).block ≠ _; rw [add_block]; exact hn379_4) | exact hn379_4) (.int .i64 ((rd_T40 x367002_2 x92_4).f4))).trans hx379_5; replace hx379_6 := (cell_far (p := ⟨gb378, 4, none⟩) (by first | (rw [add_block]; exact hn379_4) | (show (Addr.add _ _).block ≠ _; rw [add_block]; exact hn379_4) | exact hn379_4) (.int .i64 ((rd_T40 x367002_2 x92_4).f4))).trans hx379_6; replace hx379_0 := (cell_far (p := ⟨gb378, 5, none⟩) (by first | (rw [add_block]; exact hn379_5) | (show (Addr.add _ _).block ≠ _; rw [add_block]; exact hn379_5) | exact hn379_5) (.int .i64 ((rd_T40 x367002_2 x92_4).f5))).trans hx379_0; replace hx379_1 := (cell_far (p := ⟨gb378, 5, none⟩) (by first | (rw [add_block]; exact hn379_5) | (show (Addr.add _ _).block ≠ _; rw [add_block]; exact hn379_5) | exact hn379_5) (.int .i64 ((rd_T40 x367002_2 x92_4).f5))).trans hx379_1; replace hx379_2 := (cell_far (p := ⟨gb378, 5, none⟩) (by first | (rw [add_block]; exact hn379_5) | (show (Addr.add _ _).block ≠ _; rw [add_block]; exact hn379_5) | exact hn379_5) (.int .i64 ((rd_T40 x367002_2 x92_4).f5))).trans hx379_2; replace hx379_3 := (cell_far (p := ⟨gb378, 5, none⟩) (by first | (rw [add_block]; exact hn379_5) | (show (Addr.add _ _).block ≠ _; rw [add_block]; exact hn379_5) | exact hn379_5) (.int .i64 ((rd_T40 x367002_2 x92_4).f5))).trans hx379_3; replace hx379_4 := (cell_far (p := ⟨gb378, 5, none⟩) (by first | (rw [add_block]; exact hn379_5) | (show (Addr.add _ _).block ≠ _; rw [add_block]; exact hn379_5) | exact hn379_5) (.int .i64 ((rd_T40 x367002_2 x92_4).f5))).trans hx379_4; replace hx379_5 := (cell_far (p := ⟨gb378, 5, none⟩) (by first | (rw [add_block]; exact hn379_5) | (show (Addr.add _ _).block ≠ _; rw [add_block]; exact hn379_5) | exact hn379_5) (.int .i64 ((rd_T40 x367002_2 x92_4).f5))).trans hx379_5; replace hx379_6 := (cell_far (p := ⟨gb378, 5, none⟩) (by first | (rw [add_block]; exact hn379_5) | (show (Addr.add _ _).block ≠ _; rw [add_block]; exact hn379_5) | exact hn379_5) (.int .i64 ((rd_T40 x367002_2 x92_4).f5))).trans hx379_6; replace hx379_0 := (cell_far (p := ⟨gb378, 6, none⟩) (by first | (rw [add_block]; exact hn379_6) | (show (Addr.add _ _).block ≠ _; rw [add_block]; exact hn379_6) | exact hn379_6) (.int .i64 ((rd_T40 x367002_2 x92_4).f6))).trans hx379_0; replace hx379_1 := (cell_far (p := ⟨gb378, 6, none⟩) (by first | (rw [add_block]; exact hn379_6) | (show (Addr.add _ _).block ≠ _; rw [add_block]; exact hn379_6) | exact hn379_6) (.int .i64 ((rd_T40 x367002_2 x92_4).f6))).trans hx379_1; replace hx379_2 := (cell_far (p := ⟨gb378, 6, none⟩) (by first | (rw [add_block]; exact hn379_6) | (show (Addr.add _ _).block ≠ _; rw [add_block]; exact hn379_6) | exact hn379_6) (.int .i64 ((rd_T40 x367002_2 x92_4).f6))).trans hx379_2; replace hx379_3 := (cell_far (p := ⟨gb378, 6, none⟩) (by first | (rw [add_block]; exact hn379_6) | (show (Addr.add _ _).block ≠ _; rw [add_block]; exact hn379_6) | exact hn379_6) (.int .i64 ((rd_T40 x367002_2 x92_4).f6))).trans hx379_3; replace hx379_4 := (cell_far (p := ⟨gb378, 6, none⟩) (by first | (rw [add_block]; exact hn379_6) | (show (Addr.add _ _).block ≠ _; rw [add_block]; exact hn379_6) | exact hn379_6) (.int .i64 ((rd_T40 x367002_2 x92_4).f6))).trans hx379_4; replace hx379_5 := (cell_far (p := ⟨gb378, 6, none⟩) (by first | (rw [add_block]; exact hn379_6) | (show (Addr.add _ _).block ≠ _; rw [add_block]; exact hn379_6) | exact hn379_6) (.int .i64 ((rd_T40 x367002_2 x92_4).f6))).trans hx379_5; replace hx379_6 := (cell_far (p := ⟨gb378, 6, none⟩) (by first | (rw [add_block]; exact hn379_6) | (show (Addr.add _ _).block ≠ _; rw [add_block]; exact hn379_6) | exact hn379_6) (.int .i64 ((rd_T40 x367002_2 x92_4).f6))).trans hx379_6; clear hn379_0; clear hn379_1; clear hn379_2; clear hn379_3; clear hn379_4; clear hn379_5; clear hn379_6; replace p379 := eq_true p379; replace q379 := eq_true q379) | ((with_reducible refine gate_dst (N := 12) rfl ?_); (try (refine gate_guard (by rfl) ?_; dsimp only)); refine box_event ?hg (N := 12) ?hd (cs := #[.int .i64 0, .int .i64 0, .int .i64 0, .int .i64 0, .int .i64 0, .int .i64 0, .int .i64 0]) (t := 40) ?hr ?_; (case hd => rfl); (case hg => rfl); (case hr => first | (go_simp; done) | (go_simp; rfl)); intro gb380 hg w89 hbox hb; have n0_ := Aside0.mk (Kd.R_below (Kd.R_elderB (by (with_reducible repeat (first | apply Kd.R_alloc | apply Kd.R_drewN | apply Kd.R_drew)); exact (Kd.R_mono (Kd.R_far (p := ⟨gb378, 6, none⟩) (Kd.R_far (p := ⟨gb378, 5, none⟩) (Kd.R_far (p := ⟨gb378, 4, none⟩) (Kd.R_far (p := ⟨gb378, 3, none⟩) (Kd.R_far (p := ⟨gb378, 2, none⟩) (Kd.R_far (p := ⟨gb378, 1, none⟩) (Kd.R_far (p := ⟨gb378, 0, none⟩) (Kd.R_mono HO_90.out (fun k_ hk => (⟨hk, hk.2⟩ : _ ∧ k_ ≠ gb378))) (fun _ hk => hk.2) (.int .i64 ((rd_T40 x367002_2 x92_4).f0))) (fun _ hk => hk.2) (.int .i64 ((rd_T40 x367002_2 x92_4).f1))) (fun _ hk => hk.2) (.int .i64 ((rd_T40 x367002_2 x92_4).f2))) (fun _ hk => hk.2) (.int .i64 ((rd_T40 x367002_2 x92_4).f3))) (fun _ hk => hk.2) (.int .i64 ((rd_T40 x367002_2 x92_4).f4))) (fun _ hk => hk.2) (.int .i64 ((rd_T40 x367002_2 x92_4).f5))) (fun _ hk => hk.2) (.int .i64 ((rd_T40 x367002_2 x92_4).f6))) (fun _ h_ => h_.1))) gb380 (Nat.le_of_eq hg.symm)) hb); have n1_ := Aside0.mk (Kd.R_below (Kd.R_elderB (by (with_reducible repeat (first | apply Kd.R_alloc | apply Kd.R_drewN | apply Kd.R_drew)); exact (Kd.R_mono (Kd.R_far (p := ⟨gb378, 6, none⟩) (Kd.R_far (p := ⟨gb378, 5, none⟩) (Kd.R_far (p := ⟨gb378, 4, none⟩) (Kd.R_far (p := ⟨gb378, 3, none⟩) (Kd.R_far (p := ⟨gb378, 2, none⟩) (Kd.R_far (p := ⟨gb378, 1, none⟩) (Kd.R_far (p := ⟨gb378, 0, none⟩) (Kd.R_mono HO_367002.out (fun k_ hk => (⟨hk, hk.2⟩ : _ ∧ k_ ≠ gb378))) (fun _ hk => hk.2) (.int .i64 ((rd_T40 x367002_2 x92_4).f0))) (fun _ hk => hk.2) (.int .i64 ((rd_T40 x367002_2 x92_4).f1))) (fun _ hk => hk.2) (.int .i64 ((rd_T40 x367002_2 x92_4).f2))) (fun _ hk => hk.2) (.int .i64 ((rd_T40 x367002_2 x92_4).f3))) (fun _ hk => hk.2) (.int .i64 ((rd_T40 x367002_2 x92_4).f4))) (fun _ hk => hk.2) (.int .i64 ((rd_T40 x367002_2 x92_4).f5))) (fun _ hk => hk.2) (.int .i64 ((rd_T40 x367002_2 x92_4).f6))) (fun _ h_ => h_.1))) gb380 (Nat.le_of_eq hg.symm)) hb); have n2_ := Aside0.mk (Kd.R_below (Kd.R_elderB (by (with_reducible repeat (first | apply Kd.R_alloc | apply Kd.R_drewN | apply Kd.R_drew)); exact (Kd.R_mono (Kd.R_far (p := ⟨gb378, 6, none⟩) (Kd.R_far (p := ⟨gb378, 5, none⟩) (Kd.R_far (p := ⟨gb378, 4, none⟩) (Kd.R_far (p := ⟨gb378, 3, none⟩) (Kd.R_far (p := ⟨gb378, 2, none⟩) (Kd.R_far (p := ⟨gb378, 1, none⟩) (Kd.R_far (p := ⟨gb378, 0, none⟩) (Kd.R_mono HO_376002.out (fun k_ hk => (⟨hk, hk.2⟩ : _ ∧ k_ ≠ gb378))) (fun _ hk => hk.2) (.int .i64 ((rd_T40 x367002_2 x92_4).f0))) (fun _ hk => hk.2) (.int .i64 ((rd_T40 x367002_2 x92_4).f1))) (fun _ hk => hk.2) (.int .i64 ((rd_T40 x367002_2 x92_4).f2))) (fun _ hk => hk.2) (.int .i64 ((rd_T40 x367002_2 x92_4).f3))) (fun _ hk => hk.2) (.int .i64 ((rd_T40 x367002_2 x92_4).f4))) (fun _ hk => hk.2) (.int .i64 ((rd_T40 x367002_2 x92_4).f5))) (fun _ hk => hk.2) (.int .i64 ((rd_T40 x367002_2 x92_4).f6))) (fun _ h_ => h_.1))) gb380 (Nat.le_of_eq hg.symm)) hb); have n3_ := Aside0.mk (blk_below (g := gb366) (o := .cells #[.int .i64 x367000_2, .bool x367001_2, .slice (some ad377) x367002_2.length co22] 24 (0, 0)) (by (with_reducible repeat (first | refine blk_drewN ?_ _ | refine blk_drew ?_ | refine blk_alloc ?_ _)); refine blk_far ?_ NB366_378.out _; (with_reducible repeat (first | refine blk_drewN ?_ _ | refine blk_drew ?_ | refine blk_alloc ?_ _)); refine blk_far ?_ NB366_378.out _; (with_reducible repeat (first | refine blk_drewN ?_ _ | refine blk_drew ?_ | refine blk_alloc ?_ _)); refine blk_far ?_ NB366_378.out _; (with_reducible repeat (first | refine blk_drewN ?_ _ | refine blk_drew ?_ | refine blk_alloc ?_ _)); refine blk_far ?_ NB366_378.out _; (with_reducible repeat (first | refine blk_drewN ?_ _ | refine blk_drew ?_ | refine blk_alloc ?_ _)); refine blk_far ?_ NB366_378.out _; (with_reducible repeat (first | refine blk_drewN ?_ _ | refine blk_drew ?_ | refine blk_alloc ?_ _)); refine blk_far ?_ NB366_378.out _; (with_reducible repeat (first | refine blk_drewN ?_ _ | refine blk_drew ?_ | refine blk_alloc ?_ _)); refine blk_far ?_ NB366_378.out _; (with_reducible repeat (first | refine blk_drewN ?_ _ | refine blk_drew ?_ | refine blk_alloc ?_ _)); exact BK366.out) hb); have n4_ := Aside0.mk (blk_below (g := gb368) (o := .cells #[.int .i64 ((rd_T26 l1 x31_2).f0), .int .i64 ((rd_T26 l1 x31_2).f1), .int .i64 ((rd_T26 l1 x31_2).f2), .bool ((rd_T26 l1 x31_2).f3)] 26 (0, 0)) (by (with_reducible repeat (first | refine blk_drewN ?_ _ | refine blk_drew ?_ | refine blk_alloc ?_ _)); refine blk_far ?_ NB368_378.out _; (with_reducible repeat (first | refine blk_drewN ?_ _ | refine blk_drew ?_ | refine blk_alloc ?_ _)); refine blk_far ?_ NB368_378.out _; (with_reducible repeat (first | refine blk_drewN ?_ _ | refine blk_drew ?_ | refine blk_alloc ?_ _)); refine blk_far ?_ NB368_378.out _; (with_reducible repeat (first | refine blk_drewN ?_ _ | refine blk_drew ?_ | refine blk_alloc ?_ _)); refine blk_far ?_ NB368_378.out _; (with_reducible repeat (first | refine blk_drewN ?_ _ | refine blk_drew ?_ | refine blk_alloc ?_ _)); refine blk_far ?_ NB368_378.out _; (with_reducible repeat (first | refine blk_drewN ?_ _ | refine blk_drew ?_ | refine blk_alloc ?_ _)); refine blk_far ?_ NB368_378.out _; (with_reducible repeat (first | refine blk_drewN ?_ _ | refine blk_drew ?_ | refine blk_alloc ?_ _)); refine blk_far ?_ NB368_378.out _; (with_reducible repeat (first | refine blk_drewN ?_ _ | refine blk_drew ?_ | refine blk_alloc ?_ _)); exact BK368.out) hb); have n5_ := Aside0.mk (blk_below (g := gb375) (o := .cells #[.int .i64 t369, .bool t370, .slice (some ad379) t371.length co28] 24 (0, 0)) (by (with_reducible repeat (first | refine blk_drewN ?_ _ | refine blk_drew ?_ | refine blk_alloc ?_ _)); refine blk_far ?_ NB375_378.out _; (with_reducible repeat (first | refine blk_drewN ?_ _ | refine blk_drew ?_ | refine blk_alloc ?_ _)); refine blk_far ?_ NB375_378.out _; (with_reducible repeat (first | refine blk_drewN ?_ _ | refine blk_drew ?_ | refine blk_alloc ?_ _)); refine blk_far ?_ NB375_378.out _; (with_reducible repeat (first | refine blk_drewN ?_ _ | refine blk_drew ?_ | refine blk_alloc ?_ _)); refine blk_far ?_ NB375_378.out _; (with_reducible repeat (first | refine blk_drewN ?_ _ | refine blk_drew ?_ | refine blk_alloc ?_ _)); refine blk_far ?_ NB375_378.out _; (with_reducible repeat (first | refine blk_drewN ?_ _ | refine blk_drew ?_ | refine blk_alloc ?_ _)); refine blk_far ?_ NB375_378.out _; (with_reducible repeat (first | refine blk_drewN ?_ _ | refine blk_drew ?_ | refine blk_alloc ?_ _)); refine blk_far ?_ NB375_378.out _; (with_reducible repeat (first | refine blk_drewN ?_ _ | refine blk_drew ?_ | refine blk_alloc ?_ _)); exact BK375.out) hb); have n6_ := Aside0.mk (blk_below (g := gb378) (o := .cells #[.int .i64 ((rd_T40 x367002_2 x92_4).f0), .int .i64 ((rd_T40 x367002_2 x92_4).f1), .int .i64 ((rd_T40 x367002_2 x92_4).f2), .int .i64 ((rd_T40 x367002_2 x92_4).f3), .int .i64 ((rd_T40 x367002_2 x92_4).f4), .int .i64 ((rd_T40 x367002_2 x92_4).f5), .int .i64 ((rd_T40 x367002_2 x92_4).f6)] 40 (0, 0)) (by (with_reducible repeat (first | refine blk_drewN ?_ _ | refine blk_drew ?_ | refine blk_alloc ?_ _)); refine blk_put (cs := #[.int .i64 ((rd_T40 x367002_2 x92_4).f0), .int .i64 ((rd_T40 x367002_2 x92_4).f1), .int .i64 ((rd_T40 x367002_2 x92_4).f2), .int .i64 ((rd_T40 x367002_2 x92_4).f3), .int .i64 ((rd_T40 x367002_2 x92_4).f4), .int .i64 ((rd_T40 x367002_2 x92_4).f5), .int .i64 0]) ?_ 6 _ rfl; (with_reducible repeat (first | refine blk_drewN ?_ _ | refine blk_drew ?_ | refine blk_alloc ?_ _)); refine blk_put (cs := #[.int .i64 ((rd_T40 x367002_2 x92_4).f0), .int .i64 ((rd_T40 x367002_2 x92_4).f1), .int .i64 ((rd_T40 x367002_2 x92_4).f2), .int .i64 ((rd_T40 x367002_2 x92_4).f3), .int .i64 ((rd_T40 x367002_2 x92_4).f4), .int .i64 0, .int .i64 0]) ?_ 5 _ rfl; (with_reducible repeat (first | refine blk_drewN ?_ _ | refine blk_drew ?_ | refine blk_alloc ?_ _)); refine blk_put (cs := #[.int .i64 ((rd_T40 x367002_2 x92_4).f0), .int .i64 ((rd_T40 x367002_2 x92_4).f1), .int .i64 ((rd_T40 x367002_2 x92_4).f2), .int .i64 ((rd_T40 x367002_2 x92_4).f3), .int .i64 0, .int .i64 0, .int .i64 0]) ?_ 4 _ rfl; (with_reducible repeat (first | refine blk_drewN ?_ _ | refine blk_drew ?_ | refine blk_alloc ?_ _)); refine blk_put (cs := #[.int .i64 ((rd_T40 x367002_2 x92_4).f0), .int .i64 ((rd_T40 x367002_2 x92_4).f1), .int .i64 ((rd_T40 x367002_2 x92_4).f2), .int .i64 0, .int .i64 0, .int .i64 0, .int .i64 0]) ?_ 3 _ rfl; (with_reducible repeat (first | refine blk_drewN ?_ _ | refine blk_drew ?_ | refine blk_alloc ?_ _)); refine blk_put (cs := #[.int .i64 ((rd_T40 x367002_2 x92_4).f0), .int .i64 ((rd_T40 x367002_2 x92_4).f1), .int .i64 0, .int .i64 0, .int .i64 0, .int .i64 0, .int .i64 0]) ?_ 2 _ rfl; (with_reducible repeat (first | refine blk_drewN ?_ _ | refine blk_drew ?_ | refine blk_alloc ?_ _)); refine blk_put (cs := #[.int .i64 ((rd_T40 x367002_2 x92_4).f0), .int .i64 0, .int .i64 0, .int .i64 0, .int .i64 0, .int .i64 0, .int .i64 0]) ?_ 1 _ rfl; (with_reducible repeat (first | refine blk_drewN ?_ _ | refine blk_drew ?_ | refine blk_alloc ?_ _)); refine blk_put (cs := #[.int .i64 0, .int .i64 0, .int .i64 0, .int .i64 0, .int .i64 0, .int .i64 0, .int .i64 0]) ?_ 0 _ rfl; (with_reducible repeat (first | refine blk_drewN ?_ _ | refine blk_drew ?_ | refine blk_alloc ?_ _)); exact BK378.out) hb); have n7_ := Aside0.mk (below_step (by repeat (first | (with_reducible first | exact HB.out | apply below_alloc | apply pw_below_drewN | apply below_drew1 | refine below_set ?_ GE366.out | refine below_set ?_ GE368.out | refine below_set ?_ GE375.out | refine below_set ?_ GE378.out) | exact HB.out)) hb); have n8_ := Aside0.mk (hbox); have n9_ := Aside0.mk ((by rw [hg]; exact (below_size (by repeat (first | (with_reducible first | exact HB.out | apply below_alloc | apply pw_below_drewN | apply below_drew1 | refine below_set ?_ GE366.out | refine below_set ?_ GE368.out | refine below_set ?_ GE375.out | refine below_set ?_ GE378.out) | exact HB.out))) : w.heap.size ≤ gb380)); have n10_ := Aside0.mk ((by rw [hg]; exact (below_size (by repeat (first | (with_reducible first | exact HB.out | apply below_alloc | apply pw_below_drewN | apply below_drew1 | refine below_set ?_ GE366.out | refine below_set ?_ GE368.out | refine below_set ?_ GE375.out | refine below_set ?_ GE378.out) | exact HB.out))) : w.heap.size ≤ gb380)); have n11_ := Aside0.mk ((by rw [hg]; exact Nat.ne_of_lt (blk_lt (g := gb366) (o := .cells #[.int .i64 x367000_2, .bool x367001_2, .slice (some ad377) x367002_2.length co22] 24 (0, 0)) (by (with_reducible repeat (first | refine blk_drewN ?_ _ | refine blk_drew ?_ | refine blk_alloc ?_ _)); refine blk_far ?_ NB366_378.out _; (with_reducible repeat (first | refine blk_drewN ?_ _ | refine blk_drew ?_ | refine blk_alloc ?_ _)); refine blk_far ?_ NB366_378.out _; (with_reducible repeat (first | refine blk_drewN ?_ _ | refine blk_drew ?_ | refine blk_alloc ?_ _)); refine blk_far ?_ NB366_378.out _; (with_reducible repeat (first | refine blk_drewN ?_ _ | refine blk_drew ?_ | refine blk_alloc ?_ _)); refine blk_far ?_ NB366_378.out _; (with_reducible repeat (first | refine blk_drewN ?_ _ | refine blk_drew ?_ | refine blk_alloc ?_ _)); refine blk_far ?_ NB366_378.out _; (with_reducible repeat (first | refine blk_drewN ?_ _ | refine blk_drew ?_ | refine blk_alloc ?_ _)); refine blk_far ?_ NB366_378.out _; (with_reducible repeat (first | refine blk_drewN ?_ _ | refine blk_drew ?_ | refine blk_alloc ?_ _)); refine blk_far ?_ NB366_378.out _; (with_reducible repeat (first | refine blk_drewN ?_ _ | refine blk_drew ?_ | refine blk_alloc ?_ _)); exact BK366.out)) : gb366 ≠ gb380)); have n12_ := Aside0.mk ((by rw [hg]; exact Nat.ne_of_gt (blk_lt (g := gb366) (o := .cells #[.int .i64 x367000_2, .bool x367001_2, .slice (some ad377) x367002_2.length co22] 24 (0, 0)) (by (with_reducible repeat (first | refine blk_drewN ?_ _ | refine blk_drew ?_ | refine blk_alloc ?_ _)); refine blk_far ?_ NB366_378.out _; (with_reducible repeat (first | refine blk_drewN ?_ _ | refine blk_drew ?_ | refine blk_alloc ?_ _)); refine blk_far ?_ NB366_378.out _; (with_reducible repeat (first | refine blk_drewN ?_ _ | refine blk_drew ?_ | refine blk_alloc ?_ _)); refine blk_far ?_ NB366_378.out _; (with_reducible repeat (first | refine blk_drewN ?_ _ | refine blk_drew ?_ | refine blk_alloc ?_ _)); refine blk_far ?_ NB366_378.out _; (with_reducible repeat (first | refine blk_drewN ?_ _ | refine blk_drew ?_ | refine blk_alloc ?_ _)); refine blk_far ?_ NB366_378.out _; (with_reducible repeat (first | refine blk_drewN ?_ _ | refine blk_drew ?_ | refine blk_alloc ?_ _)); refine blk_far ?_ NB366_378.out _; (with_reducible repeat (first | refine blk_drewN ?_ _ | refine blk_drew ?_ | refine blk_alloc ?_ _)); refine blk_far ?_ NB366_378.out _; (with_reducible repeat (first | refine blk_drewN ?_ _ | refine blk_drew ?_ | refine blk_alloc ?_ _)); exact BK366.out)) : gb380 ≠ gb366)); have n13_ := Aside0.mk ((by rw [hg]; exact Nat.ne_of_lt (blk_lt (g := gb368) (o := .cells #[.int .i64 ((rd_T26 l1 x31_2).f0), .int .i64 ((rd_T26 l1 x31_2).f1), .int .i64 ((rd_T26 l1 x31_2).f2), .bool ((rd_T26 l1 x31_2).f3)] 26 (0, 0)) (by (with_reducible repeat (first | refine blk_drewN ?_ _ | refine blk_drew ?_ | refine blk_alloc ?_ _)); refine blk_far ?_ NB368_378.out _; (with_reducible repeat (first | refine blk_drewN ?_ _ | refine blk_drew ?_ | refine blk_alloc ?_ _)); refine blk_far ?_ NB368_378.out _; (with_reducible repeat (first | refine blk_drewN ?_ _ | refine blk_drew ?_ | refine blk_alloc ?_ _)); refine blk_far ?_ NB368_378.out _; (with_reducible repeat (first | refine blk_drewN ?_ _ | refine blk_drew ?_ | refine blk_alloc ?_ _)); refine blk_far ?_ NB368_378.out _; (with_reducible repeat (first | refine blk_drewN ?_ _ | refine blk_drew ?_ | refine blk_alloc ?_ _)); refine blk_far ?_ NB368_378.out _; (with_reducible repeat (first | refine blk_drewN ?_ _ | refine blk_drew ?_ | refine blk_alloc ?_ _)); refine blk_far ?_ NB368_378.out _; (with_reducible repeat (first | refine blk_drewN ?_ _ | refine blk_drew ?_ | refine blk_alloc ?_ _)); refine blk_far ?_ NB368_378.out _; (with_reducible repeat (first | refine blk_drewN ?_ _ | refine blk_drew ?_ | refine blk_alloc ?_ _)); exact BK368.out)) : gb368 ≠ gb380)); have n14_ := Aside0.mk ((by rw [hg]; exact Nat.ne_of_gt (blk_lt (g := gb368) (o := .cells #[.int .i64 ((rd_T26 l1 x31_2).f0), .int .i64 ((rd_T26 l1 x31_2).f1), .int .i64 ((rd_T26 l1 x31_2).f2), .bool ((rd_T26 l1 x31_2).f3)] 26 (0, 0)) (by (with_reducible repeat (first | refine blk_drewN ?_ _ | refine blk_drew ?_ | refine blk_alloc ?_ _)); refine blk_far ?_ NB368_378.out _; (with_reducible repeat (first | refine blk_drewN ?_ _ | refine blk_drew ?_ | refine blk_alloc ?_ _)); refine blk_far ?_ NB368_378.out _; (with_reducible repeat (first | refine blk_drewN ?_ _ | refine blk_drew ?_ | refine blk_alloc ?_ _)); refine blk_far ?_ NB368_378.out _; (with_reducible repeat (first | refine blk_drewN ?_ _ | refine blk_drew ?_ | refine blk_alloc ?_ _)); refine blk_far ?_ NB368_378.out _; (with_reducible repeat (first | refine blk_drewN ?_ _ | refine blk_drew ?_ | refine blk_alloc ?_ _)); refine blk_far ?_ NB368_378.out _; (with_reducible repeat (first | refine blk_drewN ?_ _ | refine blk_drew ?_ | refine blk_alloc ?_ _)); refine blk_far ?_ NB368_378.out _; (with_reducible repeat (first | refine blk_drewN ?_ _ | refine blk_drew ?_ | refine blk_alloc ?_ _)); refine blk_far ?_ NB368_378.out _; (with_reducible repeat (first | refine blk_drewN ?_ _ | refine blk_drew ?_ | refine blk_alloc ?_ _)); exact BK368.out)) : gb380 ≠ gb368)); have n15_ := Aside0.mk ((by rw [hg]; exact Nat.ne_of_lt (blk_lt (g := gb375) (o := .cells #[.int .i64 t369, .bool t370, .slice (some ad379) t371.length co28] 24 (0, 0)) (by (with_reducible repeat (first | refine blk_drewN ?_ _ | refine blk_drew ?_ | refine blk_alloc ?_ _)); refine blk_far ?_ NB375_378.out _; (with_reducible repeat (first | refine blk_drewN ?_ _ | refine blk_drew ?_ | refine blk_alloc ?_ _)); refine blk_far ?_ NB375_378.out _; (with_reducible repeat (first | refine blk_drewN ?_ _ | refine blk_drew ?_ | refine blk_alloc ?_ _)); refine blk_far ?_ NB375_378.out _; (with_reducible repeat (first | refine blk_drewN ?_ _ | refine blk_drew ?_ | refine blk_alloc ?_ _)); refine blk_far ?_ NB375_378.out _; (with_reducible repeat (first | refine blk_drewN ?_ _ | refine blk_drew ?_ | refine blk_alloc ?_ _)); refine blk_far ?_ NB375_378.out _; (with_reducible repeat (first | refine blk_drewN ?_ _ | refine blk_drew ?_ | refine blk_alloc ?_ _)); refine blk_far ?_ NB375_378.out _; (with_reducible repeat (first | refine blk_drewN ?_ _ | refine blk_drew ?_ | refine blk_alloc ?_ _)); refine blk_far ?_ NB375_378.out _; (with_reducible repeat (first | refine blk_drewN ?_ _ | refine blk_drew ?_ | refine blk_alloc ?_ _)); exact BK375.out)) : gb375 ≠ gb380)); have n16_ := Aside0.mk ((by rw [hg]; exact Nat.ne_of_gt (blk_lt (g := gb375) (o := .cells #[.int .i64 t369, .bool t370, .slice (some ad379) t371.length co28] 24 (0, 0)) (by (with_reducible repeat (first | refine blk_drewN ?_ _ | refine blk_drew ?_ | refine blk_alloc ?_ _)); refine blk_far ?_ NB375_378.out _; (with_reducible repeat (first | refine blk_drewN ?_ _ | refine blk_drew ?_ | refine blk_alloc ?_ _)); refine blk_far ?_ NB375_378.out _; (with_reducible repeat (first | refine blk_drewN ?_ _ | refine blk_drew ?_ | refine blk_alloc ?_ _)); refine blk_far ?_ NB375_378.out _; (with_reducible repeat (first | refine blk_drewN ?_ _ | refine blk_drew ?_ | refine blk_alloc ?_ _)); refine blk_far ?_ NB375_378.out _; (with_reducible repeat (first | refine blk_drewN ?_ _ | refine blk_drew ?_ | refine blk_alloc ?_ _)); refine blk_far ?_ NB375_378.out _; (with_reducible repeat (first | refine blk_drewN ?_ _ | refine blk_drew ?_ | refine blk_alloc ?_ _)); refine blk_far ?_ NB375_378.out _; (with_reducible repeat (first | refine blk_drewN ?_ _ | refine blk_drew ?_ | refine blk_alloc ?_ _)); refine blk_far ?_ NB375_378.out _; (with_reducible repeat (first | refine blk_drewN ?_ _ | refine blk_drew ?_ | refine blk_alloc ?_ _)); exact BK375.out)) : gb380 ≠ gb375)); have n17_ := Aside0.mk ((by rw [hg]; exact Nat.ne_of_lt (blk_lt (g := gb378) (o := .cells #[.int .i64 ((rd_T40 x367002_2 x92_4).f0), .int .i64 ((rd_T40 x367002_2 x92_4).f1), .int .i64 ((rd_T40 x367002_2 x92_4).f2), .int .i64 ((rd_T40 x367002_2 x92_4).f3), .int .i64 ((rd_T40 x367002_2 x92_4).f4), .int .i64 ((rd_T40 x367002_2 x92_4).f5), .int .i64 ((rd_T40 x367002_2 x92_4).f6)] 40 (0, 0)) (by (with_reducible repeat (first | refine blk_drewN ?_ _ | refine blk_drew ?_ | refine blk_alloc ?_ _)); refine blk_put (cs := #[.int .i64 ((rd_T40 x367002_2 x92_4).f0), .int .i64 ((rd_T40 x367002_2 x92_4).f1), .int .i64 ((rd_T40 x367002_2 x92_4).f2), .int .i64 ((rd_T40 x367002_2 x92_4).f3), .int .i64 ((rd_T40 x367002_2 x92_4).f4), .int .i64 ((rd_T40 x367002_2 x92_4).f5), .int .i64 0]) ?_ 6 _ rfl; (with_reducible repeat (first | refine blk_drewN ?_ _ | refine blk_drew ?_ | refine blk_alloc ?_ _)); refine blk_put (cs := #[.int .i64 ((rd_T40 x367002_2 x92_4).f0), .int .i64 ((rd_T40 x367002_2 x92_4).f1), .int .i64 ((rd_T40 x367002_2 x92_4).f2), .int .i64 ((rd_T40 x367002_2 x92_4).f3), .int .i64 ((rd_T40 x367002_2 x92_4).f4), .int .i64 0, .int .i64 0]) ?_ 5 _ rfl; (with_reducible repeat (first | refine blk_drewN ?_ _ | refine blk_drew ?_ | refine blk_alloc ?_ _)); refine blk_put (cs := #[.int .i64 ((rd_T40 x367002_2 x92_4).f0), .int .i64 ((rd_T40 x367002_2 x92_4).f1), .int .i64 ((rd_T40 x367002_2 x92_4).f2), .int .i64 ((rd_T40 x367002_2 x92_4).f3), .int .i64 0, .int .i64 0, .int .i64 0]) ?_ 4 _ rfl; (with_reducible repeat (first | refine blk_drewN ?_ _ | refine blk_drew ?_ | refine blk_alloc ?_ _)); refine blk_put (cs := #[.int .i64 ((rd_T40 x367002_2 x92_4).f0), .int .i64 ((rd_T40 x367002_2 x92_4).f1), .int .i64 ((rd_T40 x367002_2 x92_4).f2), .int .i64 0, .int .i64 0, .int .i64 0, .int .i64 0]) ?_ 3 _ rfl; (with_reducible repeat (first | refine blk_drewN ?_ _ | refine blk_drew ?_ | refine blk_alloc ?_ _)); refine blk_put (cs := #[.int .i64 ((rd_T40 x367002_2 x92_4).f0), .int .i64 ((rd_T40 x367002_2 x92_4).f1), .int .i64 0, .int .i64 0, .int .i64 0, .int .i64 0, .int .i64 0]) ?_ 2 _ rfl; (with_reducible repeat (first | refine blk_drewN ?_ _ | refine blk_drew ?_ | refine blk_alloc ?_ _)); refine blk_put (cs := #[.int .i64 ((rd_T40 x367002_2 x92_4).f0), .int .i64 0, .int .i64 0, .int .i64 0, .int .i64 0, .int .i64 0, .int .i64 0]) ?_ 1 _ rfl; (with_reducible repeat (first | refine blk_drewN ?_ _ | refine blk_drew ?_ | refine blk_alloc ?_ _)); refine blk_put (cs := #[.int .i64 0, .int .i64 0, .int .i64 0, .int .i64 0, .int .i64 0, .int .i64 0, .int .i64 0]) ?_ 0 _ rfl; (with_reducible repeat (first | refine blk_drewN ?_ _ | refine blk_drew ?_ | refine blk_alloc ?_ _)); exact BK378.out)) : gb378 ≠ gb380)); have n18_ := Aside0.mk ((by rw [hg]; exact Nat.ne_of_gt (blk_lt (g := gb378) (o := .cells #[.int .i64 ((rd_T40 x367002_2 x92_4).f0), .int .i64 ((rd_T40 x367002_2 x92_4).f1), .int .i64 ((rd_T40 x367002_2 x92_4).f2), .int .i64 ((rd_T40 x367002_2 x92_4).f3), .int .i64 ((rd_T40 x367002_2 x92_4).f4), .int .i64 ((rd_T40 x367002_2 x92_4).f5), .int .i64 ((rd_T40 x367002_2 x92_4).f6)] 40 (0, 0)) (by (with_reducible repeat (first | refine blk_drewN ?_ _ | refine blk_drew ?_ | refine blk_alloc ?_ _)); refine blk_put (cs := #[.int .i64 ((rd_T40 x367002_2 x92_4).f0), .int .i64 ((rd_T40 x367002_2 x92_4).f1), .int .i64 ((rd_T40 x367002_2 x92_4).f2), .int .i64 ((rd_T40 x367002_2 x92_4).f3), .int .i64 ((rd_T40 x367002_2 x92_4).f4), .int .i64 ((rd_T40 x367002_2 x92_4).f5), .int .i64 0]) ?_ 6 _ rfl; (with_reducible repeat (first | refine blk_drewN ?_ _ | refine blk_drew ?_ | refine blk_alloc ?_ _)); refine blk_put (cs := #[.int .i64 ((rd_T40 x367002_2 x92_4).f0), .int .i64 ((rd_T40 x367002_2 x92_4).f1), .int .i64 ((rd_T40 x367002_2 x92_4).f2), .int .i64 ((rd_T40 x367002_2 x92_4).f3), .int .i64 ((rd_T40 x367002_2 x92_4).f4), .int .i64 0, .int .i64 0]) ?_ 5 _ rfl; (with_reducible repeat (first | refine blk_drewN ?_ _ | refine blk_drew ?_ | refine blk_alloc ?_ _)); refine blk_put (cs := #[.int .i64 ((rd_T40 x367002_2 x92_4).f0), .int .i64 ((rd_T40 x367002_2 x92_4).f1), .int .i64 ((rd_T40 x367002_2 x92_4).f2), .int .i64 ((rd_T40 x367002_2 x92_4).f3), .int .i64 0, .int .i64 0, .int .i64 0]) ?_ 4 _ rfl; (with_reducible repeat (first | refine blk_drewN ?_ _ | refine blk_drew ?_ | refine blk_alloc ?_ _)); refine blk_put (cs := #[.int .i64 ((rd_T40 x367002_2 x92_4).f0), .int .i64 ((rd_T40 x367002_2 x92_4).f1), .int .i64 ((rd_T40 x367002_2 x92_4).f2), .int .i64 0, .int .i64 0, .int .i64 0, .int .i64 0]) ?_ 3 _ rfl; (with_reducible repeat (first | refine blk_drewN ?_ _ | refine blk_drew ?_ | refine blk_alloc ?_ _)); refine blk_put (cs := #[.int .i64 ((rd_T40 x367002_2 x92_4).f0), .int .i64 ((rd_T40 x367002_2 x92_4).f1), .int .i64 0, .int .i64 0, .int .i64 0, .int .i64 0, .int .i64 0]) ?_ 2 _ rfl; (with_reducible repeat (first | refine blk_drewN ?_ _ | refine blk_drew ?_ | refine blk_alloc ?_ _)); refine blk_put (cs := #[.int .i64 ((rd_T40 x367002_2 x92_4).f0), .int .i64 0, .int .i64 0, .int .i64 0, .int .i64 0, .int .i64 0, .int .i64 0]) ?_ 1 _ rfl; (with_reducible repeat (first | refine blk_drewN ?_ _ | refine blk_drew ?_ | refine blk_alloc ?_ _)); refine blk_put (cs := #[.int .i64 0, .int .i64 0, .int .i64 0, .int .i64 0, .int .i64 0, .int .i64 0, .int .i64 0]) ?_ 0 _ rfl; (with_reducible repeat (first | refine blk_drewN ?_ _ | refine blk_drew ?_ | refine blk_alloc ?_ _)); exact BK378.out)) : gb380 ≠ gb378)); clear HO_90; clear HO_367002; clear HO_376002; clear BK366; clear BK368; clear BK375; clear BK378; clear HB; have HO_90 := n0_; have HO_367002 := n1_; have HO_376002 := n2_; have BK366 := n3_; have BK368 := n4_; have BK375 := n5_; have BK378 := n6_; have HB := n7_; have BK380 := n8_; have GW380 := n9_; have GE380 := n10_; have NB366_380 := n11_; have NB380_366 := n12_; have NB368_380 := n13_; have NB380_368 := n14_; have NB375_380 := n15_; have NB380_375 := n16_; have NB378_380 := n17_; have NB380_378 := n18_; clear n0_ n1_ n2_ n3_ n4_ n5_ n6_ n7_ n8_ n9_ n10_ n11_ n12_ n13_ n14_ n15_ n16_ n17_ n18_; clear hb hbox hg; have hnb90 := NB380_366.out; have hnc90 := NB366_380.out; have hnb91 := NB380_368.out; have hnc91 := NB368_380.out; have hnb92 := NB380_375.out; have hnc92 := NB375_380.out; have hnb93 := NB380_378.out; have hnc93 := NB378_380.out; obtain ⟨hcz94_0, hcz94_1, hcz94_2, hcz94_3, hcz94_4, hcz94_5, hcz94_6⟩ := cel7 BK380.out; obtain ⟨hfz94_0, hfz94_1, hfz94_2, hfz94_3, hfz94_4, hfz94_5, hfz94_6⟩ := frz7 BK380.out; obtain ⟨hcz95_0, hcz95_1, hcz95_2, hcz95_3, hcz95_4, hcz95_5, hcz95_6⟩ := cel7 BK378.out; obtain ⟨hfz95_0, hfz95_1, hfz95_2, hfz95_3, hfz95_4, hfz95_5, hfz95_6⟩ := frz7 BK378.out))
                                           have q0_ := (Kd.R_far (p := ⟨gb380, 6, none⟩) (Kd.R_far (p := ⟨gb380, 5, none⟩) (Kd.R_far (p := ⟨gb380, 4, none⟩) (Kd.R_far (p := ⟨gb380, 3, none⟩) (Kd.R_far (p := ⟨gb380, 2, none⟩) (Kd.R_far (p := ⟨gb380, 1, none⟩) (Kd.R_far (p := ⟨gb380, 0, none⟩) (Kd.R_mono HO_90.out (fun k_ hk => (⟨hk, hk.2⟩ : _ ∧ k_ ≠ gb380))) (fun _ hk => hk.2) (.int .i64 ((rd_T40 t371 x92_4).f0))) (fun _ hk => hk.2) (.int .i64 ((rd_T40 t371 x92_4).f1))) (fun _ hk => hk.2) (.int .i64 ((rd_T40 t371 x92_4).f2))) (fun _ hk => hk.2) (.int .i64 ((rd_T40 t371 x92_4).f3))) (fun _ hk => hk.2) (.int .i64 ((rd_T40 t371 x92_4).f4))) (fun _ hk => hk.2) (.int .i64 ((rd_T40 t371 x92_4).f5))) (fun _ hk => hk.2) (.int .i64 ((rd_T40 t371 x92_4).f6)))
                                           have q1_ := (Kd.R_far (p := ⟨gb380, 6, none⟩) (Kd.R_far (p := ⟨gb380, 5, none⟩) (Kd.R_far (p := ⟨gb380, 4, none⟩) (Kd.R_far (p := ⟨gb380, 3, none⟩) (Kd.R_far (p := ⟨gb380, 2, none⟩) (Kd.R_far (p := ⟨gb380, 1, none⟩) (Kd.R_far (p := ⟨gb380, 0, none⟩) (Kd.R_mono HO_367002.out (fun k_ hk => (⟨hk, hk.2⟩ : _ ∧ k_ ≠ gb380))) (fun _ hk => hk.2) (.int .i64 ((rd_T40 t371 x92_4).f0))) (fun _ hk => hk.2) (.int .i64 ((rd_T40 t371 x92_4).f1))) (fun _ hk => hk.2) (.int .i64 ((rd_T40 t371 x92_4).f2))) (fun _ hk => hk.2) (.int .i64 ((rd_T40 t371 x92_4).f3))) (fun _ hk => hk.2) (.int .i64 ((rd_T40 t371 x92_4).f4))) (fun _ hk => hk.2) (.int .i64 ((rd_T40 t371 x92_4).f5))) (fun _ hk => hk.2) (.int .i64 ((rd_T40 t371 x92_4).f6)))
                                           have q2_ := (Kd.R_far (p := ⟨gb380, 6, none⟩) (Kd.R_far (p := ⟨gb380, 5, none⟩) (Kd.R_far (p := ⟨gb380, 4, none⟩) (Kd.R_far (p := ⟨gb380, 3, none⟩) (Kd.R_far (p := ⟨gb380, 2, none⟩) (Kd.R_far (p := ⟨gb380, 1, none⟩) (Kd.R_far (p := ⟨gb380, 0, none⟩) (Kd.R_mono HO_376002.out (fun k_ hk => (⟨hk, hk.2⟩ : _ ∧ k_ ≠ gb380))) (fun _ hk => hk.2) (.int .i64 ((rd_T40 t371 x92_4).f0))) (fun _ hk => hk.2) (.int .i64 ((rd_T40 t371 x92_4).f1))) (fun _ hk => hk.2) (.int .i64 ((rd_T40 t371 x92_4).f2))) (fun _ hk => hk.2) (.int .i64 ((rd_T40 t371 x92_4).f3))) (fun _ hk => hk.2) (.int .i64 ((rd_T40 t371 x92_4).f4))) (fun _ hk => hk.2) (.int .i64 ((rd_T40 t371 x92_4).f5))) (fun _ hk => hk.2) (.int .i64 ((rd_T40 t371 x92_4).f6)))
                                           have bgb366_ : (((((((w89.setCell ⟨gb380, 0, none⟩ (.int .i64 ((rd_T40 t371 x92_4).f0))).setCell ⟨gb380, 1, none⟩ (.int .i64 ((rd_T40 t371 x92_4).f1))).setCell ⟨gb380, 2, none⟩ (.int .i64 ((rd_T40 t371 x92_4).f2))).setCell ⟨gb380, 3, none⟩ (.int .i64 ((rd_T40 t371 x92_4).f3))).setCell ⟨gb380, 4, none⟩ (.int .i64 ((rd_T40 t371 x92_4).f4))).setCell ⟨gb380, 5, none⟩ (.int .i64 ((rd_T40 t371 x92_4).f5))).setCell ⟨gb380, 6, none⟩ (.int .i64 ((rd_T40 t371 x92_4).f6))).heap[gb366]? = some (.cells #[.int .i64 x367000_2, .bool x367001_2, .slice (some ad377) x367002_2.length co22] 24 (0, 0)) := by (with_reducible repeat (first | refine blk_drewN ?_ _ | refine blk_drew ?_ | refine blk_alloc ?_ _)); refine blk_far ?_ NB366_380.out _; (with_reducible repeat (first | refine blk_drewN ?_ _ | refine blk_drew ?_ | refine blk_alloc ?_ _)); refine blk_far ?_ NB366_380.out _; (with_reducible repeat (first | refine blk_drewN ?_ _ | refine blk_drew ?_ | refine blk_alloc ?_ _)); refine blk_far ?_ NB366_380.out _; (with_reducible repeat (first | refine blk_drewN ?_ _ | refine blk_drew ?_ | refine blk_alloc ?_ _)); refine blk_far ?_ NB366_380.out _; (with_reducible repeat (first | refine blk_drewN ?_ _ | refine blk_drew ?_ | refine blk_alloc ?_ _)); refine blk_far ?_ NB366_380.out _; (with_reducible repeat (first | refine blk_drewN ?_ _ | refine blk_drew ?_ | refine blk_alloc ?_ _)); refine blk_far ?_ NB366_380.out _; (with_reducible repeat (first | refine blk_drewN ?_ _ | refine blk_drew ?_ | refine blk_alloc ?_ _)); refine blk_far ?_ NB366_380.out _; (with_reducible repeat (first | refine blk_drewN ?_ _ | refine blk_drew ?_ | refine blk_alloc ?_ _)); exact BK366.out
                                           have bgb368_ : (((((((w89.setCell ⟨gb380, 0, none⟩ (.int .i64 ((rd_T40 t371 x92_4).f0))).setCell ⟨gb380, 1, none⟩ (.int .i64 ((rd_T40 t371 x92_4).f1))).setCell ⟨gb380, 2, none⟩ (.int .i64 ((rd_T40 t371 x92_4).f2))).setCell ⟨gb380, 3, none⟩ (.int .i64 ((rd_T40 t371 x92_4).f3))).setCell ⟨gb380, 4, none⟩ (.int .i64 ((rd_T40 t371 x92_4).f4))).setCell ⟨gb380, 5, none⟩ (.int .i64 ((rd_T40 t371 x92_4).f5))).setCell ⟨gb380, 6, none⟩ (.int .i64 ((rd_T40 t371 x92_4).f6))).heap[gb368]? = some (.cells #[.int .i64 ((rd_T26 l1 x31_2).f0), .int .i64 ((rd_T26 l1 x31_2).f1), .int .i64 ((rd_T26 l1 x31_2).f2), .bool ((rd_T26 l1 x31_2).f3)] 26 (0, 0)) := by (with_reducible repeat (first | refine blk_drewN ?_ _ | refine blk_drew ?_ | refine blk_alloc ?_ _)); refine blk_far ?_ NB368_380.out _; (with_reducible repeat (first | refine blk_drewN ?_ _ | refine blk_drew ?_ | refine blk_alloc ?_ _)); refine blk_far ?_ NB368_380.out _; (with_reducible repeat (first | refine blk_drewN ?_ _ | refine blk_drew ?_ | refine blk_alloc ?_ _)); refine blk_far ?_ NB368_380.out _; (with_reducible repeat (first | refine blk_drewN ?_ _ | refine blk_drew ?_ | refine blk_alloc ?_ _)); refine blk_far ?_ NB368_380.out _; (with_reducible repeat (first | refine blk_drewN ?_ _ | refine blk_drew ?_ | refine blk_alloc ?_ _)); refine blk_far ?_ NB368_380.out _; (with_reducible repeat (first | refine blk_drewN ?_ _ | refine blk_drew ?_ | refine blk_alloc ?_ _)); refine blk_far ?_ NB368_380.out _; (with_reducible repeat (first | refine blk_drewN ?_ _ | refine blk_drew ?_ | refine blk_alloc ?_ _)); refine blk_far ?_ NB368_380.out _; (with_reducible repeat (first | refine blk_drewN ?_ _ | refine blk_drew ?_ | refine blk_alloc ?_ _)); exact BK368.out
                                           have bgb375_ : (((((((w89.setCell ⟨gb380, 0, none⟩ (.int .i64 ((rd_T40 t371 x92_4).f0))).setCell ⟨gb380, 1, none⟩ (.int .i64 ((rd_T40 t371 x92_4).f1))).setCell ⟨gb380, 2, none⟩ (.int .i64 ((rd_T40 t371 x92_4).f2))).setCell ⟨gb380, 3, none⟩ (.int .i64 ((rd_T40 t371 x92_4).f3))).setCell ⟨gb380, 4, none⟩ (.int .i64 ((rd_T40 t371 x92_4).f4))).setCell ⟨gb380, 5, none⟩ (.int .i64 ((rd_T40 t371 x92_4).f5))).setCell ⟨gb380, 6, none⟩ (.int .i64 ((rd_T40 t371 x92_4).f6))).heap[gb375]? = some (.cells #[.int .i64 t369, .bool t370, .slice (some ad379) t371.length co28] 24 (0, 0)) := by (with_reducible repeat (first | refine blk_drewN ?_ _ | refine blk_drew ?_ | refine blk_alloc ?_ _)); refine blk_far ?_ NB375_380.out _; (with_reducible repeat (first | refine blk_drewN ?_ _ | refine blk_drew ?_ | refine blk_alloc ?_ _)); refine blk_far ?_ NB375_380.out _; (with_reducible repeat (first | refine blk_drewN ?_ _ | refine blk_drew ?_ | refine blk_alloc ?_ _)); refine blk_far ?_ NB375_380.out _; (with_reducible repeat (first | refine blk_drewN ?_ _ | refine blk_drew ?_ | refine blk_alloc ?_ _)); refine blk_far ?_ NB375_380.out _; (with_reducible repeat (first | refine blk_drewN ?_ _ | refine blk_drew ?_ | refine blk_alloc ?_ _)); refine blk_far ?_ NB375_380.out _; (with_reducible repeat (first | refine blk_drewN ?_ _ | refine blk_drew ?_ | refine blk_alloc ?_ _)); refine blk_far ?_ NB375_380.out _; (with_reducible repeat (first | refine blk_drewN ?_ _ | refine blk_drew ?_ | refine blk_alloc ?_ _)); refine blk_far ?_ NB375_380.out _; (with_reducible repeat (first | refine blk_drewN ?_ _ | refine blk_drew ?_ | refine blk_alloc ?_ _)); exact BK375.out
                                           have bgb378_ : (((((((w89.setCell ⟨gb380, 0, none⟩ (.int .i64 ((rd_T40 t371 x92_4).f0))).setCell ⟨gb380, 1, none⟩ (.int .i64 ((rd_T40 t371 x92_4).f1))).setCell ⟨gb380, 2, none⟩ (.int .i64 ((rd_T40 t371 x92_4).f2))).setCell ⟨gb380, 3, none⟩ (.int .i64 ((rd_T40 t371 x92_4).f3))).setCell ⟨gb380, 4, none⟩ (.int .i64 ((rd_T40 t371 x92_4).f4))).setCell ⟨gb380, 5, none⟩ (.int .i64 ((rd_T40 t371 x92_4).f5))).setCell ⟨gb380, 6, none⟩ (.int .i64 ((rd_T40 t371 x92_4).f6))).heap[gb378]? = some (.cells #[.int .i64 ((rd_T40 x367002_2 x92_4).f0), .int .i64 ((rd_T40 x367002_2 x92_4).f1), .int .i64 ((rd_T40 x367002_2 x92_4).f2), .int .i64 ((rd_T40 x367002_2 x92_4).f3), .int .i64 ((rd_T40 x367002_2 x92_4).f4), .int .i64 ((rd_T40 x367002_2 x92_4).f5), .int .i64 ((rd_T40 x367002_2 x92_4).f6)] 40 (0, 0)) := by refine blk_far ?_ NB378_380.out _; refine blk_far ?_ NB378_380.out _; refine blk_far ?_ NB378_380.out _; refine blk_far ?_ NB378_380.out _; refine blk_far ?_ NB378_380.out _; refine blk_far ?_ NB378_380.out _; refine blk_far ?_ NB378_380.out _; exact BK378.out
                                           have bgb380_ : (((((((w89.setCell ⟨gb380, 0, none⟩ (.int .i64 ((rd_T40 t371 x92_4).f0))).setCell ⟨gb380, 1, none⟩ (.int .i64 ((rd_T40 t371 x92_4).f1))).setCell ⟨gb380, 2, none⟩ (.int .i64 ((rd_T40 t371 x92_4).f2))).setCell ⟨gb380, 3, none⟩ (.int .i64 ((rd_T40 t371 x92_4).f3))).setCell ⟨gb380, 4, none⟩ (.int .i64 ((rd_T40 t371 x92_4).f4))).setCell ⟨gb380, 5, none⟩ (.int .i64 ((rd_T40 t371 x92_4).f5))).setCell ⟨gb380, 6, none⟩ (.int .i64 ((rd_T40 t371 x92_4).f6))).heap[gb380]? = some (.cells #[.int .i64 ((rd_T40 t371 x92_4).f0), .int .i64 ((rd_T40 t371 x92_4).f1), .int .i64 ((rd_T40 t371 x92_4).f2), .int .i64 ((rd_T40 t371 x92_4).f3), .int .i64 ((rd_T40 t371 x92_4).f4), .int .i64 ((rd_T40 t371 x92_4).f5), .int .i64 ((rd_T40 t371 x92_4).f6)] 40 (0, 0)) := by refine blk_put (cs := #[.int .i64 ((rd_T40 t371 x92_4).f0), .int .i64 ((rd_T40 t371 x92_4).f1), .int .i64 ((rd_T40 t371 x92_4).f2), .int .i64 ((rd_T40 t371 x92_4).f3), .int .i64 ((rd_T40 t371 x92_4).f4), .int .i64 ((rd_T40 t371 x92_4).f5), .int .i64 0]) ?_ 6 _ rfl; refine blk_put (cs := #[.int .i64 ((rd_T40 t371 x92_4).f0), .int .i64 ((rd_T40 t371 x92_4).f1), .int .i64 ((rd_T40 t371 x92_4).f2), .int .i64 ((rd_T40 t371 x92_4).f3), .int .i64 ((rd_T40 t371 x92_4).f4), .int .i64 0, .int .i64 0]) ?_ 5 _ rfl; refine blk_put (cs := #[.int .i64 ((rd_T40 t371 x92_4).f0), .int .i64 ((rd_T40 t371 x92_4).f1), .int .i64 ((rd_T40 t371 x92_4).f2), .int .i64 ((rd_T40 t371 x92_4).f3), .int .i64 0, .int .i64 0, .int .i64 0]) ?_ 4 _ rfl; refine blk_put (cs := #[.int .i64 ((rd_T40 t371 x92_4).f0), .int .i64 ((rd_T40 t371 x92_4).f1), .int .i64 ((rd_T40 t371 x92_4).f2), .int .i64 0, .int .i64 0, .int .i64 0, .int .i64 0]) ?_ 3 _ rfl; refine blk_put (cs := #[.int .i64 ((rd_T40 t371 x92_4).f0), .int .i64 ((rd_T40 t371 x92_4).f1), .int .i64 0, .int .i64 0, .int .i64 0, .int .i64 0, .int .i64 0]) ?_ 2 _ rfl; refine blk_put (cs := #[.int .i64 ((rd_T40 t371 x92_4).f0), .int .i64 0, .int .i64 0, .int .i64 0, .int .i64 0, .int .i64 0, .int .i64 0]) ?_ 1 _ rfl; refine blk_put (cs := #[.int .i64 0, .int .i64 0, .int .i64 0, .int .i64 0, .int .i64 0, .int .i64 0, .int .i64 0]) ?_ 0 _ rfl; exact BK380.out
                                           have hb_ : Below w.heap.size w (((((((w89.setCell ⟨gb380, 0, none⟩ (.int .i64 ((rd_T40 t371 x92_4).f0))).setCell ⟨gb380, 1, none⟩ (.int .i64 ((rd_T40 t371 x92_4).f1))).setCell ⟨gb380, 2, none⟩ (.int .i64 ((rd_T40 t371 x92_4).f2))).setCell ⟨gb380, 3, none⟩ (.int .i64 ((rd_T40 t371 x92_4).f3))).setCell ⟨gb380, 4, none⟩ (.int .i64 ((rd_T40 t371 x92_4).f4))).setCell ⟨gb380, 5, none⟩ (.int .i64 ((rd_T40 t371 x92_4).f5))).setCell ⟨gb380, 6, none⟩ (.int .i64 ((rd_T40 t371 x92_4).f6))) := by repeat (first | (with_reducible first | exact HB.out | apply below_alloc | apply pw_below_drewN | apply below_drew1 | refine below_set ?_ GE366.out | refine below_set ?_ GE368.out | refine below_set ?_ GE375.out | refine below_set ?_ GE378.out | refine below_set ?_ GE380.out) | exact HB.out)
                                           generalize (((((((w89.setCell ⟨gb380, 0, none⟩ (.int .i64 ((rd_T40 t371 x92_4).f0))).setCell ⟨gb380, 1, none⟩ (.int .i64 ((rd_T40 t371 x92_4).f1))).setCell ⟨gb380, 2, none⟩ (.int .i64 ((rd_T40 t371 x92_4).f2))).setCell ⟨gb380, 3, none⟩ (.int .i64 ((rd_T40 t371 x92_4).f3))).setCell ⟨gb380, 4, none⟩ (.int .i64 ((rd_T40 t371 x92_4).f4))).setCell ⟨gb380, 5, none⟩ (.int .i64 ((rd_T40 t371 x92_4).f5))).setCell ⟨gb380, 6, none⟩ (.int .i64 ((rd_T40 t371 x92_4).f6))) = w9_ at q0_ q1_ q2_ bgb366_ bgb368_ bgb375_ bgb378_ bgb380_ hb_ ⊢
                                           have ygb378_0 : w9_.cell? ⟨gb378, 0, none⟩ = some (.int .i64 ((rd_T40 x367002_2 x92_4).f0)) := (blk_cell bgb378_ 0).trans rfl
                                           have ygb378_1 : w9_.cell? ⟨gb378, 1, none⟩ = some (.int .i64 ((rd_T40 x367002_2 x92_4).f1)) := (blk_cell bgb378_ 1).trans rfl
                                           have ygb378_2 : w9_.cell? ⟨gb378, 2, none⟩ = some (.int .i64 ((rd_T40 x367002_2 x92_4).f2)) := (blk_cell bgb378_ 2).trans rfl
                                           have ygb378_3 : w9_.cell? ⟨gb378, 3, none⟩ = some (.int .i64 ((rd_T40 x367002_2 x92_4).f3)) := (blk_cell bgb378_ 3).trans rfl
                                           have ygb378_4 : w9_.cell? ⟨gb378, 4, none⟩ = some (.int .i64 ((rd_T40 x367002_2 x92_4).f4)) := (blk_cell bgb378_ 4).trans rfl
                                           have ygb378_5 : w9_.cell? ⟨gb378, 5, none⟩ = some (.int .i64 ((rd_T40 x367002_2 x92_4).f5)) := (blk_cell bgb378_ 5).trans rfl
                                           have ygb378_6 : w9_.cell? ⟨gb378, 6, none⟩ = some (.int .i64 ((rd_T40 x367002_2 x92_4).f6)) := (blk_cell bgb378_ 6).trans rfl
                                           have ygb380_0 : w9_.cell? ⟨gb380, 0, none⟩ = some (.int .i64 ((rd_T40 t371 x92_4).f0)) := (blk_cell bgb380_ 0).trans rfl
                                           have ygb380_1 : w9_.cell? ⟨gb380, 1, none⟩ = some (.int .i64 ((rd_T40 t371 x92_4).f1)) := (blk_cell bgb380_ 1).trans rfl
                                           have ygb380_2 : w9_.cell? ⟨gb380, 2, none⟩ = some (.int .i64 ((rd_T40 t371 x92_4).f2)) := (blk_cell bgb380_ 2).trans rfl
                                           have ygb380_3 : w9_.cell? ⟨gb380, 3, none⟩ = some (.int .i64 ((rd_T40 t371 x92_4).f3)) := (blk_cell bgb380_ 3).trans rfl
                                           have ygb380_4 : w9_.cell? ⟨gb380, 4, none⟩ = some (.int .i64 ((rd_T40 t371 x92_4).f4)) := (blk_cell bgb380_ 4).trans rfl
                                           have ygb380_5 : w9_.cell? ⟨gb380, 5, none⟩ = some (.int .i64 ((rd_T40 t371 x92_4).f5)) := (blk_cell bgb380_ 5).trans rfl
                                           have ygb380_6 : w9_.cell? ⟨gb380, 6, none⟩ = some (.int .i64 ((rd_T40 t371 x92_4).f6)) := (blk_cell bgb380_ 6).trans rfl
                                           go_wp2_with (fail)
                                           go_roundg k4
                                           case measure => have := HJ4.out; have := HK2.out; have := HJ16.out; have := HK4.out; omega
                                           case rel => exact ⟨(wrap64 (x92_4 + 1)), (by first | rfl | (simp; done) | (simp [*]; done)), H', ⟨by have := HJ4.out; have := HK2.out; have := HJ16.out; have := HK4.out; omega⟩, ⟨by (with_reducible repeat (first | apply Kd.R_alloc | apply Kd.R_drewN | apply Kd.R_drew)); exact Kd.R_mono q0_ (fun _ hk => hk.1.1.1)⟩, ⟨by (with_reducible repeat (first | apply Kd.R_alloc | apply Kd.R_drewN | apply Kd.R_drew)); exact Kd.R_mono q1_ (fun _ hk => hk.1.1.1)⟩, ⟨by (with_reducible repeat (first | apply Kd.R_alloc | apply Kd.R_drewN | apply Kd.R_drew)); exact Kd.R_mono q2_ (fun _ hk => ⟨hk.1.1.1.1, hk.1.1.1.2⟩)⟩, ⟨by (with_reducible repeat (first | refine blk_drewN ?_ _ | refine blk_drew ?_ | refine blk_alloc ?_ _)); exact bgb366_⟩, ⟨by (with_reducible repeat (first | refine blk_drewN ?_ _ | refine blk_drew ?_ | refine blk_alloc ?_ _)); exact bgb368_⟩, ⟨by (with_reducible repeat (first | refine blk_drewN ?_ _ | refine blk_drew ?_ | refine blk_alloc ?_ _)); exact bgb375_⟩, ⟨by repeat (first | (with_reducible first | exact hb_ | apply below_alloc | apply pw_below_drewN | apply below_drew1) | exact hb_)⟩⟩
                                       · rw [if_neg c79] at H
                                         exact absurd H (by simp)
                                     · rw [if_neg c78] at H
                                       exact absurd H (by simp)
                               · rw [if_neg c75] at H
                                 have c75b0 : (((rd_T40 x367002_2 x92_4).f5) == 2) = false := beq_eq_false_iff_ne.mpr c75
                                 have c75b1 : (((rd_T40 x367002_2 x92_4).f5) != 2) = true := bne_iff_ne.mpr c75
                                 by_cases c96 : ((rd_T40 t371 x92_4).f4) < ((rd_T40 x367002_2 x92_4).f4)
                                 · rw [if_pos c96] at H
                                   exact absurd H (by simp)
                                 · rw [if_neg c96] at H
                                   have c96b0 : decide (((rd_T40 t371 x92_4).f4) < ((rd_T40 x367002_2 x92_4).f4)) = false := decide_eq_false c96
                                   clear c96
                                   by_cases c97 : ((rd_T40 t371 x92_4).f2) = ((rd_T40 x367002_2 x92_4).f2)
                                   · rw [if_pos c97] at H
                                     have c97b0 : (((rd_T40 t371 x92_4).f2) == ((rd_T40 x367002_2 x92_4).f2)) = true := beq_iff_eq.mpr c97
                                     have c97b1 : (((rd_T40 t371 x92_4).f2) != ((rd_T40 x367002_2 x92_4).f2)) = false := bne_eq_false_iff_eq.mpr c97
                                     clear c97
                                     by_cases c98 : ((rd_T40 t371 x92_4).f1) = ((rd_T40 x367002_2 x92_4).f1)
                                     · rw [if_pos c98] at H
                                       have c98b0 : (((rd_T40 t371 x92_4).f1) == ((rd_T40 x367002_2 x92_4).f1)) = true := beq_iff_eq.mpr c98
                                       have c98b1 : (((rd_T40 t371 x92_4).f1) != ((rd_T40 x367002_2 x92_4).f1)) = false := bne_eq_false_iff_eq.mpr c98
                                       clear c98
                                       by_cases c99 : ((rd_T40 t371 x92_4).f3) > ((rd_T40 x367002_2 x92_4).f3)
                                       · rw [if_pos c99] at H
                                         exact absurd H (by simp)
                                       · rw [if_neg c99] at H
                                         have c99b0 : decide (((rd_T40 x367002_2 x92_4).f3) < ((rd_T40 t371 x92_4).f3)) = false := decide_eq_false c99
                                         clear c99
                                         have H' := Aside0.mk H
                                         clear H
                                         have p377 : 0 ≤ (x92_4 : Int) := of_decide_eq_true (by first | (with_reducible assumption) | assumption)
                                         have q377 : x92_4 < (x367002_2.length : Int) := of_decide_eq_true (by first | (with_reducible assumption) | assumption)
                                         obtain ⟨ad377, e377, hx377_0, hx377_1, hx377_2, hx377_3, hx377_4, hx377_5, hx377_6⟩ := at_T40 (Kd.R_reads' HO_90.out).2.2 x92_4 p377 q377
                                         cases e377
                                         replace p377 := eq_true p377
                                         replace q377 := eq_true q377
                                         go_upto_region 19 with (first | ((with_reducible refine gate_dst (N := 11) rfl ?_); (try (refine gate_guard (by rfl) ?_; dsimp only)); refine box_event ?hg (N := 11) ?hd (cs := #[.int .i64 0, .int .i64 0, .int .i64 0, .int .i64 0, .int .i64 0, .int .i64 0, .int .i64 0]) (t := 40) ?hr ?_; (case hd => rfl); (case hg => rfl); (case hr => first | (go_simp; done) | (go_simp; rfl)); intro gb378 hg w100 hbox hb; have n0_ := Aside0.mk (Kd.R_below (Kd.R_elderB (by (with_reducible repeat (first | apply Kd.R_alloc | apply Kd.R_drewN | apply Kd.R_drew)); exact HO_90.out) gb378 (Nat.le_of_eq hg.symm)) hb); have n1_ := Aside0.mk (Kd.R_below (Kd.R_elderB (by (with_reducible repeat (first | apply Kd.R_alloc | apply Kd.R_drewN | apply Kd.R_drew)); exact HO_367002.out) gb378 (Nat.le_of_eq hg.symm)) hb); have n2_ := Aside0.mk (Kd.R_below (Kd.R_elderB (by (with_reducible repeat (first | apply Kd.R_alloc | apply Kd.R_drewN | apply Kd.R_drew)); exact HO_376002.out) gb378 (Nat.le_of_eq hg.symm)) hb); have n3_ := Aside0.mk (blk_below (g := gb366) (o := .cells #[.int .i64 x367000_2, .bool x367001_2, .slice (some ad377) x367002_2.length co22] 24 (0, 0)) (by (with_reducible repeat (first | refine blk_drewN ?_ _ | refine blk_drew ?_ | refine blk_alloc ?_ _)); exact BK366.out) hb); have n4_ := Aside0.mk (blk_below (g := gb368) (o := .cells #[.int .i64 ((rd_T26 l1 x31_2).f0), .int .i64 ((rd_T26 l1 x31_2).f1), .int .i64 ((rd_T26 l1 x31_2).f2), .bool ((rd_T26 l1 x31_2).f3)] 26 (0, 0)) (by (with_reducible repeat (first | refine blk_drewN ?_ _ | refine blk_drew ?_ | refine blk_alloc ?_ _)); exact BK368.out) hb); have n5_ := Aside0.mk (blk_below (g := gb375) (o := .cells #[.int .i64 t369, .bool t370, .slice Ao28 t371.length co28] 24 (0, 0)) (by (with_reducible repeat (first | refine blk_drewN ?_ _ | refine blk_drew ?_ | refine blk_alloc ?_ _)); exact BK375.out) hb); have n6_ := Aside0.mk (below_step (by repeat (first | (with_reducible first | exact HB.out | apply below_alloc | apply pw_below_drewN | apply below_drew1 | refine below_set ?_ GE366.out | refine below_set ?_ GE368.out | refine below_set ?_ GE375.out) | exact HB.out)) hb); have n7_ := Aside0.mk (hbox); have n8_ := Aside0.mk ((by rw [hg]; exact (below_size (by repeat (first | (with_reducible first | exact HB.out | apply below_alloc | apply pw_below_drewN | apply below_drew1 | refine below_set ?_ GE366.out | refine below_set ?_ GE368.out | refine below_set ?_ GE375.out) | exact HB.out))) : w.heap.size ≤ gb378)); have n9_ := Aside0.mk ((by rw [hg]; exact (below_size (by repeat (first | (with_reducible first | exact HB.out | apply below_alloc | apply pw_below_drewN | apply below_drew1 | refine below_set ?_ GE366.out | refine below_set ?_ GE368.out | refine below_set ?_ GE375.out) | exact HB.out))) : w.heap.size ≤ gb378)); have n10_ := Aside0.mk ((by rw [hg]; exact Nat.ne_of_lt (blk_lt (g := gb366) (o := .cells #[.int .i64 x367000_2, .bool x367001_2, .slice (some ad377) x367002_2.length co22] 24 (0, 0)) (by (with_reducible repeat (first | refine blk_drewN ?_ _ | refine blk_drew ?_ | refine blk_alloc ?_ _)); exact BK366.out)) : gb366 ≠ gb378)); have n11_ := Aside0.mk ((by rw [hg]; exact Nat.ne_of_gt (blk_lt (g := gb366) (o := .cells #[.int .i64 x367000_2, .bool x367001_2, .slice (some ad377) x367002_2.length co22] 24 (0, 0)) (by (with_reducible repeat (first | refine blk_drewN ?_ _ | refine blk_drew ?_ | refine blk_alloc ?_ _)); exact BK366.out)) : gb378 ≠ gb366)); have n12_ := Aside0.mk ((by rw [hg]; exact Nat.ne_of_lt (blk_lt (g := gb368) (o := .cells #[.int .i64 ((rd_T26 l1 x31_2).f0), .int .i64 ((rd_T26 l1 x31_2).f1), .int .i64 ((rd_T26 l1 x31_2).f2), .bool ((rd_T26 l1 x31_2).f3)] 26 (0, 0)) (by (with_reducible repeat (first | refine blk_drewN ?_ _ | refine blk_drew ?_ | refine blk_alloc ?_ _)); exact BK368.out)) : gb368 ≠ gb378)); have n13_ := Aside0.mk ((by rw [hg]; exact Nat.ne_of_gt (blk_lt (g := gb368) (o := .cells #[.int .i64 ((rd_T26 l1 x31_2).f0), .int .i64 ((rd_T26 l1 x31_2).f1), .int .i64 ((rd_T26 l1 x31_2).f2), .bool ((rd_T26 l1 x31_2).f3)] 26 (0, 0)) (by (with_reducible repeat (first | refine blk_drewN ?_ _ | refine blk_drew ?_ | refine blk_alloc ?_ _)); exact BK368.out)) : gb378 ≠ gb368)); have n14_ := Aside0.mk ((by rw [hg]; exact Nat.ne_of_lt (blk_lt (g := gb375) (o := .cells #[.int .i64 t369, .bool t370, .slice Ao28 t371.length co28] 24 (0, 0)) (by (with_reducible repeat (first | refine blk_drewN ?_ _ | refine blk_drew ?_ | refine blk_alloc ?_ _)); exact BK375.out)) : gb375 ≠ gb378)); have n15_ := Aside0.mk ((by rw [hg]; exact Nat.ne_of_gt (blk_lt (g := gb375) (o := .cells #[.int .i64 t369, .bool t370, .slice Ao28 t371.length co28] 24 (0, 0)) (by (with_reducible repeat (first | refine blk_drewN ?_ _ | refine blk_drew ?_ | refine blk_alloc ?_ _)); exact BK375.out)) : gb378 ≠ gb375)); clear HO_90; clear HO_367002; clear HO_376002; clear BK366; clear BK368; clear BK375; clear HB; have HO_90 := n0_; have HO_367002 := n1_; have HO_376002 := n2_; have BK366 := n3_; have BK368 := n4_; have BK375 := n5_; have HB := n6_; have BK378 := n7_; have GW378 := n8_; have GE378 := n9_; have NB366_378 := n10_; have NB378_366 := n11_; have NB368_378 := n12_; have NB378_368 := n13_; have NB375_378 := n14_; have NB378_375 := n15_; clear n0_ n1_ n2_ n3_ n4_ n5_ n6_ n7_ n8_ n9_ n10_ n11_ n12_ n13_ n14_ n15_; clear hb hbox hg; have hnb101 := NB378_366.out; have hnc101 := NB366_378.out; have hnb102 := NB378_368.out; have hnc102 := NB368_378.out; have hnb103 := NB378_375.out; have hnc103 := NB375_378.out; obtain ⟨hcz104_0, hcz104_1, hcz104_2, hcz104_3, hcz104_4, hcz104_5, hcz104_6⟩ := cel7 BK378.out; obtain ⟨hfz104_0, hfz104_1, hfz104_2, hfz104_3, hfz104_4, hfz104_5, hfz104_6⟩ := frz7 BK378.out; have hnb105 := NB375_366.out; have hnc105 := NB366_375.out; have hnb106 := NB375_368.out; have hnc106 := NB368_375.out; obtain ⟨hcz107_0, hcz107_1, hcz107_2⟩ := cel3 BK375.out; obtain ⟨hfz107_0, hfz107_1, hfz107_2⟩ := frz3 BK375.out; have p379 : 0 ≤ (x92_4 : Int) := of_decide_eq_true (by first | (with_reducible assumption) | assumption); have q379 : x92_4 < (t371.length : Int) := of_decide_eq_true (by first | (with_reducible assumption) | assumption); obtain ⟨ad379, e379, hx379_0, hx379_1, hx379_2, hx379_3, hx379_4, hx379_5, hx379_6⟩ := at_T40 (Kd.R_reads' HO_376002.out).2.2 x92_4 p379 q379; cases e379; have hn379_0 : ad379.block ≠ gb378 := Kd.own_blk (by first | exact Kd.R_ne HO_376002.out BK378.out (by decide) | exact fun h => (HO_376002.out.1 _ h).2 rfl | exact fun h => (HO_376002.out.1 _ h.symm).2 rfl | exact fun h => (HO_376002.out.1 _ h).2.2 rfl); have hn379_1 : ad379.block ≠ gb378 := Kd.own_blk (by first | exact Kd.R_ne HO_376002.out BK378.out (by decide) | exact fun h => (HO_376002.out.1 _ h).2 rfl | exact fun h => (HO_376002.out.1 _ h.symm).2 rfl | exact fun h => (HO_376002.out.1 _ h).2.2 rfl); have hn379_2 : ad379.block ≠ gb378 := Kd.own_blk (by first | exact Kd.R_ne HO_376002.out BK378.out (by decide) | exact fun h => (HO_376002.out.1 _ h).2 rfl | exact fun h => (HO_376002.out.1 _ h.symm).2 rfl | exact fun h => (HO_376002.out.1 _ h).2.2 rfl); have hn379_3 : ad379.block ≠ gb378 := Kd.own_blk (by first | exact Kd.R_ne HO_376002.out BK378.out (by decide) | exact fun h => (HO_376002.out.1 _ h).2 rfl | exact fun h => (HO_376002.out.1 _ h.symm).2 rfl | exact fun h => (HO_376002.out.1 _ h).2.2 rfl); have hn379_4 : ad379.block ≠ gb378 := Kd.own_blk (by first | exact Kd.R_ne HO_376002.out BK378.out (by decide) | exact fun h => (HO_376002.out.1 _ h).2 rfl | exact fun h => (HO_376002.out.1 _ h.symm).2 rfl | exact fun h => (HO_376002.out.1 _ h).2.2 rfl); have hn379_5 : ad379.block ≠ gb378 := Kd.own_blk (by first | exact Kd.R_ne HO_376002.out BK378.out (by decide) | exact fun h => (HO_376002.out.1 _ h).2 rfl | exact fun h => (HO_376002.out.1 _ h.symm).2 rfl | exact fun h => (HO_376002.out.1 _ h).2.2 rfl); have hn379_6 : ad379.block ≠ gb378 := Kd.own_blk (by first | exact Kd.R_ne HO_376002.out BK378.out (by decide) | exact fun h => (HO_376002.out.1 _ h).2 rfl | exact fun h => (HO_376002.out.1 _ h.symm).2 rfl | exact fun h => (HO_376002.out.1 _ h).2.2 rfl); replace hx379_0 := (cell_far (p := ⟨gb378, 0, none⟩) (by first | (rw [add_block]; exact hn379_0) | (show (Addr.add _ _).block ≠ _; rw [add_block]; exact hn379_0) | exact hn379_0) (.int .i64 ((rd_T40 x367002_2 x92_4).f0))).trans hx379_0; replace hx379_1 := (cell_far (p := ⟨gb378, 0, none⟩) (by first | (rw [add_block]; exact hn379_0) | (show (Addr.add _ _).block ≠ _; rw [add_block]; exact hn379_0) | exact hn379_0) (.int .i64 ((rd_T40 x367002_2 x92_4).f0))).trans hx379_1; replace hx379_2 := (cell_far (p := ⟨gb378, 0, none⟩) (by first | (rw [add_block]; exact hn379_0) | (show (Addr.add _ _).block ≠ _; rw [add_block]; exact hn379_0) | exact hn379_0) (.int .i64 ((rd_T40 x367002_2 x92_4).f0))).trans hx379_2; replace hx379_3 := (cell_far (p := ⟨gb378, 0, none⟩) (by first | (rw [add_block]; exact hn379_0) | (show (Addr.add _ _).block ≠ _; rw [add_block]; exact hn379_0) | exact hn379_0) (.int .i64 ((rd_T40 x367002_2 x92_4).f0))).trans hx379_3; replace hx379_4 := (cell_far (p := ⟨gb378, 0, none⟩) (by first | (rw [add_block]; exact hn379_0) | (show (Addr.add _ _).block ≠ _; rw [add_block]; exact hn379_0) | exact hn379_0) (.int .i64 ((rd_T40 x367002_2 x92_4).f0))).trans hx379_4; replace hx379_5 := (cell_far (p := ⟨gb378, 0, none⟩) (by first | (rw [add_block]; exact hn379_0) | (show (Addr.add _ _).block ≠ _; rw [add_block]; exact hn379_0) | exact hn379_0) (.int .i64 ((rd_T40 x367002_2 x92_4).f0))).trans hx379_5; replace hx379_6 := (cell_far (p := ⟨gb378, 0, none⟩) (by first | (rw [add_block]; exact hn379_0) | (show (Addr.add _ _).block ≠ _; rw [add_block]; exact hn379_0) | exact hn379_0) (.int .i64 ((rd_T40 x367002_2 x92_4).f0))).trans hx379_6; replace hx379_0 := (cell_far (p := ⟨gb378, 1, none⟩) (by first | (rw [add_block]; exact hn379_1) | (show (Addr.add _ _).block ≠ _; rw [add_block]; exact hn379_1) | exact hn379_1) (.int .i64 ((rd_T40 x367002_2 x92_4).f1))).trans hx379_0; replace hx379_1 := (cell_far (p := ⟨gb378, 1, none⟩) (by first | (rw [add_block]; exact hn379_1) | (show (Addr.add _ _).block ≠ _; rw [add_block]; exact hn379_1) | exact hn379_1) (.int .i64 ((rd_T40 x367002_2 x92_4).f1))).trans hx379_1; replace hx379_2 := (cell_far (p := ⟨gb378, 1, none⟩) (by first | (rw [add_block]; exact hn379_1) | (show (Addr.add _ _).block ≠ _; rw [add_block]; exact hn379_1) | exact hn379_1) (.int .i64 ((rd_T40 x367002_2 x92_4).f1))).trans hx379_2; replace hx379_3 := (cell_far (p := ⟨gb378, 1, none⟩) (by first | (rw [add_block]; exact hn379_1) | (show (Addr.add _ _).block ≠ _; rw [add_block]; exact hn379_1) | exact hn379_1) (.int .i64 ((rd_T40 x367002_2 x92_4).f1))).trans hx379_3; replace hx379_4 := (cell_far (p := ⟨gb378, 1, none⟩) (by first | (rw [add_block]; exact hn379_1) | (show (Addr.add _ _).block ≠ _; rw [add_block]; exact hn379_1) | exact hn379_1) (.int .i64 ((rd_T40 x367002_2 x92_4).f1))).trans hx379_4; replace hx379_5 := (cell_far (p := ⟨gb378, 1, none⟩) (by first | (rw [add_block]; exact hn379_1) | (show (Addr.add _ _).block ≠ _; rw [add_block]; exact hn379_1) | exact hn379_1) (.int .i64 ((rd_T40 x367002_2 x92_4).f1))).trans hx379_5; replace hx379_6 := (cell_far (p := ⟨gb378, 1, none⟩) (by first | (rw [add_block]; exact hn379_1) | (show (Addr.add _ _).block ≠ _; rw [add_block]; exact hn379_1) | exact hn379_1) (.int .i64 ((rd_T40 x367002_2 x92_4).f1))).trans hx379_6; replace hx379_0 := (cell_far (p := ⟨gb378, 2, none⟩) (by first | (rw [add_block]; exact hn379_2) | (show (Addr.add _ _).block ≠ _; rw [add_block]; exact hn379_2) | exact hn379_2) (.int .i64 ((rd_T40 x367002_2 x92_4).f2))).trans hx379_0; replace hx379_1 := (cell_far (p := ⟨gb378, 2, none⟩) (by first | (rw [add_block]; exact hn379_2) | (show (Addr.add _ _).block ≠ _; rw [add_block]; exact hn379_2) | exact hn379_2) (.int .i64 ((rd_T40 x367002_2 x92_4).f2))).trans hx379_1; replace hx379_2 := (cell_far (p := ⟨gb378, 2, none⟩) (by first | (rw [add_block]; exact hn379_2) | (show (Addr.add _ _).block ≠ _; rw [add_block]; exact hn379_2) | exact hn379_2) (.int .i64 ((rd_T40 x367002_2 x92_4).f2))).trans hx379_2; replace hx379_3 := (cell_far (p := ⟨gb378, 2, none⟩) (by first | (rw [add_block]; exact hn379_2) | (show (Addr.add _ _).block ≠ _; rw [add_block]; exact hn379_2) | exact hn379_2) (.int .i64 ((rd_T40 x367002_2 x92_4).f2))).trans hx379_3; replace hx379_4 := (cell_far (p := ⟨gb378, 2, none⟩) (by first | (rw [add_block]; exact hn379_2) | (show (Addr.add _ _).block ≠ _; rw [add_block]; exact hn379_2) | exact hn379_2) (.int .i64 ((rd_T40 x367002_2 x92_4).f2))).trans hx379_4; replace hx379_5 := (cell_far (p := ⟨gb378, 2, none⟩) (by first | (rw [add_block]; exact hn379_2) | (show (Addr.add _ _).block ≠ _; rw [add_block]; exact hn379_2) | exact hn379_2) (.int .i64 ((rd_T40 x367002_2 x92_4).f2))).trans hx379_5; replace hx379_6 := (cell_far (p := ⟨gb378, 2, none⟩) (by first | (rw [add_block]; exact hn379_2) | (show (Addr.add _ _).block ≠ _; rw [add_block]; exact hn379_2) | exact hn379_2) (.int .i64 ((rd_T40 x367002_2 x92_4).f2))).trans hx379_6; replace hx379_0 := (cell_far (p := ⟨gb378, 3, none⟩) (by first | (rw [add_block]; exact hn379_3) | (show (Addr.add _ _).block ≠ _; rw [add_block]; exact hn379_3) | exact hn379_3) (.int .i64 ((rd_T40 x367002_2 x92_4).f3))).trans hx379_0; replace hx379_1 := (cell_far (p := ⟨gb378, 3, none⟩) (by first | (rw [add_block]; exact hn379_3) | (show (Addr.add _ _).block ≠ _; rw [add_block]; exact hn379_3) | exact hn379_3) (.int .i64 ((rd_T40 x367002_2 x92_4).f3))).trans hx379_1; replace hx379_2 := (cell_far (p := ⟨gb378, 3, none⟩) (by first | (rw [add_block]; exact hn379_3) | (show (Addr.add _ _).block ≠ _; rw [add_block]; exact hn379_3) | exact hn379_3) (.int .i64 ((rd_T40 x367002_2 x92_4).f3))).trans hx379_2; replace hx379_3 := (cell_far (p := ⟨gb378, 3, none⟩) (by first | (rw [add_block]; exact hn379_3) | (show (Addr.add _ _).block ≠ _; rw [add_block]; exact hn379_3) | exact hn379_3) (.int .i64 ((rd_T40 x367002_2 x92_4).f3))).trans hx379_3; replace hx379_4 := (cell_far (p := ⟨gb378, 3, none⟩) (by first | (rw [add_block]; exact hn379_3) | (show (Addr.add _ _).block ≠ _; rw [add_block]; exact hn379_3) | exact hn379_3) (.int .i64 ((rd_T40 x367002_2 x92_4).f3))).trans hx379_4; replace hx379_5 := (cell_far (p := ⟨gb378, 3, none⟩) (by first | (rw [add_block]; exact hn379_3) | (show (Addr.add _ _).block ≠ _; rw [add_block]; exact hn379_3) | exact hn379_3) (.int .i64 ((rd_T40 x367002_2 x92_4).f3))).trans hx379_5; replace hx379_6 := (cell_far (p := ⟨gb378, 3, none⟩) (by first | (rw [add_block]; exact hn379_3) | (show (Addr.add _ _).block ≠ _; rw [add_block]; exact hn379_3) | exact hn379_3) (.int .i64 ((rd_T40 x367002_2 x92_4).f3))).trans hx379_6; replace hx379_0 := (cell_far (p := ⟨gb378, 4, none⟩) (by first | (rw [add_block]; exact hn379_4) | (show (Addr.add _ _).block ≠ _; rw [add_block]; exact hn379_4) | exact hn379_4) (.int .i64 ((rd_T40 x367002_2 x92_4).f4))).trans hx379_0; replace hx379_1 := (cell_far (p := ⟨gb378, 4, none⟩) (by first | (rw [add_block]; exact hn379_4) | (show (Addr.add _ _).block ≠ _; rw [add_block]; exact hn379_4) | exact hn379_4) (.int .i64 ((rd_T40 x367002_2 x92_4).f4))).trans hx379_1; replace hx379_2 := (cell_far (p := ⟨gb378, 4, none⟩) (by first | (rw [add_block]; exact hn379_4) | (show (Addr.add _ _).block ≠ _; rw [add_block]; exact hn379_4) | exact hn379_4) (.int .i64 ((rd_T40 x367002_2 x92_4).f4))).trans hx379_2; replace hx379_3 := (cell_far (p := ⟨gb378, 4, none⟩) (by first | (rw [add_block]; exact hn379_4) | (show (Addr.add _ _).block ≠ _; rw [add_block]; exact hn379_4) | exact hn379_4) (.int .i64 ((rd_T40 x367002_2 x92_4).f4))).trans hx379_3; replace hx379_4 := (cell_far (p := ⟨gb378, 4, none⟩) (by first | (rw [add_block]; exact hn379_4) | (show (Addr.add _ _).block ≠ _; rw [add_block]; exact hn379_4) | exact hn379_4) (.int .i64 ((rd_T40 x367002_2 x92_4).f4))).trans hx379_4; replace hx379_5 := (cell_far (p := ⟨gb378, 4, none⟩) (by first | (rw [add_block]; exact hn379_4) | (show (Addr.add _ _).block ≠ _; rw [add_block]; exact hn379_4) | exact hn379_4) (.int .i64 ((rd_T40 x367002_2 x92_4).f4))).trans hx379_5; replace hx379_6 := (cell_far (p := ⟨gb378, 4, none⟩) (by first | (rw [add_block]; exact hn379_4) | (show (Addr.add _ _).block ≠ _; rw [add_block]; exact hn379_4) | exact hn379_4) (.int .i64 ((rd_T40 x367002_2 x92_4).f4))).trans hx379_6; replace hx379_0 := (cell_far (p := ⟨gb378, 5, none⟩) (by first | (rw [add_block]; exact hn379_5) | (show (Addr.add _ _).block ≠ _; rw [add_block]; exact hn379_5) | exact hn379_5) (.int .i64 ((rd_T40 x367002_2 x92_4).f5))).trans hx379_0; replace hx379_1 := (cell_far (p := ⟨gb378, 5, none⟩) (by first | (rw [add_block]; exact hn379_5) | (show (Addr.add _ _).block ≠ _; rw [add_block]; exact hn379_5) | exact hn379_5) (.int .i64 ((rd_T40 x367002_2 x92_4).f5))).trans hx379_1; replace hx379_2 := (cell_far (p := ⟨gb378, 5, none⟩) (by first | (rw [add_block]; exact hn379_5) | (show (Addr.add _ _).block ≠ _; rw [add_block]; exact hn379_5) | exact hn379_5) (.int .i64 ((rd_T40 x367002_2 x92_4).f5))).trans hx379_2; replace hx379_3 := (cell_far (p := ⟨gb378, 5, none⟩) (by first | (rw [add_block]; exact hn379_5) | (show (Addr.add _ _).block ≠ _; rw [add_block]; exact hn379_5) | exact hn379_5) (.int .i64 ((rd_T40 x367002_2 x92_4).f5))).trans hx379_3; replace hx379_4 := (cell_far (p := ⟨gb378, 5, none⟩) (by first | (rw [add_block]; exact hn379_5) | (show (Addr.add _ _).block ≠ _; rw [add_block]; exact hn379_5) | exact hn379_5) (.int .i64 ((rd_T40 x367002_2 x92_4).f5))).trans hx379_4; replace hx379_5 := (cell_far (p := ⟨gb378, 5, none⟩) (by first | (rw [add_block]; exact hn379_5) | (show (Addr.add _ _).block ≠ _; rw [add_block]; exact hn379_5) | exact hn379_5) (.int .i64 ((rd_T40 x367002_2 x92_4).f5))).trans hx379_5; replace hx379_6 := (cell_far (p := ⟨gb378, 5, none⟩) (by first | (rw [add_block]; exact hn379_5) | (show (Addr.add _ _).block ≠ _; rw [add_block]; exact hn379_5) | exact hn379_5) (.int .i64 ((rd_T40 x367002_2 x92_4).f5))).trans hx379_6; replace hx379_0 := (cell_far (p := ⟨gb378, 6, none⟩) (by first | (rw [add_block]; exact hn379_6) | (show (Addr.add _ _).block ≠ _; rw [add_block]; exact hn379_6) | exact hn379_6) (.int .i64 ((rd_T40 x367002_2 x92_4).f6))).trans hx379_0; replace hx379_1 := (cell_far (p := ⟨gb378, 6, none⟩) (by first | (rw [add_block]; exact hn379_6) | (show (Addr.add _ _).block ≠ _; rw [add_block]; exact hn379_6) | exact hn379_6) (.int .i64 ((rd_T40 x367002_2 x92_4).f6))).trans hx379_1; replace hx379_2 := (cell_far (p := ⟨gb378, 6, none⟩) (by first | (rw [add_block]; exact hn379_6) | (show (Addr.add _ _).block ≠ _; rw [add_block]; exact hn379_6) | exact hn379_6) (.int .i64 ((rd_T40 x367002_2 x92_4).f6))).trans hx379_2; replace hx379_3 := (cell_far (p := ⟨gb378, 6, none⟩) (by first | (rw [add_block]; exact hn379_6) | (show (Addr.add _ _).block ≠ _; rw [add_block]; exact hn379_6) | exact hn379_6) (.int .i64 ((rd_T40 x367002_2 x92_4).f6))).trans hx379_3; replace hx379_4 := (cell_far (p := ⟨gb378, 6, none⟩) (by first | (rw [add_block]; exact hn379_6) | (show (Addr.add _ _).block ≠ _; rw [add_block]; exact hn379_6) | exact hn379_6) (.int .i64 ((rd_T40 x367002_2 x92_4).f6))).trans hx379_4; replace hx379_5 := (cell_far (p := ⟨gb378, 6, none⟩) (by first | (rw [add_block]; exact hn379_6) | (show (Addr.add _ _).block ≠ _; rw [add_block]; exact hn379_6) | exact hn379_6) (.int .i64 ((rd_T40 x367002_2 x92_4).f6))).trans hx379_5; replace hx379_6 := (cell_far (p := ⟨gb378, 6, none⟩) (by first | (rw [add_block]; exact hn379_6) | (show (Addr.add _ _).block ≠ _; rw [add_block]; exact hn379_6) | exact hn379_6) (.int .i64 ((rd_T40 x367002_2 x92_4).f6))).trans hx379_6; clear hn379_0; clear hn379_1; clear hn379_2; clear hn379_3; clear hn379_4; clear hn379_5; clear hn379_6; replace p379 := eq_true p379; replace q379 := eq_true q379) | ((with_reducible refine gate_dst (N := 12) rfl ?_); (try (refine gate_guard (by rfl) ?_; dsimp only)); refine box_event ?hg (N := 12) ?hd (cs := #[.int .i64 0, .int .i64 0, .int .i64 0, .int .i64 0, .int .i64 0, .int .i64 0, .int .i64 0]) (t := 40) ?hr ?_; (case hd => rfl); (case hg => rfl); (case hr => first | (go_simp; done) | (go_simp; rfl)); intro gb380 hg w108 hbox hb; have n0_ := Aside0.mk (Kd.R_below (Kd.R_elderB (by (with_reducible repeat (first | apply Kd.R_alloc | apply Kd.R_drewN | apply Kd.R_drew)); exact (Kd.R_mono (Kd.R_far (p := ⟨gb378, 6, none⟩) (Kd.R_far (p := ⟨gb378, 5, none⟩) (Kd.R_far (p := ⟨gb378, 4, none⟩) (Kd.R_far (p := ⟨gb378, 3, none⟩) (Kd.R_far (p := ⟨gb378, 2, none⟩) (Kd.R_far (p := ⟨gb378, 1, none⟩) (Kd.R_far (p := ⟨gb378, 0, none⟩) (Kd.R_mono HO_90.out (fun k_ hk => (⟨hk, hk.2⟩ : _ ∧ k_ ≠ gb378))) (fun _ hk => hk.2) (.int .i64 ((rd_T40 x367002_2 x92_4).f0))) (fun _ hk => hk.2) (.int .i64 ((rd_T40 x367002_2 x92_4).f1))) (fun _ hk => hk.2) (.int .i64 ((rd_T40 x367002_2 x92_4).f2))) (fun _ hk => hk.2) (.int .i64 ((rd_T40 x367002_2 x92_4).f3))) (fun _ hk => hk.2) (.int .i64 ((rd_T40 x367002_2 x92_4).f4))) (fun _ hk => hk.2) (.int .i64 ((rd_T40 x367002_2 x92_4).f5))) (fun _ hk => hk.2) (.int .i64 ((rd_T40 x367002_2 x92_4).f6))) (fun _ h_ => h_.1))) gb380 (Nat.le_of_eq hg.symm)) hb); have n1_ := Aside0.mk (Kd.R_below (Kd.R_elderB (by (with_reducible repeat (first | apply Kd.R_alloc | apply Kd.R_drewN | apply Kd.R_drew)); exact (Kd.R_mono (Kd.R_far (p := ⟨gb378, 6, none⟩) (Kd.R_far (p := ⟨gb378, 5, none⟩) (Kd.R_far (p := ⟨gb378, 4, none⟩) (Kd.R_far (p := ⟨gb378, 3, none⟩) (Kd.R_far (p := ⟨gb378, 2, none⟩) (Kd.R_far (p := ⟨gb378, 1, none⟩) (Kd.R_far (p := ⟨gb378, 0, none⟩) (Kd.R_mono HO_367002.out (fun k_ hk => (⟨hk, hk.2⟩ : _ ∧ k_ ≠ gb378))) (fun _ hk => hk.2) (.int .i64 ((rd_T40 x367002_2 x92_4).f0))) (fun _ hk => hk.2) (.int .i64 ((rd_T40 x367002_2 x92_4).f1))) (fun _ hk => hk.2) (.int .i64 ((rd_T40 x367002_2 x92_4).f2))) (fun _ hk => hk.2) (.int .i64 ((rd_T40 x367002_2 x92_4).f3))) (fun _ hk => hk.2) (.int .i64 ((rd_T40 x367002_2 x92_4).f4))) (fun _ hk => hk.2) (.int .i64 ((rd_T40 x367002_2 x92_4).f5))) (fun _ hk => hk.2) (.int .i64 ((rd_T40 x367002_2 x92_4).f6))) (fun _ h_ => h_.1))) gb380 (Nat.le_of_eq hg.symm)) hb); have n2_ := Aside0.mk (Kd.R_below (Kd.R_elderB (by (with_reducible repeat (first | apply Kd.R_alloc | apply Kd.R_drewN | apply Kd.R_drew)); exact (Kd.R_mono (Kd.R_far (p := ⟨gb378, 6, none⟩) (Kd.R_far (p := ⟨gb378, 5, none⟩) (Kd.R_far (p := ⟨gb378, 4, none⟩) (Kd.R_far (p := ⟨gb378, 3, none⟩) (Kd.R_far (p := ⟨gb378, 2, none⟩) (Kd.R_far (p := ⟨gb378, 1, none⟩) (Kd.R_far (p := ⟨gb378, 0, none⟩) (Kd.R_mono HO_376002.out (fun k_ hk => (⟨hk, hk.2⟩ : _ ∧ k_ ≠ gb378))) (fun _ hk => hk.2) (.int .i64 ((rd_T40 x367002_2 x92_4).f0))) (fun _ hk => hk.2) (.int .i64 ((rd_T40 x367002_2 x92_4).f1))) (fun _ hk => hk.2) (.int .i64 ((rd_T40 x367002_2 x92_4).f2))) (fun _ hk => hk.2) (.int .i64 ((rd_T40 x367002_2 x92_4).f3))) (fun _ hk => hk.2) (.int .i64 ((rd_T40 x367002_2 x92_4).f4))) (fun _ hk => hk.2) (.int .i64 ((rd_T40 x367002_2 x92_4).f5))) (fun _ hk => hk.2) (.int .i64 ((rd_T40 x367002_2 x92_4).f6))) (fun _ h_ => h_.1))) gb380 (Nat.le_of_eq hg.symm)) hb); have n3_ := Aside0.mk (blk_below (g := gb366) (o := .cells #[.int .i64 x367000_2, .bool x367001_2, .slice (some ad377) x367002_2.length co22] 24 (0, 0)) (by (with_reducible repeat (first | refine blk_drewN ?_ _ | refine blk_drew ?_ | refine blk_alloc ?_ _)); refine blk_far ?_ NB366_378.out _; (with_reducible repeat (first | refine blk_drewN ?_ _ | refine blk_drew ?_ | refine blk_alloc ?_ _)); refine blk_far ?_ NB366_378.out _; (with_reducible repeat (first | refine blk_drewN ?_ _ | refine blk_drew ?_ | refine blk_alloc ?_ _)); refine blk_far ?_ NB366_378.out _; (with_reducible repeat (first | refine blk_drewN ?_ _ | refine blk_drew ?_ | refine blk_alloc ?_ _)); refine blk_far ?_ NB366_378.out _; (with_reducible repeat (first | refine blk_drewN ?_ _ | refine blk_drew ?_ | refine blk_alloc ?_ _)); refine blk_far ?_ NB366_378.out _; (with_reducible repeat (first | refine blk_drewN ?_ _ | refine blk_drew ?_ | refine blk_alloc ?_ _)); refine blk_far ?_ NB366_378.out _; (with_reducible repeat (first | refine blk_drewN ?_ _ | refine blk_drew ?_ | refine blk_alloc ?_ _)); refine blk_far ?_ NB366_378.out _; (with_reducible repeat (first | refine blk_drewN ?_ _ | refine blk_drew ?_ | refine blk_alloc ?_ _)); exact BK366.out) hb); have n4_ := Aside0.mk (blk_below (g := gb368) (o := .cells #[.int .i64 ((rd_T26 l1 x31_2).f0), .int .i64 ((rd_T26 l1 x31_2).f1), .int .i64 ((rd_T26 l1 x31_2).f2), .bool ((rd_T26 l1 x31_2).f3)] 26 (0, 0)) (by (with_reducible repeat (first | refine blk_drewN ?_ _ | refine blk_drew ?_ | refine blk_alloc ?_ _)); refine blk_far ?_ NB368_378.out _; (with_reducible repeat (first | refine blk_drewN ?_ _ | refine blk_drew ?_ | refine blk_alloc ?_ _)); refine blk_far ?_ NB368_378.out _; (with_reducible repeat (first | refine blk_drewN ?_ _ | refine blk_drew ?_ | refine blk_alloc ?_ _)); refine blk_far ?_ NB368_378.out _; (with_reducible repeat (first | refine blk_drewN ?_ _ | refine blk_drew ?_ | refine blk_alloc ?_ _)); refine blk_far ?_ NB368_378.out _; (with_reducible repeat (first | refine blk_drewN ?_ _ | refine blk_drew ?_ | refine blk_alloc ?_ _)); refine blk_far ?_ NB368_378.out _; (with_reducible repeat (first | refine blk_drewN ?_ _ | refine blk_drew ?_ | refine blk_alloc ?_ _)); refine blk_far ?_ NB368_378.out _; (with_reducible repeat (first | refine blk_drewN ?_ _ | refine blk_drew ?_ | refine blk_alloc ?_ _)); refine blk_far ?_ NB368_378.out _; (with_reducible repeat (first | refine blk_drewN ?_ _ | refine blk_drew ?_ | refine blk_alloc ?_ _)); exact BK368.out) hb); have n5_ := Aside0.mk (blk_below (g := gb375) (o := .cells #[.int .i64 t369, .bool t370, .slice (some ad379) t371.length co28] 24 (0, 0)) (by (with_reducible repeat (first | refine blk_drewN ?_ _ | refine blk_drew ?_ | refine blk_alloc ?_ _)); refine blk_far ?_ NB375_378.out _; (with_reducible repeat (first | refine blk_drewN ?_ _ | refine blk_drew ?_ | refine blk_alloc ?_ _)); refine blk_far ?_ NB375_378.out _; (with_reducible repeat (first | refine blk_drewN ?_ _ | refine blk_drew ?_ | refine blk_alloc ?_ _)); refine blk_far ?_ NB375_378.out _; (with_reducible repeat (first | refine blk_drewN ?_ _ | refine blk_drew ?_ | refine blk_alloc ?_ _)); refine blk_far ?_ NB375_378.out _; (with_reducible repeat (first | refine blk_drewN ?_ _ | refine blk_drew ?_ | refine blk_alloc ?_ _)); refine blk_far ?_ NB375_378.out _; (with_reducible repeat (first | refine blk_drewN ?_ _ | refine blk_drew ?_ | refine blk_alloc ?_ _)); refine blk_far ?_ NB375_378.out _; (with_reducible repeat (first | refine blk_drewN ?_ _ | refine blk_drew ?_ | refine blk_alloc ?_ _)); refine blk_far ?_ NB375_378.out _; (with_reducible repeat (first | refine blk_drewN ?_ _ | refine blk_drew ?_ | refine blk_alloc ?_ _)); exact BK375.out) hb); have n6_ := Aside0.mk (blk_below (g := gb378) (o := .cells #[.int .i64 ((rd_T40 x367002_2 x92_4).f0), .int .i64 ((rd_T40 x367002_2 x92_4).f1), .int .i64 ((rd_T40 x367002_2 x92_4).f2), .int .i64 ((rd_T40 x367002_2 x92_4).f3), .int .i64 ((rd_T40 x367002_2 x92_4).f4), .int .i64 ((rd_T40 x367002_2 x92_4).f5), .int .i64 ((rd_T40 x367002_2 x92_4).f6)] 40 (0, 0)) (by (with_reducible repeat (first | refine blk_drewN ?_ _ | refine blk_drew ?_ | refine blk_alloc ?_ _)); refine blk_put (cs := #[.int .i64 ((rd_T40 x367002_2 x92_4).f0), .int .i64 ((rd_T40 x367002_2 x92_4).f1), .int .i64 ((rd_T40 x367002_2 x92_4).f2), .int .i64 ((rd_T40 x367002_2 x92_4).f3), .int .i64 ((rd_T40 x367002_2 x92_4).f4), .int .i64 ((rd_T40 x367002_2 x92_4).f5), .int .i64 0]) ?_ 6 _ rfl; (with_reducible repeat (first | refine blk_drewN ?_ _ | refine blk_drew ?_ | refine blk_alloc ?_ _)); refine blk_put (cs := #[.int .i64 ((rd_T40 x367002_2 x92_4).f0), .int .i64 ((rd_T40 x367002_2 x92_4).f1), .int .i64 ((rd_T40 x367002_2 x92_4).f2), .int .i64 ((rd_T40 x367002_2 x92_4).f3), .int .i64 ((rd_T40 x367002_2 x92_4).f4), .int .i64 0, .int .i64 0]) ?_ 5 _ rfl; (with_reducible repeat (first | refine blk_drewN ?_ _ | refine blk_drew ?_ | refine blk_alloc ?_ _)); refine blk_put (cs := #[.int .i64 ((rd_T40 x367002_2 x92_4).f0), .int .i64 ((rd_T40 x367002_2 x92_4).f1), .int .i64 ((rd_T40 x367002_2 x92_4).f2), .int .i64 ((rd_T40 x367002_2 x92_4).f3), .int .i64 0, .int .i64 0, .int .i64 0]) ?_ 4 _ rfl; (with_reducible repeat (first | refine blk_drewN ?_ _ | refine blk_drew ?_ | refine blk_alloc ?_ _)); refine blk_put (cs := #[.int .i64 ((rd_T40 x367002_2 x92_4).f0), .int .i64 ((rd_T40 x367002_2 x92_4).f1), .int .i64 ((rd_T40 x367002_2 x92_4).f2), .int .i64 0, .int .i64 0, .int .i64 0, .int .i64 0]) ?_ 3 _ rfl; (with_reducible repeat (first | refine blk_drewN ?_ _ | refine blk_drew ?_ | refine blk_alloc ?_ _)); refine blk_put (cs := #[.int .i64 ((rd_T40 x367002_2 x92_4).f0), .int .i64 ((rd_T40 x367002_2 x92_4).f1), .int .i64 0, .int .i64 0, .int .i64 0, .int .i64 0, .int .i64 0]) ?_ 2 _ rfl; (with_reducible repeat (first | refine blk_drewN ?_ _ | refine blk_drew ?_ | refine blk_alloc ?_ _)); refine blk_put (cs := #[.int .i64 ((rd_T40 x367002_2 x92_4).f0), .int .i64 0, .int .i64 0, .int .i64 0, .int .i64 0, .int .i64 0, .int .i64 0]) ?_ 1 _ rfl; (with_reducible repeat (first | refine blk_drewN ?_ _ | refine blk_drew ?_ | refine blk_alloc ?_ _)); refine blk_put (cs := #[.int .i64 0, .int .i64 0, .int .i64 0, .int .i64 0, .int .i64 0, .int .i64 0, .int .i64 0]) ?_ 0 _ rfl; (with_reducible repeat (first | refine blk_drewN ?_ _ | refine blk_drew ?_ | refine blk_alloc ?_ _)); exact BK378.out) hb); have n7_ := Aside0.mk (below_step (by repeat (first | (with_reducible first | exact HB.out | apply below_alloc | apply pw_below_drewN | apply below_drew1 | refine below_set ?_ GE366.out | refine below_set ?_ GE368.out | refine below_set ?_ GE375.out | refine below_set ?_ GE378.out) | exact HB.out)) hb); have n8_ := Aside0.mk (hbox); have n9_ := Aside0.mk ((by rw [hg]; exact (below_size (by repeat (first | (with_reducible first | exact HB.out | apply below_alloc | apply pw_below_drewN | apply below_drew1 | refine below_set ?_ GE366.out | refine below_set ?_ GE368.out | refine below_set ?_ GE375.out | refine below_set ?_ GE378.out) | exact HB.out))) : w.heap.size ≤ gb380)); have n10_ := Aside0.mk ((by rw [hg]; exact (below_size (by repeat (first | (with_reducible first | exact HB.out | apply below_alloc | apply pw_below_drewN | apply below_drew1 | refine below_set ?_ GE366.out | refine below_set ?_ GE368.out | refine below_set ?_ GE375.out | refine below_set ?_ GE378.out) | exact HB.out))) : w.heap.size ≤ gb380)); have n11_ := Aside0.mk ((by rw [hg]; exact Nat.ne_of_lt (blk_lt (g := gb366) (o := .cells #[.int .i64 x367000_2, .bool x367001_2, .slice (some ad377) x367002_2.length co22] 24 (0, 0)) (by (with_reducible repeat (first | refine blk_drewN ?_ _ | refine blk_drew ?_ | refine blk_alloc ?_ _)); refine blk_far ?_ NB366_378.out _; (with_reducible repeat (first | refine blk_drewN ?_ _ | refine blk_drew ?_ | refine blk_alloc ?_ _)); refine blk_far ?_ NB366_378.out _; (with_reducible repeat (first | refine blk_drewN ?_ _ | refine blk_drew ?_ | refine blk_alloc ?_ _)); refine blk_far ?_ NB366_378.out _; (with_reducible repeat (first | refine blk_drewN ?_ _ | refine blk_drew ?_ | refine blk_alloc ?_ _)); refine blk_far ?_ NB366_378.out _; (with_reducible repeat (first | refine blk_drewN ?_ _ | refine blk_drew ?_ | refine blk_alloc ?_ _)); refine blk_far ?_ NB366_378.out _; (with_reducible repeat (first | refine blk_drewN ?_ _ | refine blk_drew ?_ | refine blk_alloc ?_ _)); refine blk_far ?_ NB366_378.out _; (with_reducible repeat (first | refine blk_drewN ?_ _ | refine blk_drew ?_ | refine blk_alloc ?_ _)); refine blk_far ?_ NB366_378.out _; (with_reducible repeat (first | refine blk_drewN ?_ _ | refine blk_drew ?_ | refine blk_alloc ?_ _)); exact BK366.out)) : gb366 ≠ gb380)); have n12_ := Aside0.mk ((by rw [hg]; exact Nat.ne_of_gt (blk_lt (g := gb366) (o := .cells #[.int .i64 x367000_2, .bool x367001_2, .slice (some ad377) x367002_2.length co22] 24 (0, 0)) (by (with_reducible repeat (first | refine blk_drewN ?_ _ | refine blk_drew ?_ | refine blk_alloc ?_ _)); refine blk_far ?_ NB366_378.out _; (with_reducible repeat (first | refine blk_drewN ?_ _ | refine blk_drew ?_ | refine blk_alloc ?_ _)); refine blk_far ?_ NB366_378.out _; (with_reducible repeat (first | refine blk_drewN ?_ _ | refine blk_drew ?_ | refine blk_alloc ?_ _)); refine blk_far ?_ NB366_378.out _; (with_reducible repeat (first | refine blk_drewN ?_ _ | refine blk_drew ?_ | refine blk_alloc ?_ _)); refine blk_far ?_ NB366_378.out _; (with_reducible repeat (first | refine blk_drewN ?_ _ | refine blk_drew ?_ | refine blk_alloc ?_ _)); refine blk_far ?_ NB366_378.out _; (with_reducible repeat (first | refine blk_drewN ?_ _ | refine blk_drew ?_ | refine blk_alloc ?_ _)); refine blk_far ?_ NB366_378.out _; (with_reducible repeat (first | refine blk_drewN ?_ _ | refine blk_drew ?_ | refine blk_alloc ?_ _)); refine blk_far ?_ NB366_378.out _; (with_reducible repeat (first | refine blk_drewN ?_ _ | refine blk_drew ?_ | refine blk_alloc ?_ _)); exact BK366.out)) : gb380 ≠ gb366)); have n13_ := Aside0.mk ((by rw [hg]; exact Nat.ne_of_lt (blk_lt (g := gb368) (o := .cells #[.int .i64 ((rd_T26 l1 x31_2).f0), .int .i64 ((rd_T26 l1 x31_2).f1), .int .i64 ((rd_T26 l1 x31_2).f2), .bool ((rd_T26 l1 x31_2).f3)] 26 (0, 0)) (by (with_reducible repeat (first | refine blk_drewN ?_ _ | refine blk_drew ?_ | refine blk_alloc ?_ _)); refine blk_far ?_ NB368_378.out _; (with_reducible repeat (first | refine blk_drewN ?_ _ | refine blk_drew ?_ | refine blk_alloc ?_ _)); refine blk_far ?_ NB368_378.out _; (with_reducible repeat (first | refine blk_drewN ?_ _ | refine blk_drew ?_ | refine blk_alloc ?_ _)); refine blk_far ?_ NB368_378.out _; (with_reducible repeat (first | refine blk_drewN ?_ _ | refine blk_drew ?_ | refine blk_alloc ?_ _)); refine blk_far ?_ NB368_378.out _; (with_reducible repeat (first | refine blk_drewN ?_ _ | refine blk_drew ?_ | refine blk_alloc ?_ _)); refine blk_far ?_ NB368_378.out _; (with_reducible repeat (first | refine blk_drewN ?_ _ | refine blk_drew ?_ | refine blk_alloc ?_ _)); refine blk_far ?_ NB368_378.out _; (with_reducible repeat (first | refine blk_drewN ?_ _ | refine blk_drew ?_ | refine blk_alloc ?_ _)); refine blk_far ?_ NB368_378.out _; (with_reducible repeat (first | refine blk_drewN ?_ _ | refine blk_drew ?_ | refine blk_alloc ?_ _)); exact BK368.out)) : gb368 ≠ gb380)); have n14_ := Aside0.mk ((by rw [hg]; exact Nat.ne_of_gt (blk_lt (g := gb368) (o := .cells #[.int .i64 ((rd_T26 l1 x31_2).f0), .int .i64 ((rd_T26 l1 x31_2).f1), .int .i64 ((rd_T26 l1 x31_2).f2), .bool ((rd_T26 l1 x31_2).f3)] 26 (0, 0)) (by (with_reducible repeat (first | refine blk_drewN ?_ _ | refine blk_drew ?_ | refine blk_alloc ?_ _)); refine blk_far ?_ NB368_378.out _; (with_reducible repeat (first | refine blk_drewN ?_ _ | refine blk_drew ?_ | refine blk_alloc ?_ _)); refine blk_far ?_ NB368_378.out _; (with_reducible repeat (first | refine blk_drewN ?_ _ | refine blk_drew ?_ | refine blk_alloc ?_ _)); refine blk_far ?_ NB368_378.out _; (with_reducible repeat (first | refine blk_drewN ?_ _ | refine blk_drew ?_ | refine blk_alloc ?_ _)); refine blk_far ?_ NB368_378.out _; (with_reducible repeat (first | refine blk_drewN ?_ _ | refine blk_drew ?_ | refine blk_alloc ?_ _)); refine blk_far ?_ NB368_378.out _; (with_reducible repeat (first | refine blk_drewN ?_ _ | refine blk_drew ?_ | refine blk_alloc ?_ _)); refine blk_far ?_ NB368_378.out _; (with_reducible repeat (first | refine blk_drewN ?_ _ | refine blk_drew ?_ | refine blk_alloc ?_ _)); refine blk_far ?_ NB368_378.out _; (with_reducible repeat (first | refine blk_drewN ?_ _ | refine blk_drew ?_ | refine blk_alloc ?_ _)); exact BK368.out)) : gb380 ≠ gb368)); have n15_ := Aside0.mk ((by rw [hg]; exact Nat.ne_of_lt (blk_lt (g := gb375) (o := .cells #[.int .i64 t369, .bool t370, .slice (some ad379) t371.length co28] 24 (0, 0)) (by (with_reducible repeat (first | refine blk_drewN ?_ _ | refine blk_drew ?_ | refine blk_alloc ?_ _)); refine blk_far ?_ NB375_378.out _; (with_reducible repeat (first | refine blk_drewN ?_ _ | refine blk_drew ?_ | refine blk_alloc ?_ _)); refine blk_far ?_ NB375_378.out _; (with_reducible repeat (first | refine blk_drewN ?_ _ | refine blk_drew ?_ | refine blk_alloc ?_ _)); refine blk_far ?_ NB375_378.out _; (with_reducible repeat (first | refine blk_drewN ?_ _ | refine blk_drew ?_ | refine blk_alloc ?_ _)); refine blk_far ?_ NB375_378.out _; (with_reducible repeat (first | refine blk_drewN ?_ _ | refine blk_drew ?_ | refine blk_alloc ?_ _)); refine blk_far ?_ NB375_378.out _; (with_reducible repeat (first | refine blk_drewN ?_ _ | refine blk_drew ?_ | refine blk_alloc ?_ _)); refine blk_far ?_ NB375_378.out _; (with_reducible repeat (first | refine blk_drewN ?_ _ | refine blk_drew ?_ | refine blk_alloc ?_ _)); refine blk_far ?_ NB375_378.out _; (with_reducible repeat (first | refine blk_drewN ?_ _ | refine blk_drew ?_ | refine blk_alloc ?_ _)); exact BK375.out)) : gb375 ≠ gb380)); have n16_ := Aside0.mk ((by rw [hg]; exact Nat.ne_of_gt (blk_lt (g := gb375) (o := .cells #[.int .i64 t369, .bool t370, .slice (some ad379) t371.length co28] 24 (0, 0)) (by (with_reducible repeat (first | refine blk_drewN ?_ _ | refine blk_drew ?_ | refine blk_alloc ?_ _)); refine blk_far ?_ NB375_378.out _; (with_reducible repeat (first | refine blk_drewN ?_ _ | refine blk_drew ?_ | refine blk_alloc ?_ _)); refine blk_far ?_ NB375_378.out _; (with_reducible repeat (first | refine blk_drewN ?_ _ | refine blk_drew ?_ | refine blk_alloc ?_ _)); refine blk_far ?_ NB375_378.out _; (with_reducible repeat (first | refine blk_drewN ?_ _ | refine blk_drew ?_ | refine blk_alloc ?_ _)); refine blk_far ?_ NB375_378.out _; (with_reducible repeat (first | refine blk_drewN ?_ _ | refine blk_drew ?_ | refine blk_alloc ?_ _)); refine blk_far ?_ NB375_378.out _; (with_reducible repeat (first | refine blk_drewN ?_ _ | refine blk_drew ?_ | refine blk_alloc ?_ _)); refine blk_far ?_ NB375_378.out _; (with_reducible repeat (first | refine blk_drewN ?_ _ | refine blk_drew ?_ | refine blk_alloc ?_ _)); refine blk_far ?_ NB375_378.out _; (with_reducible repeat (first | refine blk_drewN ?_ _ | refine blk_drew ?_ | refine blk_alloc ?_ _)); exact BK375.out)) : gb380 ≠ gb375)); have n17_ := Aside0.mk ((by rw [hg]; exact Nat.ne_of_lt (blk_lt (g := gb378) (o := .cells #[.int .i64 ((rd_T40 x367002_2 x92_4).f0), .int .i64 ((rd_T40 x367002_2 x92_4).f1), .int .i64 ((rd_T40 x367002_2 x92_4).f2), .int .i64 ((rd_T40 x367002_2 x92_4).f3), .int .i64 ((rd_T40 x367002_2 x92_4).f4), .int .i64 ((rd_T40 x367002_2 x92_4).f5), .int .i64 ((rd_T40 x367002_2 x92_4).f6)] 40 (0, 0)) (by (with_reducible repeat (first | refine blk_drewN ?_ _ | refine blk_drew ?_ | refine blk_alloc ?_ _)); refine blk_put (cs := #[.int .i64 ((rd_T40 x367002_2 x92_4).f0), .int .i64 ((rd_T40 x367002_2 x92_4).f1), .int .i64 ((rd_T40 x367002_2 x92_4).f2), .int .i64 ((rd_T40 x367002_2 x92_4).f3), .int .i64 ((rd_T40 x367002_2 x92_4).f4), .int .i64 ((rd_T40 x367002_2 x92_4).f5), .int .i64 0]) ?_ 6 _ rfl; (with_reducible repeat (first | refine blk_drewN ?_ _ | refine blk_drew ?_ | refine blk_alloc ?_ _)); refine blk_put (cs := #[.int .i64 ((rd_T40 x367002_2 x92_4).f0), .int .i64 ((rd_T40 x367002_2 x92_4).f1), .int .i64 ((rd_T40 x367002_2 x92_4).f2), .int .i64 ((rd_T40 x367002_2 x92_4).f3), .int .i64 ((rd_T40 x367002_2 x92_4).f4), .int .i64 0, .int .i64 0]) ?_ 5 _ rfl; (with_reducible repeat (first | refine blk_drewN ?_ _ | refine blk_drew ?_ | refine blk_alloc ?_ _)); refine blk_put (cs := #[.int .i64 ((rd_T40 x367002_2 x92_4).f0), .int .i64 ((rd_T40 x367002_2 x92_4).f1), .int .i64 ((rd_T40 x367002_2 x92_4).f2), .int .i64 ((rd_T40 x367002_2 x92_4).f3), .int .i64 0, .int .i64 0, .int .i64 0]) ?_ 4 _ rfl; (with_reducible repeat (first | refine blk_drewN ?_ _ | refine blk_drew ?_ | refine blk_alloc ?_ _)); refine blk_put (cs := #[.int .i64 ((rd_T40 x367002_2 x92_4).f0), .int .i64 ((rd_T40 x367002_2 x92_4).f1), .int .i64 ((rd_T40 x367002_2 x92_4).f2), .int .i64 0, .int .i64 0, .int .i64 0, .int .i64 0]) ?_ 3 _ rfl; (with_reducible repeat (first | refine blk_drewN ?_ _ | refine blk_drew ?_ | refine blk_alloc ?_ _)); refine blk_put (cs := #[.int .i64 ((rd_T40 x367002_2 x92_4).f0), .int .i64 ((rd_T40 x367002_2 x92_4).f1), .int .i64 0, .int .i64 0, .int .i64 0, .int .i64 0, .int .i64 0]) ?_ 2 _ rfl; (with_reducible repeat (first | refine blk_drewN ?_ _ | refine blk_drew ?_ | refine blk_alloc ?_ _)); refine blk_put (cs := #[.int .i64 ((rd_T40 x367002_2 x92_4).f0), .int .i64 0, .int .i64 0, .int .i64 0, .int .i64 0, .int .i64 0, .int .i64 0]) ?_ 1 _ rfl; (with_reducible repeat (first | refine blk_drewN ?_ _ | refine blk_drew ?_ | refine blk_alloc ?_ _)); refine blk_put (cs := #[.int .i64 0, .int .i64 0, .int .i64 0, .int .i64 0, .int .i64 0, .int .i64 0, .int .i64 0]) ?_ 0 _ rfl; (with_reducible repeat (first | refine blk_drewN ?_ _ | refine blk_drew ?_ | refine blk_alloc ?_ _)); exact BK378.out)) : gb378 ≠ gb380)); have n18_ := Aside0.mk ((by rw [hg]; exact Nat.ne_of_gt (blk_lt (g := gb378) (o := .cells #[.int .i64 ((rd_T40 x367002_2 x92_4).f0), .int .i64 ((rd_T40 x367002_2 x92_4).f1), .int .i64 ((rd_T40 x367002_2 x92_4).f2), .int .i64 ((rd_T40 x367002_2 x92_4).f3), .int .i64 ((rd_T40 x367002_2 x92_4).f4), .int .i64 ((rd_T40 x367002_2 x92_4).f5), .int .i64 ((rd_T40 x367002_2 x92_4).f6)] 40 (0, 0)) (by (with_reducible repeat (first | refine blk_drewN ?_ _ | refine blk_drew ?_ | refine blk_alloc ?_ _)); refine blk_put (cs := #[.int .i64 ((rd_T40 x367002_2 x92_4).f0), .int .i64 ((rd_T40 x367002_2 x92_4).f1), .int .i64 ((rd_T40 x367002_2 x92_4).f2), .int .i64 ((rd_T40 x367002_2 x92_4).f3), .int .i64 ((rd_T40 x367002_2 x92_4).f4), .int .i64 ((rd_T40 x367002_2 x92_4).f5), .int .i64 0]) ?_ 6 _ rfl; (with_reducible repeat (first | refine blk_drewN ?_ _ | refine blk_drew ?_ | refine blk_alloc ?_ _)); refine blk_put (cs := #[.int .i64 ((rd_T40 x367002_2 x92_4).f0), .int .i64 ((rd_T40 x367002_2 x92_4).f1), .int .i64 ((rd_T40 x367002_2 x92_4).f2), .int .i64 ((rd_T40 x367002_2 x92_4).f3), .int .i64 ((rd_T40 x367002_2 x92_4).f4), .int .i64 0, .int .i64 0]) ?_ 5 _ rfl; (with_reducible repeat (first | refine blk_drewN ?_ _ | refine blk_drew ?_ | refine blk_alloc ?_ _)); refine blk_put (cs := #[.int .i64 ((rd_T40 x367002_2 x92_4).f0), .int .i64 ((rd_T40 x367002_2 x92_4).f1), .int .i64 ((rd_T40 x367002_2 x92_4).f2), .int .i64 ((rd_T40 x367002_2 x92_4).f3), .int .i64 0, .int .i64 0, .int .i64 0]) ?_ 4 _ rfl; (with_reducible repeat (first | refine blk_drewN ?_ _ | refine blk_drew ?_ | refine blk_alloc ?_ _)); refine blk_put (cs := #[.int .i64 ((rd_T40 x367002_2 x92_4).f0), .int .i64 ((rd_T40 x367002_2 x92_4).f1), .int .i64 ((rd_T40 x367002_2 x92_4).f2), .int .i64 0, .int .i64 0, .int .i64 0, .int .i64 0]) ?_ 3 _ rfl; (with_reducible repeat (first | refine blk_drewN ?_ _ | refine blk_drew ?_ | refine blk_alloc ?_ _)); refine blk_put (cs := #[.int .i64 ((rd_T40 x367002_2 x92_4).f0), .int .i64 ((rd_T40 x367002_2 x92_4).f1), .int .i64 0, .int .i64 0, .int .i64 0, .int .i64 0, .int .i64 0]) ?_ 2 _ rfl; (with_reducible repeat (first | refine blk_drewN ?_ _ | refine blk_drew ?_ | refine blk_alloc ?_ _)); refine blk_put (cs := #[.int .i64 ((rd_T40 x367002_2 x92_4).f0), .int .i64 0, .int .i64 0, .int .i64 0, .int .i64 0, .int .i64 0, .int .i64 0]) ?_ 1 _ rfl; (with_reducible repeat (first | refine blk_drewN ?_ _ | refine blk_drew ?_ | refine blk_alloc ?_ _)); refine blk_put (cs := #[.int .i64 0, .int .i64 0, .int .i64 0, .int .i64 0, .int .i64 0, .int .i64 0, .int .i64 0]) ?_ 0 _ rfl; (with_reducible repeat (first | refine blk_drewN ?_ _ | refine blk_drew ?_ | refine blk_alloc ?_ _)); exact BK378.out)) : gb380 ≠ gb378)); clear HO_90; clear HO_367002; clear HO_376002; clear BK366; clear BK368; clear BK375; clear BK378; clear HB; have HO_90 := n0_; have HO_367002 := n1_; have HO_376002 := n2_; have BK366 := n3_; have BK368 := n4_; have BK375 := n5_; have BK378 := n6_; have HB := n7_; have BK380 := n8_; have GW380 := n9_; have GE380 := n10_; have NB366_380 := n11_; have NB380_366 := n12_; have NB368_380 := n13_; have NB380_368 := n14_; have NB375_380 := n15_; have NB380_375 := n16_; have NB378_380 := n17_; have NB380_378 := n18_; clear n0_ n1_ n2_ n3_ n4_ n5_ n6_ n7_ n8_ n9_ n10_ n11_ n12_ n13_ n14_ n15_ n16_ n17_ n18_; clear hb hbox hg; have hnb109 := NB380_366.out; have hnc109 := NB366_380.out; have hnb110 := NB380_368.out; have hnc110 := NB368_380.out; have hnb111 := NB380_375.out; have hnc111 := NB375_380.out; have hnb112 := NB380_378.out; have hnc112 := NB378_380.out; obtain ⟨hcz113_0, hcz113_1, hcz113_2, hcz113_3, hcz113_4, hcz113_5, hcz113_6⟩ := cel7 BK380.out; obtain ⟨hfz113_0, hfz113_1, hfz113_2, hfz113_3, hfz113_4, hfz113_5, hfz113_6⟩ := frz7 BK380.out; obtain ⟨hcz114_0, hcz114_1, hcz114_2, hcz114_3, hcz114_4, hcz114_5, hcz114_6⟩ := cel7 BK378.out; obtain ⟨hfz114_0, hfz114_1, hfz114_2, hfz114_3, hfz114_4, hfz114_5, hfz114_6⟩ := frz7 BK378.out))
                                         have q0_ := (Kd.R_far (p := ⟨gb380, 6, none⟩) (Kd.R_far (p := ⟨gb380, 5, none⟩) (Kd.R_far (p := ⟨gb380, 4, none⟩) (Kd.R_far (p := ⟨gb380, 3, none⟩) (Kd.R_far (p := ⟨gb380, 2, none⟩) (Kd.R_far (p := ⟨gb380, 1, none⟩) (Kd.R_far (p := ⟨gb380, 0, none⟩) (Kd.R_mono HO_90.out (fun k_ hk => (⟨hk, hk.2⟩ : _ ∧ k_ ≠ gb380))) (fun _ hk => hk.2) (.int .i64 ((rd_T40 t371 x92_4).f0))) (fun _ hk => hk.2) (.int .i64 ((rd_T40 t371 x92_4).f1))) (fun _ hk => hk.2) (.int .i64 ((rd_T40 t371 x92_4).f2))) (fun _ hk => hk.2) (.int .i64 ((rd_T40 t371 x92_4).f3))) (fun _ hk => hk.2) (.int .i64 ((rd_T40 t371 x92_4).f4))) (fun _ hk => hk.2) (.int .i64 ((rd_T40 t371 x92_4).f5))) (fun _ hk => hk.2) (.int .i64 ((rd_T40 t371 x92_4).f6)))
                                         have q1_ := (Kd.R_far (p := ⟨gb380, 6, none⟩) (Kd.R_far (p := ⟨gb380, 5, none⟩) (Kd.R_far (p := ⟨gb380, 4, none⟩) (Kd.R_far (p := ⟨gb380, 3, none⟩) (Kd.R_far (p := ⟨gb380, 2, none⟩) (Kd.R_far (p := ⟨gb380, 1, none⟩) (Kd.R_far (p := ⟨gb380, 0, none⟩) (Kd.R_mono HO_367002.out (fun k_ hk => (⟨hk, hk.2⟩ : _ ∧ k_ ≠ gb380))) (fun _ hk => hk.2) (.int .i64 ((rd_T40 t371 x92_4).f0))) (fun _ hk => hk.2) (.int .i64 ((rd_T40 t371 x92_4).f1))) (fun _ hk => hk.2) (.int .i64 ((rd_T40 t371 x92_4).f2))) (fun _ hk => hk.2) (.int .i64 ((rd_T40 t371 x92_4).f3))) (fun _ hk => hk.2) (.int .i64 ((rd_T40 t371 x92_4).f4))) (fun _ hk => hk.2) (.int .i64 ((rd_T40 t371 x92_4).f5))) (fun _ hk => hk.2) (.int .i64 ((rd_T40 t371 x92_4).f6)))
                                         have q2_ := (Kd.R_far (p := ⟨gb380, 6, none⟩) (Kd.R_far (p := ⟨gb380, 5, none⟩) (Kd.R_far (p := ⟨gb380, 4, none⟩) (Kd.R_far (p := ⟨gb380, 3, none⟩) (Kd.R_far (p := ⟨gb380, 2, none⟩) (Kd.R_far (p := ⟨gb380, 1, none⟩) (Kd.R_far (p := ⟨gb380, 0, none⟩) (Kd.R_mono HO_376002.out (fun k_ hk => (⟨hk, hk.2⟩ : _ ∧ k_ ≠ gb380))) (fun _ hk => hk.2) (.int .i64 ((rd_T40 t371 x92_4).f0))) (fun _ hk => hk.2) (.int .i64 ((rd_T40 t371 x92_4).f1))) (fun _ hk => hk.2) (.int .i64 ((rd_T40 t371 x92_4).f2))) (fun _ hk => hk.2) (.int .i64 ((rd_T40 t371 x92_4).f3))) (fun _ hk => hk.2) (.int .i64 ((rd_T40 t371 x92_4).f4))) (fun _ hk => hk.2) (.int .i64 ((rd_T40 t371 x92_4).f5))) (fun _ hk => hk.2) (.int .i64 ((rd_T40 t371 x92_4).f6)))
                                         have bgb366_ : (((((((w108.setCell ⟨gb380, 0, none⟩ (.int .i64 ((rd_T40 t371 x92_4).f0))).setCell ⟨gb380, 1, none⟩ (.int .i64 ((rd_T40 t371 x92_4).f1))).setCell ⟨gb380, 2, none⟩ (.int .i64 ((rd_T40 t371 x92_4).f2))).setCell ⟨gb380, 3, none⟩ (.int .i64 ((rd_T40 t371 x92_4).f3))).setCell ⟨gb380, 4, none⟩ (.int .i64 ((rd_T40 t371 x92_4).f4))).setCell ⟨gb380, 5, none⟩ (.int .i64 ((rd_T40 t371 x92_4).f5))).setCell ⟨gb380, 6, none⟩ (.int .i64 ((rd_T40 t371 x92_4).f6))).heap[gb366]? = some (.cells #[.int .i64 x367000_2, .bool x367001_2, .slice (some ad377) x367002_2.length co22] 24 (0, 0)) := by (with_reducible repeat (first | refine blk_drewN ?_ _ | refine blk_drew ?_ | refine blk_alloc ?_ _)); refine blk_far ?_ NB366_380.out _; (with_reducible repeat (first | refine blk_drewN ?_ _ | refine blk_drew ?_ | refine blk_alloc ?_ _)); refine blk_far ?_ NB366_380.out _; (with_reducible repeat (first | refine blk_drewN ?_ _ | refine blk_drew ?_ | refine blk_alloc ?_ _)); refine blk_far ?_ NB366_380.out _; (with_reducible repeat (first | refine blk_drewN ?_ _ | refine blk_drew ?_ | refine blk_alloc ?_ _)); refine blk_far ?_ NB366_380.out _; (with_reducible repeat (first | refine blk_drewN ?_ _ | refine blk_drew ?_ | refine blk_alloc ?_ _)); refine blk_far ?_ NB366_380.out _; (with_reducible repeat (first | refine blk_drewN ?_ _ | refine blk_drew ?_ | refine blk_alloc ?_ _)); refine blk_far ?_ NB366_380.out _; (with_reducible repeat (first | refine blk_drewN ?_ _ | refine blk_drew ?_ | refine blk_alloc ?_ _)); refine blk_far ?_ NB366_380.out _; (with_reducible repeat (first | refine blk_drewN ?_ _ | refine blk_drew ?_ | refine blk_alloc ?_ _)); exact BK366.out
                                         have bgb368_ : (((((((w108.setCell ⟨gb380, 0, none⟩ (.int .i64 ((rd_T40 t371 x92_4).f0))).setCell ⟨gb380, 1, none⟩ (.int .i64 ((rd_T40 t371 x92_4).f1))).setCell ⟨gb380, 2, none⟩ (.int .i64 ((rd_T40 t371 x92_4).f2))).setCell ⟨gb380, 3, none⟩ (.int .i64 ((rd_T40 t371 x92_4).f3))).setCell ⟨gb380, 4, none⟩ (.int .i64 ((rd_T40 t371 x92_4).f4))).setCell ⟨gb380, 5, none⟩ (.int .i64 ((rd_T40 t371 x92_4).f5))).setCell ⟨gb380, 6, none⟩ (.int .i64 ((rd_T40 t371 x92_4).f6))).heap[gb368]? = some (.cells #[.int .i64 ((rd_T26 l1 x31_2).f0), .int .i64 ((rd_T26 l1 x31_2).f1), .int .i64 ((rd_T26 l1 x31_2).f2), .bool ((rd_T26 l1 x31_2).f3)] 26 (0, 0)) := by (with_reducible repeat (first | refine blk_drewN ?_ _ | refine blk_drew ?_ | refine blk_alloc ?_ _)); refine blk_far ?_ NB368_380.out _; (with_reducible repeat (first | refine blk_drewN ?_ _ | refine blk_drew ?_ | refine blk_alloc ?_ _)); refine blk_far ?_ NB368_380.out _; (with_reducible repeat (first | refine blk_drewN ?_ _ | refine blk_drew ?_ | refine blk_alloc ?_ _)); refine blk_far ?_ NB368_380.out _; (with_reducible repeat (first | refine blk_drewN ?_ _ | refine blk_drew ?_ | refine blk_alloc ?_ _)); refine blk_far ?_ NB368_380.out _; (with_reducible repeat (first | refine blk_drewN ?_ _ | refine blk_drew ?_ | refine blk_alloc ?_ _)); refine blk_far ?_ NB368_380.out _; (with_reducible repeat (first | refine blk_drewN ?_ _ | refine blk_drew ?_ | refine blk_alloc ?_ _)); refine blk_far ?_ NB368_380.out _; (with_reducible repeat (first | refine blk_drewN ?_ _ | refine blk_drew ?_ | refine blk_alloc ?_ _)); refine blk_far ?_ NB368_380.out _; (with_reducible repeat (first | refine blk_drewN ?_ _ | refine blk_drew ?_ | refine blk_alloc ?_ _)); exact BK368.out
                                         have bgb375_ : (((((((w108.setCell ⟨gb380, 0, none⟩ (.int .i64 ((rd_T40 t371 x92_4).f0))).setCell ⟨gb380, 1, none⟩ (.int .i64 ((rd_T40 t371 x92_4).f1))).setCell ⟨gb380, 2, none⟩ (.int .i64 ((rd_T40 t371 x92_4).f2))).setCell ⟨gb380, 3, none⟩ (.int .i64 ((rd_T40 t371 x92_4).f3))).setCell ⟨gb380, 4, none⟩ (.int .i64 ((rd_T40 t371 x92_4).f4))).setCell ⟨gb380, 5, none⟩ (.int .i64 ((rd_T40 t371 x92_4).f5))).setCell ⟨gb380, 6, none⟩ (.int .i64 ((rd_T40 t371 x92_4).f6))).heap[gb375]? = some (.cells #[.int .i64 t369, .bool t370, .slice (some ad379) t371.length co28] 24 (0, 0)) := by (with_reducible repeat (first | refine blk_drewN ?_ _ | refine blk_drew ?_ | refine blk_alloc ?_ _)); refine blk_far ?_ NB375_380.out _; (with_reducible repeat (first | refine blk_drewN ?_ _ | refine blk_drew ?_ | refine blk_alloc ?_ _)); refine blk_far ?_ NB375_380.out _; (with_reducible repeat (first | refine blk_drewN ?_ _ | refine blk_drew ?_ | refine blk_alloc ?_ _)); refine blk_far ?_ NB375_380.out _; (with_reducible repeat (first | refine blk_drewN ?_ _ | refine blk_drew ?_ | refine blk_alloc ?_ _)); refine blk_far ?_ NB375_380.out _; (with_reducible repeat (first | refine blk_drewN ?_ _ | refine blk_drew ?_ | refine blk_alloc ?_ _)); refine blk_far ?_ NB375_380.out _; (with_reducible repeat (first | refine blk_drewN ?_ _ | refine blk_drew ?_ | refine blk_alloc ?_ _)); refine blk_far ?_ NB375_380.out _; (with_reducible repeat (first | refine blk_drewN ?_ _ | refine blk_drew ?_ | refine blk_alloc ?_ _)); refine blk_far ?_ NB375_380.out _; (with_reducible repeat (first | refine blk_drewN ?_ _ | refine blk_drew ?_ | refine blk_alloc ?_ _)); exact BK375.out
                                         have bgb378_ : (((((((w108.setCell ⟨gb380, 0, none⟩ (.int .i64 ((rd_T40 t371 x92_4).f0))).setCell ⟨gb380, 1, none⟩ (.int .i64 ((rd_T40 t371 x92_4).f1))).setCell ⟨gb380, 2, none⟩ (.int .i64 ((rd_T40 t371 x92_4).f2))).setCell ⟨gb380, 3, none⟩ (.int .i64 ((rd_T40 t371 x92_4).f3))).setCell ⟨gb380, 4, none⟩ (.int .i64 ((rd_T40 t371 x92_4).f4))).setCell ⟨gb380, 5, none⟩ (.int .i64 ((rd_T40 t371 x92_4).f5))).setCell ⟨gb380, 6, none⟩ (.int .i64 ((rd_T40 t371 x92_4).f6))).heap[gb378]? = some (.cells #[.int .i64 ((rd_T40 x367002_2 x92_4).f0), .int .i64 ((rd_T40 x367002_2 x92_4).f1), .int .i64 ((rd_T40 x367002_2 x92_4).f2), .int .i64 ((rd_T40 x367002_2 x92_4).f3), .int .i64 ((rd_T40 x367002_2 x92_4).f4), .int .i64 ((rd_T40 x367002_2 x92_4).f5), .int .i64 ((rd_T40 x367002_2 x92_4).f6)] 40 (0, 0)) := by refine blk_far ?_ NB378_380.out _; refine blk_far ?_ NB378_380.out _; refine blk_far ?_ NB378_380.out _; refine blk_far ?_ NB378_380.out _; refine blk_far ?_ NB378_380.out _; refine blk_far ?_ NB378_380.out _; refine blk_far ?_ NB378_380.out _; exact BK378.out
                                         have bgb380_ : (((((((w108.setCell ⟨gb380, 0, none⟩ (.int .i64 ((rd_T40 t371 x92_4).f0))).setCell ⟨gb380, 1, none⟩ (.int .i64 ((rd_T40 t371 x92_4).f1))).setCell ⟨gb380, 2, none⟩ (.int .i64 ((rd_T40 t371 x92_4).f2))).setCell ⟨gb380, 3, none⟩ (.int .i64 ((rd_T40 t371 x92_4).f3))).setCell ⟨gb380, 4, none⟩ (.int .i64 ((rd_T40 t371 x92_4).f4))).setCell ⟨gb380, 5, none⟩ (.int .i64 ((rd_T40 t371 x92_4).f5))).setCell ⟨gb380, 6, none⟩ (.int .i64 ((rd_T40 t371 x92_4).f6))).heap[gb380]? = some (.cells #[.int .i64 ((rd_T40 t371 x92_4).f0), .int .i64 ((rd_T40 t371 x92_4).f1), .int .i64 ((rd_T40 t371 x92_4).f2), .int .i64 ((rd_T40 t371 x92_4).f3), .int .i64 ((rd_T40 t371 x92_4).f4), .int .i64 ((rd_T40 t371 x92_4).f5), .int .i64 ((rd_T40 t371 x92_4).f6)] 40 (0, 0)) := by refine blk_put (cs := #[.int .i64 ((rd_T40 t371 x92_4).f0), .int .i64 ((rd_T40 t371 x92_4).f1), .int .i64 ((rd_T40 t371 x92_4).f2), .int .i64 ((rd_T40 t371 x92_4).f3), .int .i64 ((rd_T40 t371 x92_4).f4), .int .i64 ((rd_T40 t371 x92_4).f5), .int .i64 0]) ?_ 6 _ rfl; refine blk_put (cs := #[.int .i64 ((rd_T40 t371 x92_4).f0), .int .i64 ((rd_T40 t371 x92_4).f1), .int .i64 ((rd_T40 t371 x92_4).f2), .int .i64 ((rd_T40 t371 x92_4).f3), .int .i64 ((rd_T40 t371 x92_4).f4), .int .i64 0, .int .i64 0]) ?_ 5 _ rfl; refine blk_put (cs := #[.int .i64 ((rd_T40 t371 x92_4).f0), .int .i64 ((rd_T40 t371 x92_4).f1), .int .i64 ((rd_T40 t371 x92_4).f2), .int .i64 ((rd_T40 t371 x92_4).f3), .int .i64 0, .int .i64 0, .int .i64 0]) ?_ 4 _ rfl; refine blk_put (cs := #[.int .i64 ((rd_T40 t371 x92_4).f0), .int .i64 ((rd_T40 t371 x92_4).f1), .int .i64 ((rd_T40 t371 x92_4).f2), .int .i64 0, .int .i64 0, .int .i64 0, .int .i64 0]) ?_ 3 _ rfl; refine blk_put (cs := #[.int .i64 ((rd_T40 t371 x92_4).f0), .int .i64 ((rd_T40 t371 x92_4).f1), .int .i64 0, .int .i64 0, .int .i64 0, .int .i64 0, .int .i64 0]) ?_ 2 _ rfl; refine blk_put (cs := #[.int .i64 ((rd_T40 t371 x92_4).f0), .int .i64 0, .int .i64 0, .int .i64 0, .int .i64 0, .int .i64 0, .int .i64 0]) ?_ 1 _ rfl; refine blk_put (cs := #[.int .i64 0, .int .i64 0, .int .i64 0, .int .i64 0, .int .i64 0, .int .i64 0, .int .i64 0]) ?_ 0 _ rfl; exact BK380.out
                                         have hb_ : Below w.heap.size w (((((((w108.setCell ⟨gb380, 0, none⟩ (.int .i64 ((rd_T40 t371 x92_4).f0))).setCell ⟨gb380, 1, none⟩ (.int .i64 ((rd_T40 t371 x92_4).f1))).setCell ⟨gb380, 2, none⟩ (.int .i64 ((rd_T40 t371 x92_4).f2))).setCell ⟨gb380, 3, none⟩ (.int .i64 ((rd_T40 t371 x92_4).f3))).setCell ⟨gb380, 4, none⟩ (.int .i64 ((rd_T40 t371 x92_4).f4))).setCell ⟨gb380, 5, none⟩ (.int .i64 ((rd_T40 t371 x92_4).f5))).setCell ⟨gb380, 6, none⟩ (.int .i64 ((rd_T40 t371 x92_4).f6))) := by repeat (first | (with_reducible first | exact HB.out | apply below_alloc | apply pw_below_drewN | apply below_drew1 | refine below_set ?_ GE366.out | refine below_set ?_ GE368.out | refine below_set ?_ GE375.out | refine below_set ?_ GE378.out | refine below_set ?_ GE380.out) | exact HB.out)
                                         generalize (((((((w108.setCell ⟨gb380, 0, none⟩ (.int .i64 ((rd_T40 t371 x92_4).f0))).setCell ⟨gb380, 1, none⟩ (.int .i64 ((rd_T40 t371 x92_4).f1))).setCell ⟨gb380, 2, none⟩ (.int .i64 ((rd_T40 t371 x92_4).f2))).setCell ⟨gb380, 3, none⟩ (.int .i64 ((rd_T40 t371 x92_4).f3))).setCell ⟨gb380, 4, none⟩ (.int .i64 ((rd_T40 t371 x92_4).f4))).setCell ⟨gb380, 5, none⟩ (.int .i64 ((rd_T40 t371 x92_4).f5))).setCell ⟨gb380, 6, none⟩ (.int .i64 ((rd_T40 t371 x92_4).f6))) = w9_ at q0_ q1_ q2_ bgb366_ bgb368_ bgb375_ bgb378_ bgb380_ hb_ ⊢
                                         have ygb378_0 : w9_.cell? ⟨gb378, 0, none⟩ = some (.int .i64 ((rd_T40 x367002_2 x92_4).f0)) := (blk_cell bgb378_ 0).trans rfl
                                         have ygb378_1 : w9_.cell? ⟨gb378, 1, none⟩ = some (.int .i64 ((rd_T40 x367002_2 x92_4).f1)) := (blk_cell bgb378_ 1).trans rfl
                                         have ygb378_2 : w9_.cell? ⟨gb378, 2, none⟩ = some (.int .i64 ((rd_T40 x367002_2 x92_4).f2)) := (blk_cell bgb378_ 2).trans rfl
                                         have ygb378_3 : w9_.cell? ⟨gb378, 3, none⟩ = some (.int .i64 ((rd_T40 x367002_2 x92_4).f3)) := (blk_cell bgb378_ 3).trans rfl
                                         have ygb378_4 : w9_.cell? ⟨gb378, 4, none⟩ = some (.int .i64 ((rd_T40 x367002_2 x92_4).f4)) := (blk_cell bgb378_ 4).trans rfl
                                         have ygb378_5 : w9_.cell? ⟨gb378, 5, none⟩ = some (.int .i64 ((rd_T40 x367002_2 x92_4).f5)) := (blk_cell bgb378_ 5).trans rfl
                                         have ygb378_6 : w9_.cell? ⟨gb378, 6, none⟩ = some (.int .i64 ((rd_T40 x367002_2 x92_4).f6)) := (blk_cell bgb378_ 6).trans rfl
                                         have ygb380_0 : w9_.cell? ⟨gb380, 0, none⟩ = some (.int .i64 ((rd_T40 t371 x92_4).f0)) := (blk_cell bgb380_ 0).trans rfl
                                         have ygb380_1 : w9_.cell? ⟨gb380, 1, none⟩ = some (.int .i64 ((rd_T40 t371 x92_4).f1)) := (blk_cell bgb380_ 1).trans rfl
                                         have ygb380_2 : w9_.cell? ⟨gb380, 2, none⟩ = some (.int .i64 ((rd_T40 t371 x92_4).f2)) := (blk_cell bgb380_ 2).trans rfl
                                         have ygb380_3 : w9_.cell? ⟨gb380, 3, none⟩ = some (.int .i64 ((rd_T40 t371 x92_4).f3)) := (blk_cell bgb380_ 3).trans rfl
                                         have ygb380_4 : w9_.cell? ⟨gb380, 4, none⟩ = some (.int .i64 ((rd_T40 t371 x92_4).f4)) := (blk_cell bgb380_ 4).trans rfl
                                         have ygb380_5 : w9_.cell? ⟨gb380, 5, none⟩ = some (.int .i64 ((rd_T40 t371 x92_4).f5)) := (blk_cell bgb380_ 5).trans rfl
                                         have ygb380_6 : w9_.cell? ⟨gb380, 6, none⟩ = some (.int .i64 ((rd_T40 t371 x92_4).f6)) := (blk_cell bgb380_ 6).trans rfl
                                         go_wp2_with (fail)
                                         go_roundg k4
                                         case measure => have := HJ4.out; have := HK2.out; have := HJ16.out; have := HK4.out; omega
                                         case rel => exact ⟨(wrap64 (x92_4 + 1)), (by first | rfl | (simp; done) | (simp [*]; done)), H', ⟨by have := HJ4.out; have := HK2.out; have := HJ16.out; have := HK4.out; omega⟩, ⟨by (with_reducible repeat (first | apply Kd.R_alloc | apply Kd.R_drewN | apply Kd.R_drew)); exact Kd.R_mono q0_ (fun _ hk => hk.1.1.1)⟩, ⟨by (with_reducible repeat (first | apply Kd.R_alloc | apply Kd.R_drewN | apply Kd.R_drew)); exact Kd.R_mono q1_ (fun _ hk => hk.1.1.1)⟩, ⟨by (with_reducible repeat (first | apply Kd.R_alloc | apply Kd.R_drewN | apply Kd.R_drew)); exact Kd.R_mono q2_ (fun _ hk => ⟨hk.1.1.1.1, hk.1.1.1.2⟩)⟩, ⟨by (with_reducible repeat (first | refine blk_drewN ?_ _ | refine blk_drew ?_ | refine blk_alloc ?_ _)); exact bgb366_⟩, ⟨by (with_reducible repeat (first | refine blk_drewN ?_ _ | refine blk_drew ?_ | refine blk_alloc ?_ _)); exact bgb368_⟩, ⟨by (with_reducible repeat (first | refine blk_drewN ?_ _ | refine blk_drew ?_ | refine blk_alloc ?_ _)); exact bgb375_⟩, ⟨by repeat (first | (with_reducible first | exact hb_ | apply below_alloc | apply pw_below_drewN | apply below_drew1) | exact hb_)⟩⟩
                                     · rw [if_neg c98] at H
                                       exact absurd H (by simp)
                                   · rw [if_neg c97] at H
                                     exact absurd H (by simp)
                             · rw [if_neg c74] at H
                               exact absurd H (by simp)
                           · rw [if_neg c73] at H
                             exact absurd H (by simp)
                         · rw [if_neg c72] at H
                           exact absurd H (by simp)
                       · rw [if_neg c71] at H
                         have c71b0 : decide (x92_4 < (x367002_2.length : Int)) = false := decide_eq_false c71
                         clear c71
                         replace H := Option.bind_eq_some_iff.mp H
                         obtain ⟨t381, A1150, H⟩ := H
                         replace H : ((toc_Sessions.f k4 t369 t370 t371).bind fun t384 => (if (t381.length : Int) < x367000_2 then (none) else (if (t384.length : Int) < x367000_2 then (none) else (if 0 ≤ x367000_2 then (if x367000_2 ≤ (t381.length : Int) then (if x367000_2 ≤ (t384.length : Int) then ((api_Session.f k4 (t381.take (x367000_2 : Int).toNat) (t384.take (x367000_2 : Int).toNat)).bind fun t395 => (if t395 = true then (masterdisclaw14_TocKeeps.l0 k4 a0 l1 (l1.length : Int) (wrap64 (x31_2 + 1)) t369 t370 t371) else (none))) else (none)) else (none)) else (none))))) = some r := H
                         have A115 := Aside0.mk A1150
                         clear A1150
                         replace H := Option.bind_eq_some_iff.mp H
                         obtain ⟨t384, A1160, H⟩ := H
                         replace H : (if (t381.length : Int) < x367000_2 then (none) else (if (t384.length : Int) < x367000_2 then (none) else (if 0 ≤ x367000_2 then (if x367000_2 ≤ (t381.length : Int) then (if x367000_2 ≤ (t384.length : Int) then ((api_Session.f k4 (t381.take (x367000_2 : Int).toNat) (t384.take (x367000_2 : Int).toNat)).bind fun t395 => (if t395 = true then (masterdisclaw14_TocKeeps.l0 k4 a0 l1 (l1.length : Int) (wrap64 (x31_2 + 1)) t369 t370 t371) else (none))) else (none)) else (none)) else (none)))) = some r := H
                         have A116 := Aside0.mk A1160
                         clear A1160
                         by_cases c117 : (t381.length : Int) < x367000_2
                         · rw [if_pos c117] at H
                           have c117b0 : decide ((t381.length : Int) < x367000_2) = true := decide_eq_true c117
                           clear c117
                           exact absurd H (by simp)
                         · rw [if_neg c117] at H
                           have c117b0 : decide ((t381.length : Int) < x367000_2) = false := decide_eq_false c117
                           clear c117
                           by_cases c118 : (t384.length : Int) < x367000_2
                           · rw [if_pos c118] at H
                             have c118b0 : decide ((t384.length : Int) < x367000_2) = true := decide_eq_true c118
                             clear c118
                             exact absurd H (by simp)
                           · rw [if_neg c118] at H
                             have c118b0 : decide ((t384.length : Int) < x367000_2) = false := decide_eq_false c118
                             clear c118
                             by_cases c119 : 0 ≤ x367000_2
                             · rw [if_pos c119] at H
                               have c119b0 := eq_true c119
                               have c119b1 : decide (0 ≤ x367000_2) = true := decide_eq_true c119
                               clear c119
                               by_cases c120 : x367000_2 ≤ (t381.length : Int)
                               · rw [if_pos c120] at H
                                 have c120b0 := eq_true c120
                                 have c120b1 : decide (x367000_2 ≤ (t381.length : Int)) = true := decide_eq_true c120
                                 clear c120
                                 obtain ⟨y387, hy387⟩ : ∃ y_ : List (S46), y_ = (t381.take (x367000_2 : Int).toNat) := ⟨_, rfl⟩
                                 replace H : (if x367000_2 ≤ (t384.length : Int) then ((api_Session.f k4 y387 (t384.take (x367000_2 : Int).toNat)).bind fun t395 => (if t395 = true then (masterdisclaw14_TocKeeps.l0 k4 a0 l1 (l1.length : Int) (wrap64 (x31_2 + 1)) t369 t370 t371) else (none))) else (none)) = some r := by first | (rw [hy387]; with_reducible exact H) | (have H2_ := (Option.bind_some _ _).symm.trans H; rw [hy387]; with_reducible exact H2_) | (have H2_ := (Option.bind_some _ _).symm.trans H; with_reducible exact H2_) | with_reducible exact H | (rw [hy387]; exact H) | exact H
                                 have Ny387 := Aside0.mk hy387
                                 clear hy387
                                 have c121b0 := eq_true (of_decide_eq_true (by first | (with_reducible assumption) | assumption) : 0 ≤ x367000_2)
                                 by_cases c122 : x367000_2 ≤ (t384.length : Int)
                                 · rw [if_pos c122] at H
                                   have c122b0 := eq_true c122
                                   have c122b1 : decide (x367000_2 ≤ (t384.length : Int)) = true := decide_eq_true c122
                                   clear c122
                                   obtain ⟨y391, hy391⟩ : ∃ y_ : List (S46), y_ = (t384.take (x367000_2 : Int).toNat) := ⟨_, rfl⟩
                                   replace H : ((api_Session.f k4 y387 y391).bind fun t395 => (if t395 = true then (masterdisclaw14_TocKeeps.l0 k4 a0 l1 (l1.length : Int) (wrap64 (x31_2 + 1)) t369 t370 t371) else (none))) = some r := by first | (rw [hy391]; with_reducible exact H) | (have H2_ := (Option.bind_some _ _).symm.trans H; rw [hy391]; with_reducible exact H2_) | (have H2_ := (Option.bind_some _ _).symm.trans H; with_reducible exact H2_) | with_reducible exact H | (rw [hy391]; exact H) | exact H
                                   have Ny391 := Aside0.mk hy391
                                   clear hy391
                                   replace H := Option.bind_eq_some_iff.mp H
                                   obtain ⟨t395, A1230, H⟩ := H
                                   replace H : (if t395 = true then (masterdisclaw14_TocKeeps.l0 k4 a0 l1 (l1.length : Int) (wrap64 (x31_2 + 1)) t369 t370 t371) else (none)) = some r := H
                                   have A123 := Aside0.mk A1230
                                   clear A1230
                                   by_cases c124 : t395 = true
                                   · subst c124
                                     have H1 : (masterdisclaw14_TocKeeps.l0 k4 a0 l1 (l1.length : Int) (wrap64 (x31_2 + 1)) t369 t370 t371) = some r := by rw [if_pos rfl] at H; exact H
                                     clear H
                                     have H := H1
                                     clear H1
                                     have H' := Aside0.mk H
                                     clear H
                                     try go_wp2
                                     have n0_ := Aside0.mk (Kd.R_drew HO_90.out)
                                     have n1_ := Aside0.mk (Kd.R_drew HO_367002.out)
                                     have n2_ := Aside0.mk (Kd.R_drew HO_376002.out)
                                     have n3_ := Aside0.mk (blk_drew BK366.out)
                                     have n4_ := Aside0.mk (blk_drew BK368.out)
                                     have n5_ := Aside0.mk (blk_drew BK375.out)
                                     have n6_ := Aside0.mk (below_drew1 HB.out)
                                     clear HO_90
                                     clear HO_367002
                                     clear HO_376002
                                     clear BK366
                                     clear BK368
                                     clear BK375
                                     clear HB
                                     have HO_90 := n0_
                                     have HO_367002 := n1_
                                     have HO_376002 := n2_
                                     have BK366 := n3_
                                     have BK368 := n4_
                                     have BK375 := n5_
                                     have HB := n6_
                                     clear n0_ n1_ n2_ n3_ n4_ n5_ n6_
                                     refine start_ (n := 6) (S := fun w' => w'.cell? ⟨gb366, 0, none⟩ = some (.int .i64 x367000_2) ∧ w'.cell? ⟨gb366, 1, none⟩ = some (.bool x367001_2) ∧ w'.cell? ⟨gb366, 2, none⟩ = some (.slice Ao22 x367002_2.length co22) ∧ w'.cell? ⟨gb375, 0, none⟩ = some (.int .i64 t369) ∧ w'.cell? ⟨gb375, 1, none⟩ = some (.bool t370) ∧ w'.cell? ⟨gb375, 2, none⟩ = some (.slice Ao28 t371.length co28)) (ds := []) #[false, false, false, false, false, false] (by kernel_rfl) rfl rfl ⟨(blk_cell BK366.out 0).trans rfl, (blk_cell BK366.out 1).trans rfl, (blk_cell BK366.out 2).trans rfl, (blk_cell BK375.out 0).trans rfl, (blk_cell BK375.out 1).trans rfl, (blk_cell BK375.out 2).trans rfl⟩ (fun hHeld => ?_)
                                     generalize wr.drew = w125 at HO_90 HO_367002 HO_376002 BK366 BK368 BK375 HB hHeld ⊢
                                     refine take_ (i := 0) (N := some 139) (v := ?_) (a' := ?_) #[true, false, false, false, false, false] rfl rfl (by kernel_rfl) (fun _ _ _ h => h) (Or.inl ⟨by rfl, ?_⟩) hHeld ?_ ?_
                                     rotate_left
                                     · rintro w' ⟨s0, s1, s2, s3, s4, s5⟩
                                       go_simp
                                       with_reducible rfl
                                     rotate_left
                                     · simp only [Act.put, List.setIfInBounds_toArray, List.set_cons_zero, List.set_cons_succ, i64_w, i32_w]
                                       rfl
                                     refine take_ (i := 2) (N := some 141) (v := ?_) (a' := ?_) #[true, false, true, false, false, false] rfl rfl (by kernel_rfl) (fun _ _ _ h => h) (Or.inl ⟨by rfl, ?_⟩) hHeld ?_ ?_
                                     rotate_left
                                     · rintro w' ⟨s0, s1, s2, s3, s4, s5⟩
                                       go_simp
                                       with_reducible rfl
                                     rotate_left
                                     · simp only [Act.put, List.setIfInBounds_toArray, List.set_cons_zero, List.set_cons_succ, i64_w, i32_w]
                                       rfl
                                     refine one_ (i := 1) (N := some 140) #[true, true, true, false, false, false] rfl rfl (by kernel_rfl) (by decide) (fun K hK => ?_)
                                     refine goes_ Try.func14 (by kernel_rfl) rfl #[.agg #[.int .i64 x367000_2, .bool x367001_2, .slice Ao22 x367002_2.length co22]] (by rfl) rfl rfl (by (try simp only [List.map_toArray, List.map_cons, List.map_nil]); first | done | rfl | (simp only [List.length_drop, List.length_take]; rfl)) ?_
                                     with_reducible refine (toc_Sessions.calls k4 x367000_2 x367001_2 _ _ x367002_2 t381 _ ?side1 ?side2 A115.out).mono ?_
                                     (case side1 => repeat (first | exact (Kd.R_reads' HO_367002.out).2.2 | (with_reducible refine Kd.C_alloc ?_ _) | (with_reducible refine Kd.C_drewN ?_ _) | (with_reducible refine Kd.C_drew ?_)))
                                     (case side2 => exact (Kd.R_reads' HO_367002.out).2.1)
                                     rintro e w126 ⟨v382, rfl, ho0, hb⟩
                                     refine ⟨_, rfl, ?_⟩
                                     have n0_ := Aside0.mk (Kd.R_below (by (with_reducible repeat (first | apply Kd.R_alloc | apply Kd.R_drewN | apply Kd.R_drew)); exact HO_90.out) hb)
                                     have n1_ := Aside0.mk (Kd.R_below (by (with_reducible repeat (first | apply Kd.R_alloc | apply Kd.R_drewN | apply Kd.R_drew)); exact HO_367002.out) hb)
                                     have n2_ := Aside0.mk (Kd.R_below (by (with_reducible repeat (first | apply Kd.R_alloc | apply Kd.R_drewN | apply Kd.R_drew)); exact HO_376002.out) hb)
                                     have n3_ := Aside0.mk (Kd.R_lower ho0 (below_size (by repeat (first | (with_reducible first | exact HB.out | apply below_alloc | apply pw_below_drewN | apply below_drew1 | refine below_set ?_ GE366.out | refine below_set ?_ GE368.out | refine below_set ?_ GE375.out) | exact HB.out))))
                                     have n4_ := Aside0.mk (blk_below (g := gb366) (o := .cells #[.int .i64 x367000_2, .bool x367001_2, .slice Ao22 x367002_2.length co22] 24 (0, 0)) (by (with_reducible repeat (first | refine blk_drewN ?_ _ | refine blk_drew ?_ | refine blk_alloc ?_ _)); exact BK366.out) hb)
                                     have n5_ := Aside0.mk (blk_below (g := gb368) (o := .cells #[.int .i64 ((rd_T26 l1 x31_2).f0), .int .i64 ((rd_T26 l1 x31_2).f1), .int .i64 ((rd_T26 l1 x31_2).f2), .bool ((rd_T26 l1 x31_2).f3)] 26 (0, 0)) (by (with_reducible repeat (first | refine blk_drewN ?_ _ | refine blk_drew ?_ | refine blk_alloc ?_ _)); exact BK368.out) hb)
                                     have n6_ := Aside0.mk (blk_below (g := gb375) (o := .cells #[.int .i64 t369, .bool t370, .slice Ao28 t371.length co28] 24 (0, 0)) (by (with_reducible repeat (first | refine blk_drewN ?_ _ | refine blk_drew ?_ | refine blk_alloc ?_ _)); exact BK375.out) hb)
                                     have n7_ := Aside0.mk (below_step (by repeat (first | (with_reducible first | exact HB.out | apply below_alloc | apply pw_below_drewN | apply below_drew1 | refine below_set ?_ GE366.out | refine below_set ?_ GE368.out | refine below_set ?_ GE375.out) | exact HB.out)) hb)
                                     clear HO_90
                                     clear HO_367002
                                     clear HO_376002
                                     clear BK366
                                     clear BK368
                                     clear BK375
                                     clear HB
                                     have HO_90 := n0_
                                     have HO_367002 := n1_
                                     have HO_376002 := n2_
                                     have HO383 := n3_
                                     have BK366 := n4_
                                     have BK368 := n5_
                                     have BK375 := n6_
                                     have HB := n7_
                                     clear n0_ n1_ n2_ n3_ n4_ n5_ n6_ n7_
                                     (try clear hb)
                                     (try clear hb2)
                                     (try clear hk)
                                     (try clear hi)
                                     (try clear ho0)
                                     refine hK.out _ _ ⟨(blk_cell BK366.out 0).trans rfl, (blk_cell BK366.out 1).trans rfl, (blk_cell BK366.out 2).trans rfl, (blk_cell BK375.out 0).trans rfl, (blk_cell BK375.out 1).trans rfl, (blk_cell BK375.out 2).trans rfl⟩ (fun hHeld => ?_)
                                     clear hK K
                                     refine norm_ (a' := ?_) ?_ ?_
                                     rotate_left
                                     · show Act.put _ (some 140) _ = _
                                       simp only [Act.put, List.setIfInBounds_toArray, List.set_cons_zero, List.set_cons_succ, i64_w, i32_w]
                                       rfl
                                     refine one_ (i := 3) (N := some 142) #[true, true, true, true, false, false] rfl rfl (by kernel_rfl) (by decide) (fun K hK => ?_)
                                     refine goes_ Try.func14 (by kernel_rfl) rfl #[.agg #[.int .i64 t369, .bool t370, .slice Ao28 t371.length co28]] (by rfl) rfl rfl (by (try simp only [List.map_toArray, List.map_cons, List.map_nil]); first | done | rfl | (simp only [List.length_drop, List.length_take]; rfl)) ?_
                                     with_reducible refine (toc_Sessions.calls k4 t369 t370 _ _ t371 t384 _ ?side1 ?side2 A116.out).mono ?_
                                     (case side1 => repeat (first | exact (Kd.R_reads' HO_376002.out).2.2 | (with_reducible refine Kd.C_alloc ?_ _) | (with_reducible refine Kd.C_drewN ?_ _) | (with_reducible refine Kd.C_drew ?_)))
                                     (case side2 => exact (Kd.R_reads' HO_376002.out).2.1)
                                     rintro e w127 ⟨v385, rfl, ho0, hb⟩
                                     refine ⟨_, rfl, ?_⟩
                                     have n0_ := Aside0.mk (Kd.R_below (by (with_reducible repeat (first | apply Kd.R_alloc | apply Kd.R_drewN | apply Kd.R_drew)); exact HO_90.out) hb)
                                     have n1_ := Aside0.mk (Kd.R_below (by (with_reducible repeat (first | apply Kd.R_alloc | apply Kd.R_drewN | apply Kd.R_drew)); exact HO_367002.out) hb)
                                     have n2_ := Aside0.mk (Kd.R_below (by (with_reducible repeat (first | apply Kd.R_alloc | apply Kd.R_drewN | apply Kd.R_drew)); exact HO_376002.out) hb)
                                     have n3_ := Aside0.mk (Kd.R_elder' (by (with_reducible repeat (first | apply Kd.R_alloc | apply Kd.R_drewN | apply Kd.R_drew)); exact HO383.out) (Kd.R_base ho0) hb)
                                     have n4_ := Aside0.mk (Kd.R_lower (Kd.R_new' ho0 (Kd.R_lt (by (with_reducible repeat (first | apply Kd.R_alloc | apply Kd.R_drewN | apply Kd.R_drew)); exact HO383.out))) (below_size (by repeat (first | (with_reducible first | exact HB.out | apply below_alloc | apply pw_below_drewN | apply below_drew1 | refine below_set ?_ GE366.out | refine below_set ?_ GE368.out | refine below_set ?_ GE375.out) | exact HB.out))))
                                     have n5_ := Aside0.mk (blk_below (g := gb366) (o := .cells #[.int .i64 x367000_2, .bool x367001_2, .slice Ao22 x367002_2.length co22] 24 (0, 0)) (by (with_reducible repeat (first | refine blk_drewN ?_ _ | refine blk_drew ?_ | refine blk_alloc ?_ _)); exact BK366.out) hb)
                                     have n6_ := Aside0.mk (blk_below (g := gb368) (o := .cells #[.int .i64 ((rd_T26 l1 x31_2).f0), .int .i64 ((rd_T26 l1 x31_2).f1), .int .i64 ((rd_T26 l1 x31_2).f2), .bool ((rd_T26 l1 x31_2).f3)] 26 (0, 0)) (by (with_reducible repeat (first | refine blk_drewN ?_ _ | refine blk_drew ?_ | refine blk_alloc ?_ _)); exact BK368.out) hb)
                                     have n7_ := Aside0.mk (blk_below (g := gb375) (o := .cells #[.int .i64 t369, .bool t370, .slice Ao28 t371.length co28] 24 (0, 0)) (by (with_reducible repeat (first | refine blk_drewN ?_ _ | refine blk_drew ?_ | refine blk_alloc ?_ _)); exact BK375.out) hb)
                                     have n8_ := Aside0.mk (below_step (by repeat (first | (with_reducible first | exact HB.out | apply below_alloc | apply pw_below_drewN | apply below_drew1 | refine below_set ?_ GE366.out | refine below_set ?_ GE368.out | refine below_set ?_ GE375.out) | exact HB.out)) hb)
                                     clear HO_90
                                     clear HO_367002
                                     clear HO_376002
                                     clear HO383
                                     clear BK366
                                     clear BK368
                                     clear BK375
                                     clear HB
                                     have HO_90 := n0_
                                     have HO_367002 := n1_
                                     have HO_376002 := n2_
                                     have HO383 := n3_
                                     have HO386 := n4_
                                     have BK366 := n5_
                                     have BK368 := n6_
                                     have BK375 := n7_
                                     have HB := n8_
                                     clear n0_ n1_ n2_ n3_ n4_ n5_ n6_ n7_ n8_
                                     (try clear hb)
                                     (try clear hb2)
                                     (try clear hk)
                                     (try clear hi)
                                     (try clear ho0)
                                     refine hK.out _ _ ⟨(blk_cell BK366.out 0).trans rfl, (blk_cell BK366.out 1).trans rfl, (blk_cell BK366.out 2).trans rfl, (blk_cell BK375.out 0).trans rfl, (blk_cell BK375.out 1).trans rfl, (blk_cell BK375.out 2).trans rfl⟩ (fun hHeld => ?_)
                                     clear hK K
                                     refine norm_ (a' := ?_) ?_ ?_
                                     rotate_left
                                     · show Act.put _ (some 142) _ = _
                                       simp only [Act.put, List.setIfInBounds_toArray, List.set_cons_zero, List.set_cons_succ, i64_w, i32_w]
                                       rfl
                                     refine pure_ (i := 4) (N := some 13) (v := ?_) (a' := ?_) #[true, true, true, true, true, false] rfl rfl (by kernel_rfl) (fun _ _ _ h => h) (Or.inl ⟨by rfl, ?_⟩) ?_ ?_
                                     rotate_left
                                     · intro w'
                                       go_simp
                                       with_reducible rfl
                                     rotate_left
                                     · simp only [Act.put, List.setIfInBounds_toArray, List.set_cons_zero, List.set_cons_succ, i64_w, i32_w]
                                       rfl
                                     refine pure_ (i := 5) (N := some 14) (v := ?_) (a' := ?_) #[true, true, true, true, true, true] rfl rfl (by kernel_rfl) (fun _ _ _ h => h) (Or.inl ⟨by rfl, ?_⟩) ?_ ?_
                                     rotate_left
                                     · intro w'
                                       go_simp
                                       with_reducible rfl
                                     rotate_left
                                     · simp only [Act.put, List.setIfInBounds_toArray, List.set_cons_zero, List.set_cons_succ, i64_w, i32_w]
                                       rfl
                                     refine done_ (by kernel_rfl) ?_
                                     try go_wp2
                                     have n0_ := Aside0.mk (Kd.R_drew HO_90.out)
                                     have n1_ := Aside0.mk (Kd.R_drew HO_367002.out)
                                     have n2_ := Aside0.mk (Kd.R_drew HO_376002.out)
                                     have n3_ := Aside0.mk (Kd.R_drew HO383.out)
                                     have n4_ := Aside0.mk (Kd.R_drew HO386.out)
                                     have n5_ := Aside0.mk (blk_drew BK366.out)
                                     have n6_ := Aside0.mk (blk_drew BK368.out)
                                     have n7_ := Aside0.mk (blk_drew BK375.out)
                                     have n8_ := Aside0.mk (below_drew1 HB.out)
                                     clear HO_90
                                     clear HO_367002
                                     clear HO_376002
                                     clear HO383
                                     clear HO386
                                     clear BK366
                                     clear BK368
                                     clear BK375
                                     clear HB
                                     have HO_90 := n0_
                                     have HO_367002 := n1_
                                     have HO_376002 := n2_
                                     have HO383 := n3_
                                     have HO386 := n4_
                                     have BK366 := n5_
                                     have BK368 := n6_
                                     have BK375 := n7_
                                     have HB := n8_
                                     clear n0_ n1_ n2_ n3_ n4_ n5_ n6_ n7_ n8_
                                     obtain ⟨Ao129, co129, eo129⟩ := Kd.R_slice HO383.out
                                     (first | subst eo129 | (injection eo129 with f1_ f2_ f3_; have f4_ := f1_.symm; have f5_ := f3_.symm; clear f1_ f2_ f3_; subst f4_; subst f5_))
                                     obtain ⟨Ao130, co130, eo130⟩ := Kd.R_slice HO386.out
                                     (first | subst eo130 | (injection eo130 with f1_ f2_ f3_; have f4_ := f1_.symm; have f5_ := f3_.symm; clear f1_ f2_ f3_; subst f4_; subst f5_))
                                     have q131 : (x367000_2 : Int) ≤ ((t381.length : Int) : Int) := of_decide_eq_true (by first | (with_reducible assumption) | assumption)
                                     obtain ⟨i0131, hi0131, _, hsz131, _⟩ := info_parts info46
                                     have hroom131 : t381.length ≤ co129 := (Kd.R_reads' HO383.out).2.1
                                     have hC131 : Kd.C k46 _ Ao129 t381.length t381 := (Kd.R_reads' HO383.out).2.2
                                     have hcut131 := cut_to (P := Try.prog) 42 46 .i64 Try.underlying42 hi0131 Ao129 t381.length co129 x367000_2 (of_decide_eq_true (by first | (with_reducible assumption) | assumption)) q131 hroom131
                                     have hr131 := Kd.C_take (m := (x367000_2 : Int).toNat) hC131 (by omega)
                                     have hy131 : y387.length = (x367000_2 : Int).toNat := (by rw [Ny387.out, List.length_take]; omega)
                                     rw [← Ny387.out] at hr131
                                     rw [← hy131] at hcut131
                                     have HR390 := Aside0.mk hr131
                                     have HC390 := Aside0.mk (show y387.length ≤ co129 from by omega)
                                     clear hr131 hC131 hroom131 hi0131 hsz131
                                     have KY131 := Aside0.mk hy131
                                     clear hy131
                                     have KL131 := Aside0.mk (show (x367000_2 : Int).toNat ≤ t381.length from by omega)
                                     replace q131 := eq_true q131
                                     have q132 : (x367000_2 : Int) ≤ ((t384.length : Int) : Int) := of_decide_eq_true (by first | (with_reducible assumption) | assumption)
                                     obtain ⟨i0132, hi0132, _, hsz132, _⟩ := info_parts info46
                                     have hroom132 : t384.length ≤ co130 := (Kd.R_reads' HO386.out).2.1
                                     have hC132 : Kd.C k46 _ Ao130 t384.length t384 := (Kd.R_reads' HO386.out).2.2
                                     have hcut132 := cut_to (P := Try.prog) 42 46 .i64 Try.underlying42 hi0132 Ao130 t384.length co130 x367000_2 (of_decide_eq_true (by first | (with_reducible assumption) | assumption)) q132 hroom132
                                     have hr132 := Kd.C_take (m := (x367000_2 : Int).toNat) hC132 (by omega)
                                     have hy132 : y391.length = (x367000_2 : Int).toNat := (by rw [Ny391.out, List.length_take]; omega)
                                     rw [← Ny391.out] at hr132
                                     rw [← hy132] at hcut132
                                     have HR394 := Aside0.mk hr132
                                     have HC394 := Aside0.mk (show y391.length ≤ co130 from by omega)
                                     clear hr132 hC132 hroom132 hi0132 hsz132
                                     have KY132 := Aside0.mk hy132
                                     clear hy132
                                     have KL132 := Aside0.mk (show (x367000_2 : Int).toNat ≤ t384.length from by omega)
                                     replace q132 := eq_true q132
                                     refine start_ (n := 24) (S := fun w' => w'.cell? ⟨gb366, 0, none⟩ = some (.int .i64 x367000_2) ∧ w'.cell? ⟨gb366, 1, none⟩ = some (.bool x367001_2) ∧ w'.cell? ⟨gb366, 2, none⟩ = some (.slice Ao22 x367002_2.length co22)) (ds := []) #[false, false, false, false, false, false, false, false, false, false, false, false, false, false, false, false, false, false, false, false, false, false, false, false] (by kernel_rfl) rfl rfl ⟨(blk_cell BK366.out 0).trans rfl, (blk_cell BK366.out 1).trans rfl, (blk_cell BK366.out 2).trans rfl⟩ (fun hHeld => ?_); refine with_tabW masterdisclaw14_TocKeeps.tab23 masterdisclaw14_TocKeeps.bits23 (fun HT_ HW_ => ?_)
                                     generalize w127.drew = w128 at HO_90 HO_367002 HO_376002 HO383 HO386 BK366 BK368 BK375 HB HR390 HR394 hHeld ⊢
                                     refine pure_ (i := 0) (N := some 143) (v := ?_) (a' := ?_) #[true, false, false, false, false, false, false, false, false, false, false, false, false, false, false, false, false, false, false, false, false, false, false, false] rfl rfl (any_of HT_.out (by kernel_rfl)) (fun _ _ _ h => h) (Or.inl ⟨by rfl, ?_⟩) ?_ ?_
                                     rotate_left
                                     · intro w'
                                       go_simp
                                       with_reducible rfl
                                     rotate_left
                                     · simp only [Act.put, List.setIfInBounds_toArray, List.set_cons_zero, List.set_cons_succ, i64_w, i32_w]
                                       rfl
                                     refine pure_ (i := 1) (N := some 144) (v := ?_) (a' := ?_) #[true, true, false, false, false, false, false, false, false, false, false, false, false, false, false, false, false, false, false, false, false, false, false, false] rfl rfl (any_of HT_.out (by kernel_rfl)) (fun _ _ _ h => h) (Or.inl ⟨by rfl, ?_⟩) ?_ ?_
                                     rotate_left
                                     · intro w'
                                       go_simp
                                       with_reducible rfl
                                     rotate_left
                                     · simp only [Act.put, List.setIfInBounds_toArray, List.set_cons_zero, List.set_cons_succ, i64_w, i32_w]
                                       rfl
                                     refine pure_ (i := 2) (N := some 145) (v := ?_) (a' := ?_) #[true, true, true, false, false, false, false, false, false, false, false, false, false, false, false, false, false, false, false, false, false, false, false, false] rfl rfl (any_of HT_.out (by kernel_rfl)) (fun _ _ _ h => h) (Or.inl ⟨by rfl, ?_⟩) ?_ ?_
                                     rotate_left
                                     · intro w'
                                       go_simp
                                       with_reducible rfl
                                     rotate_left
                                     · simp only [Act.put, List.setIfInBounds_toArray, List.set_cons_zero, List.set_cons_succ, i64_w, i32_w]
                                       rfl
                                     refine take_ (i := 3) (N := some 146) (v := ?_) (a' := ?_) #[true, true, true, true, false, false, false, false, false, false, false, false, false, false, false, false, false, false, false, false, false, false, false, false] rfl rfl (take_ofW HT_.out HW_.out (by kernel_rfl)) (fun _ _ _ h => h) (Or.inl ⟨by rfl, ?_⟩) hHeld ?_ ?_
                                     rotate_left
                                     · rintro w' ⟨s0, s1, s2⟩
                                       go_simp
                                       with_reducible rfl
                                     rotate_left
                                     · simp only [Act.put, List.setIfInBounds_toArray, List.set_cons_zero, List.set_cons_succ, i64_w, i32_w]
                                       rfl
                                     refine pure_ (i := 4) (N := some 147) (v := ?_) (a' := ?_) #[true, true, true, true, true, false, false, false, false, false, false, false, false, false, false, false, false, false, false, false, false, false, false, false] rfl rfl (any_of HT_.out (by kernel_rfl)) (fun _ _ _ h => h) (Or.inl ⟨by rfl, ?_⟩) ?_ ?_
                                     rotate_left
                                     · intro w'
                                       go_simp
                                       with_reducible rfl
                                     rotate_left
                                     · simp only [Act.put, List.setIfInBounds_toArray, List.set_cons_zero, List.set_cons_succ, i64_w, i32_w]
                                       rfl
                                     refine pure_ (i := 5) (N := some 148) (v := ?_) (a' := ?_) #[true, true, true, true, true, true, false, false, false, false, false, false, false, false, false, false, false, false, false, false, false, false, false, false] rfl rfl (any_of HT_.out (by kernel_rfl)) (fun _ _ _ h => h) (Or.inl ⟨by rfl, ?_⟩) ?_ ?_
                                     rotate_left
                                     · intro w'
                                       go_simp
                                       with_reducible rfl
                                     rotate_left
                                     · simp only [Act.put, List.setIfInBounds_toArray, List.set_cons_zero, List.set_cons_succ, i64_w, i32_w]
                                       rfl
                                     refine pure_ (i := 6) (N := some 149) (v := ?_) (a' := ?_) #[true, true, true, true, true, true, true, false, false, false, false, false, false, false, false, false, false, false, false, false, false, false, false, false] rfl rfl (any_of HT_.out (by kernel_rfl)) (fun _ _ _ h => h) (Or.inl ⟨by rfl, ?_⟩) ?_ ?_
                                     rotate_left
                                     · intro w'
                                       go_simp
                                       with_reducible rfl
                                     rotate_left
                                     · simp only [Act.put, List.setIfInBounds_toArray, List.set_cons_zero, List.set_cons_succ, i64_w, i32_w]
                                       rfl
                                     refine pure_ (i := 7) (N := some 150) (v := ?_) (a' := ?_) #[true, true, true, true, true, true, true, true, false, false, false, false, false, false, false, false, false, false, false, false, false, false, false, false] rfl rfl (any_of HT_.out (by kernel_rfl)) (fun _ _ _ h => h) (Or.inl ⟨by rfl, ?_⟩) ?_ ?_
                                     rotate_left
                                     · intro w'
                                       go_simp
                                       with_reducible rfl
                                     rotate_left
                                     · simp only [Act.put, List.setIfInBounds_toArray, List.set_cons_zero, List.set_cons_succ, i64_w, i32_w]
                                       rfl
                                     refine pure_ (i := 8) (N := some 151) (v := ?_) (a' := ?_) #[true, true, true, true, true, true, true, true, true, false, false, false, false, false, false, false, false, false, false, false, false, false, false, false] rfl rfl (any_of HT_.out (by kernel_rfl)) (fun _ _ _ h => h) (Or.inl ⟨by rfl, ?_⟩) ?_ ?_
                                     rotate_left
                                     · intro w'
                                       go_simp
                                       with_reducible rfl
                                     rotate_left
                                     · simp only [Act.put, List.setIfInBounds_toArray, List.set_cons_zero, List.set_cons_succ, i64_w, i32_w]
                                       rfl
                                     refine take_ (i := 9) (N := some 152) (v := ?_) (a' := ?_) #[true, true, true, true, true, true, true, true, true, true, false, false, false, false, false, false, false, false, false, false, false, false, false, false] rfl rfl (take_ofW HT_.out HW_.out (by kernel_rfl)) (fun _ _ _ h => h) (Or.inl ⟨by rfl, ?_⟩) hHeld ?_ ?_
                                     rotate_left
                                     · rintro w' ⟨s0, s1, s2⟩
                                       go_simp
                                       with_reducible rfl
                                     rotate_left
                                     · simp only [Act.put, List.setIfInBounds_toArray, List.set_cons_zero, List.set_cons_succ, i64_w, i32_w]
                                       rfl
                                     refine pure_ (i := 10) (N := some 153) (v := ?_) (a' := ?_) #[true, true, true, true, true, true, true, true, true, true, true, false, false, false, false, false, false, false, false, false, false, false, false, false] rfl rfl (any_of HT_.out (by kernel_rfl)) (fun _ _ _ h => h) (Or.inl ⟨by rfl, ?_⟩) ?_ ?_
                                     rotate_left
                                     · intro w'
                                       go_simp
                                       with_reducible rfl
                                     rotate_left
                                     · simp only [Act.put, List.setIfInBounds_toArray, List.set_cons_zero, List.set_cons_succ, i64_w, i32_w]
                                       rfl
                                     refine pure_ (i := 11) (N := some 154) (v := ?_) (a' := ?_) #[true, true, true, true, true, true, true, true, true, true, true, true, false, false, false, false, false, false, false, false, false, false, false, false] rfl rfl (any_of HT_.out (by kernel_rfl)) (fun _ _ _ h => h) (Or.inl ⟨by rfl, ?_⟩) ?_ ?_
                                     rotate_left
                                     · intro w'
                                       go_simp
                                       with_reducible rfl
                                     rotate_left
                                     · simp only [Act.put, List.setIfInBounds_toArray, List.set_cons_zero, List.set_cons_succ, i64_w, i32_w]
                                       rfl
                                     refine pure_ (i := 12) (N := some 155) (v := ?_) (a' := ?_) #[true, true, true, true, true, true, true, true, true, true, true, true, true, false, false, false, false, false, false, false, false, false, false, false] rfl rfl (any_of HT_.out (by kernel_rfl)) (fun _ _ _ h => h) (Or.inl ⟨by rfl, ?_⟩) ?_ ?_
                                     rotate_left
                                     · intro w'
                                       go_simp
                                       with_reducible rfl
                                     rotate_left
                                     · simp only [Act.put, List.setIfInBounds_toArray, List.set_cons_zero, List.set_cons_succ, i64_w, i32_w]
                                       rfl
                                     refine pure_ (i := 13) (N := some 156) (v := ?_) (a' := ?_) #[true, true, true, true, true, true, true, true, true, true, true, true, true, true, false, false, false, false, false, false, false, false, false, false] rfl rfl (any_of HT_.out (by kernel_rfl)) (fun _ _ _ h => h) (Or.inl ⟨by rfl, ?_⟩) ?_ ?_
                                     rotate_left
                                     · intro w'
                                       go_simp
                                       with_reducible rfl
                                     rotate_left
                                     · simp only [Act.put, List.setIfInBounds_toArray, List.set_cons_zero, List.set_cons_succ, i64_w, i32_w]
                                       rfl
                                     refine pure_ (i := 14) (N := some 157) (v := ?_) (a' := ?_) #[true, true, true, true, true, true, true, true, true, true, true, true, true, true, true, false, false, false, false, false, false, false, false, false] rfl rfl (any_of HT_.out (by kernel_rfl)) (fun _ _ _ h => h) (Or.inl ⟨by rfl, ?_⟩) ?_ ?_
                                     rotate_left
                                     · intro w'
                                       go_simp
                                       with_reducible rfl
                                     rotate_left
                                     · simp only [Act.put, List.setIfInBounds_toArray, List.set_cons_zero, List.set_cons_succ, i64_w, i32_w]
                                       rfl
                                     refine pure_ (i := 17) (N := some 160) (v := ?_) (a' := ?_) #[true, true, true, true, true, true, true, true, true, true, true, true, true, true, true, false, false, true, false, false, false, false, false, false] rfl rfl (any_of HT_.out (by kernel_rfl)) (fun _ _ _ h => h) (Or.inl ⟨by rfl, ?_⟩) ?_ ?_
                                     rotate_left
                                     · intro w'
                                       go_simp
                                       with_reducible rfl
                                     rotate_left
                                     · simp only [Act.put, List.setIfInBounds_toArray, List.set_cons_zero, List.set_cons_succ, i64_w, i32_w]
                                       rfl
                                     refine pure_ (i := 18) (N := some 161) (v := ?_) (a' := ?_) #[true, true, true, true, true, true, true, true, true, true, true, true, true, true, true, false, false, true, true, false, false, false, false, false] rfl rfl (any_of HT_.out (by kernel_rfl)) (fun _ _ _ h => h) (Or.inl ⟨by rfl, ?_⟩) ?_ ?_
                                     rotate_left
                                     · intro w'
                                       go_simp
                                       with_reducible rfl
                                     rotate_left
                                     · simp only [Act.put, List.setIfInBounds_toArray, List.set_cons_zero, List.set_cons_succ, i64_w, i32_w]
                                       rfl
                                     refine take_ (i := 15) (N := some 158) (v := ?_) (a' := ?_) #[true, true, true, true, true, true, true, true, true, true, true, true, true, true, true, true, false, true, true, false, false, false, false, false] rfl rfl (take_ofW HT_.out HW_.out (by kernel_rfl)) (fun _ _ _ h => h) (Or.inl ⟨by rfl, ?_⟩) hHeld ?_ ?_
                                     rotate_left
                                     · rintro w' ⟨s0, s1, s2⟩
                                       go_simp
                                       with_reducible rfl
                                     rotate_left
                                     · simp only [Act.put, List.setIfInBounds_toArray, List.set_cons_zero, List.set_cons_succ, i64_w, i32_w]
                                       rfl
                                     refine pure_ (i := 16) (N := some 159) (v := ?_) (a' := ?_) #[true, true, true, true, true, true, true, true, true, true, true, true, true, true, true, true, true, true, true, false, false, false, false, false] rfl rfl (any_of HT_.out (by kernel_rfl)) (fun _ _ _ h => h) (Or.inl ⟨by rfl, ?_⟩) ?_ ?_
                                     rotate_left
                                     · intro w'
                                       go_simp
                                       with_reducible rfl
                                     rotate_left
                                     · simp only [Act.put, List.setIfInBounds_toArray, List.set_cons_zero, List.set_cons_succ, i64_w, i32_w]
                                       rfl
                                     refine take_ (i := 19) (N := some 162) (v := ?_) (a' := ?_) #[true, true, true, true, true, true, true, true, true, true, true, true, true, true, true, true, true, true, true, true, false, false, false, false] rfl rfl (take_ofW HT_.out HW_.out (by kernel_rfl)) (fun _ _ _ h => h) (Or.inl ⟨by rfl, ?_⟩) hHeld ?_ ?_
                                     rotate_left
                                     · rintro w' ⟨s0, s1, s2⟩
                                       go_simp
                                       with_reducible rfl
                                     rotate_left
                                     · simp only [Act.put, List.setIfInBounds_toArray, List.set_cons_zero, List.set_cons_succ, i64_w, i32_w]
                                       rfl
                                     refine pure_ (i := 20) (N := some 163) (v := ?_) (a' := ?_) #[true, true, true, true, true, true, true, true, true, true, true, true, true, true, true, true, true, true, true, true, true, false, false, false] rfl rfl (any_of HT_.out (by kernel_rfl)) (fun _ _ _ h => h) (Or.inl ⟨by rfl, ?_⟩) ?_ ?_
                                     rotate_left
                                     · intro w'
                                       go_simp
                                       with_reducible rfl
                                     rotate_left
                                     · simp only [Act.put, List.setIfInBounds_toArray, List.set_cons_zero, List.set_cons_succ, i64_w, i32_w]
                                       rfl
                                     refine one_ (i := 21) (N := some 164) #[true, true, true, true, true, true, true, true, true, true, true, true, true, true, true, true, true, true, true, true, true, true, false, false] rfl rfl (one_of HT_.out (by kernel_rfl)) (by decide) (fun K hK => ?_)
                                     refine goes_ Try.func15 (by kernel_rfl) rfl #[.slice Ao129 y387.length co129, .slice Ao130 y391.length co130] (by rfl) rfl rfl (by (try simp only [List.map_toArray, List.map_cons, List.map_nil]); first | done | rfl | (simp only [List.length_drop, List.length_take]; rfl)) ?_
                                     with_reducible refine (api_Session.calls k4 _ _ y387 _ _ y391 true _ ?side1 ?side2 ?side3 ?side4 A123.out).mono ?_
                                     (case side1 => repeat (first | exact (by repeat (first | (with_reducible exact HR390.out) | (with_reducible refine Kd.C_alloc ?_ _) | (with_reducible refine Kd.C_drewN ?_ _) | (with_reducible refine Kd.C_drew ?_) | exact HR390.out)) | (with_reducible refine Kd.C_alloc ?_ _) | (with_reducible refine Kd.C_drewN ?_ _) | (with_reducible refine Kd.C_drew ?_)))
                                     (case side2 => exact HC390.out)
                                     (case side3 => repeat (first | exact (by repeat (first | (with_reducible exact HR394.out) | (with_reducible refine Kd.C_alloc ?_ _) | (with_reducible refine Kd.C_drewN ?_ _) | (with_reducible refine Kd.C_drew ?_) | exact HR394.out)) | (with_reducible refine Kd.C_alloc ?_ _) | (with_reducible refine Kd.C_drewN ?_ _) | (with_reducible refine Kd.C_drew ?_)))
                                     (case side4 => exact HC394.out)
                                     rintro e w' ⟨rfl, ⟨nd, rfl⟩⟩
                                     refine ⟨_, rfl, ?_⟩
                                     refine hK.out _ _ ⟨(blk_cell BK366.out 0).trans rfl, (blk_cell BK366.out 1).trans rfl, (blk_cell BK366.out 2).trans rfl⟩ (fun hHeld => ?_)
                                     clear hK K
                                     refine norm_ (a' := ?_) ?_ ?_
                                     rotate_left
                                     · show Act.put _ (some 164) _ = _
                                       simp only [Act.put, List.setIfInBounds_toArray, List.set_cons_zero, List.set_cons_succ, i64_w, i32_w]
                                       rfl
                                     refine pure_ (i := 22) (N := some 165) (v := ?_) (a' := ?_) #[true, true, true, true, true, true, true, true, true, true, true, true, true, true, true, true, true, true, true, true, true, true, true, false] rfl rfl (any_of HT_.out (by kernel_rfl)) (fun _ _ _ h => h) (Or.inl ⟨by rfl, ?_⟩) ?_ ?_
                                     rotate_left
                                     · intro w'
                                       go_simp
                                       with_reducible rfl
                                     rotate_left
                                     · simp only [Act.put, List.setIfInBounds_toArray, List.set_cons_zero, List.set_cons_succ, i64_w, i32_w]
                                       rfl
                                     refine pure_ (i := 23) (N := some 166) (v := ?_) (a' := ?_) #[true, true, true, true, true, true, true, true, true, true, true, true, true, true, true, true, true, true, true, true, true, true, true, true] rfl rfl (any_of HT_.out (by kernel_rfl)) (fun _ _ _ h => h) (Or.inl ⟨by rfl, ?_⟩) ?_ ?_
                                     rotate_left
                                     · intro w'
                                       go_simp
                                       with_reducible rfl
                                     rotate_left
                                     · simp only [Act.put, List.setIfInBounds_toArray, List.set_cons_zero, List.set_cons_succ, i64_w, i32_w]
                                       rfl
                                     refine done_ (done_of HT_.out (by kernel_rfl)) ?_
                                     have hnb133 := NB375_366.out
                                     have hnc133 := NB366_375.out
                                     have hnb134 := NB375_368.out
                                     have hnc134 := NB368_375.out
                                     obtain ⟨hcz135_0, hcz135_1, hcz135_2⟩ := cel3 BK375.out
                                     obtain ⟨hfz135_0, hfz135_1, hfz135_2⟩ := frz3 BK375.out
                                     have hnb136 := NB366_368.out
                                     have hnc136 := NB368_366.out
                                     obtain ⟨hcz137_0, hcz137_1, hcz137_2⟩ := cel3 BK366.out
                                     obtain ⟨hfz137_0, hfz137_1, hfz137_2⟩ := frz3 BK366.out
                                     try go_wp2
                                     go_roundg k4
                                     case measure => have := HJ4.out; have := HK2.out; have := HJ16.out; have := HK4.out; omega
                                     case rel => exact ⟨(wrap64 (x31_2 + 1)), (t369), (t370), (t371), (.slice Ao28 t371.length co28), (by first | rfl | (simp; done) | (simp [*]; done)), H', ⟨by have := HJ4.out; have := HK2.out; have := HJ16.out; have := HK4.out; omega⟩, ⟨by (with_reducible repeat (first | apply Kd.R_alloc | apply Kd.R_drewN | apply Kd.R_drew)); exact Kd.R_mono (Kd.R_far (p := ⟨gb366, 2, none⟩) (Kd.R_far (p := ⟨gb366, 1, none⟩) (Kd.R_far (p := ⟨gb366, 0, none⟩) (Kd.R_types HO_376002.out BK366.out (by decide)) (fun _ hk => hk.2) (.int .i64 t369)) (fun _ hk => hk.2) (.bool t370)) (fun _ hk => hk.2) (.slice Ao28 t371.length co28)) (fun _ hk => trivial)⟩, ⟨by (with_reducible repeat (first | refine blk_drewN ?_ _ | refine blk_drew ?_ | refine blk_alloc ?_ _)); refine blk_put (cs := #[.int .i64 t369, .bool t370, .slice Ao22 x367002_2.length co22]) ?_ 2 _ rfl; (with_reducible repeat (first | refine blk_drewN ?_ _ | refine blk_drew ?_ | refine blk_alloc ?_ _)); refine blk_put (cs := #[.int .i64 t369, .bool x367001_2, .slice Ao22 x367002_2.length co22]) ?_ 1 _ rfl; (with_reducible repeat (first | refine blk_drewN ?_ _ | refine blk_drew ?_ | refine blk_alloc ?_ _)); refine blk_put (cs := #[.int .i64 x367000_2, .bool x367001_2, .slice Ao22 x367002_2.length co22]) ?_ 0 _ rfl; (with_reducible repeat (first | refine blk_drewN ?_ _ | refine blk_drew ?_ | refine blk_alloc ?_ _)); exact BK366.out⟩, ⟨by repeat (first | (with_reducible first | exact HB.out | apply below_alloc | apply pw_below_drewN | apply below_drew1 | refine below_set ?_ GE366.out | refine below_set ?_ GE368.out | refine below_set ?_ GE375.out) | exact HB.out)⟩⟩
                                   · replace c124 := Bool.eq_false_iff.mpr c124
                                     subst c124
                                     have H1 : (none) = some r := by rw [if_neg (show ¬ (false = true) by decide)] at H; exact H
                                     clear H
                                     have H := H1
                                     clear H1
                                     exact absurd H (by simp)
                                 · rw [if_neg c122] at H
                                   exact absurd H (by simp)
                               · rw [if_neg c120] at H
                                 exact absurd H (by simp)
                             · rw [if_neg c119] at H
                               exact absurd H (by simp)
               · rw [if_neg c16] at H
                 have c16b0 : (t374 == 0) = false := beq_eq_false_iff_ne.mpr c16
                 have c16b1 : (t374 != 0) = true := bne_iff_ne.mpr c16
                 by_cases c138 : t369 = 0
                 · rw [if_pos c138] at H
                   have c138b0 : (t369 == 0) = true := beq_iff_eq.mpr c138
                   have c138b1 : (t369 != 0) = false := bne_eq_false_iff_eq.mpr c138
                   clear c138
                   by_cases c139 : t370 = true
                   · subst c139
                     have H1 : (none) = some r := by rw [if_pos rfl] at H; exact H
                     clear H
                     have H := H1
                     clear H1
                     exact absurd H (by simp)
                   · replace c139 := Bool.eq_false_iff.mpr c139
                     subst c139
                     have H1 : (if (t371.length : Int) = 0 then (masterdisclaw14_TocKeeps.l0 k2 a0 l1 (l1.length : Int) (wrap64 (x31_2 + 1)) x367000_2 x367001_2 x367002_2) else (none)) = some r := by rw [if_neg (show ¬ (false = true) by decide)] at H; exact H
                     clear H
                     have H := H1
                     clear H1
                     by_cases c140 : (t371.length : Int) = 0
                     · rw [if_pos c140] at H
                       have c140b0 : ((t371.length : Int) == 0) = true := beq_iff_eq.mpr c140
                       have c140b1 : ((t371.length : Int) != 0) = false := bne_eq_false_iff_eq.mpr c140
                       clear c140
                       have H' := Aside0.mk H
                       clear H
                       have p367 : 0 ≤ (x31_2 : Int) := of_decide_eq_true (by first | (with_reducible assumption) | assumption)
                       have q367 : x31_2 < (l1.length : Int) := of_decide_eq_true (by first | (with_reducible assumption) | assumption)
                       obtain ⟨ad367, e367, hx367_0, hx367_1, hx367_2, hx367_3⟩ := at_T26 HR1.out x31_2 p367 q367
                       cases e367
                       replace hx367_0 := upc HB.out hx367_0
                       replace hx367_1 := upc HB.out hx367_1
                       replace hx367_2 := upc HB.out hx367_2
                       replace hx367_3 := upc HB.out hx367_3
                       replace p367 := eq_true p367
                       replace q367 := eq_true q367
                       go_wp2_with (first | ((with_reducible refine gate_dst (N := 7) rfl ?_); (try (refine gate_guard (by rfl) ?_; dsimp only)); refine box_event ?hg (N := 7) ?hd (cs := #[.int .i64 0, .int .i64 0, .int .i64 0, .bool false]) (t := 26) ?hr ?_; (case hd => rfl); (case hg => rfl); (case hr => first | (go_simp; done) | (go_simp; rfl)); intro gb368 hg w141 hbox hb; have n0_ := Aside0.mk (Kd.R_below (by (with_reducible repeat (first | apply Kd.R_alloc | apply Kd.R_drewN | apply Kd.R_drew)); exact HO_367002.out) hb); have n1_ := Aside0.mk (blk_below (g := gb366) (o := .cells #[.int .i64 x367000_2, .bool x367001_2, u367002] 24 (0, 0)) (by (with_reducible repeat (first | refine blk_drewN ?_ _ | refine blk_drew ?_ | refine blk_alloc ?_ _)); exact BK366.out) hb); have n2_ := Aside0.mk (below_step (by repeat (first | (with_reducible first | exact HB.out | apply below_alloc | apply pw_below_drewN | apply below_drew1 | refine below_set ?_ GE366.out) | exact HB.out)) hb); have n3_ := Aside0.mk (hbox); have n4_ := Aside0.mk ((by rw [hg]; exact (below_size (by repeat (first | (with_reducible first | exact HB.out | apply below_alloc | apply pw_below_drewN | apply below_drew1 | refine below_set ?_ GE366.out) | exact HB.out))) : w.heap.size ≤ gb368)); have n5_ := Aside0.mk ((by rw [hg]; exact (below_size (by repeat (first | (with_reducible first | exact HB.out | apply below_alloc | apply pw_below_drewN | apply below_drew1 | refine below_set ?_ GE366.out) | exact HB.out))) : w.heap.size ≤ gb368)); have n6_ := Aside0.mk ((by rw [hg]; exact Nat.ne_of_lt (blk_lt (g := gb366) (o := .cells #[.int .i64 x367000_2, .bool x367001_2, u367002] 24 (0, 0)) (by (with_reducible repeat (first | refine blk_drewN ?_ _ | refine blk_drew ?_ | refine blk_alloc ?_ _)); exact BK366.out)) : gb366 ≠ gb368)); have n7_ := Aside0.mk ((by rw [hg]; exact Nat.ne_of_gt (blk_lt (g := gb366) (o := .cells #[.int .i64 x367000_2, .bool x367001_2, u367002] 24 (0, 0)) (by (with_reducible repeat (first | refine blk_drewN ?_ _ | refine blk_drew ?_ | refine blk_alloc ?_ _)); exact BK366.out)) : gb368 ≠ gb366)); clear HO_367002; clear BK366; clear HB; have HO_367002 := n0_; have BK366 := n1_; have HB := n2_; have BK368 := n3_; have GW368 := n4_; have GE368 := n5_; have NB366_368 := n6_; have NB368_366 := n7_; clear n0_ n1_ n2_ n3_ n4_ n5_ n6_ n7_; clear hb hbox hg; have hnb142 := NB368_366.out; have hnc142 := NB366_368.out; obtain ⟨hcz143_0, hcz143_1, hcz143_2, hcz143_3⟩ := cel4 BK368.out; obtain ⟨hfz143_0, hfz143_1, hfz143_2, hfz143_3⟩ := frz4 BK368.out; obtain ⟨hcz144_0, hcz144_1, hcz144_2⟩ := cel3 BK366.out; obtain ⟨hfz144_0, hfz144_1, hfz144_2⟩ := frz3 BK366.out; obtain ⟨Ao145, co145, eo145⟩ := Kd.R_slice HO_367002.out; subst eo145) | ((with_reducible refine gate_callee (f := 8) rfl ?_); refine goesL_ (some 39) rfl rfl Try.func8 (by kernel_rfl) rfl #[.int .i64 a0, .agg #[.int .i64 x367000_2, .bool x367001_2, .slice Ao145 x367002_2.length co145], .agg #[.int .i64 ((rd_T26 l1 x31_2).f0), .int .i64 ((rd_T26 l1 x31_2).f1), .int .i64 ((rd_T26 l1 x31_2).f2), .bool ((rd_T26 l1 x31_2).f3)]] rfl (by (try simp only [List.map_toArray, List.map_cons, List.map_nil]); first | done | rfl | (simp only [List.length_drop, List.length_take]; rfl)) ?_; (with_reducible refine (masterdisclaw14_do.calls k2 a0 x367000_2 x367001_2 _ _ x367002_2 ((rd_T26 l1 x31_2).f0) ((rd_T26 l1 x31_2).f1) ((rd_T26 l1 x31_2).f2) ((rd_T26 l1 x31_2).f3) t369 false t371 t374 _ ?side1 ?side2 A15.out).mono ?_); (case side1 => refine (Kd.R_reads' (e := 40) (base := w.heap.size) (ok := fun k_ => True) (n := x367002_2.length) (c := co145) ?_).2.2; exact (by (with_reducible repeat (first | apply Kd.R_alloc | apply Kd.R_drewN | apply Kd.R_drew)); exact (Kd.R_mono (Kd.R_far (p := ⟨gb368, 3, none⟩) (Kd.R_far (p := ⟨gb368, 2, none⟩) (Kd.R_far (p := ⟨gb368, 1, none⟩) (Kd.R_far (p := ⟨gb368, 0, none⟩) (Kd.R_types HO_367002.out BK368.out (by decide)) (fun _ hk => hk.2) (.int .i64 ((rd_T26 l1 x31_2).f0))) (fun _ hk => hk.2) (.int .i64 ((rd_T26 l1 x31_2).f1))) (fun _ hk => hk.2) (.int .i64 ((rd_T26 l1 x31_2).f2))) (fun _ hk => hk.2) (.bool ((rd_T26 l1 x31_2).f3))) (fun _ h_ => h_.1)))); (case side2 => exact (Kd.R_reads' HO_367002.out).2.1); rintro e w146 ⟨v372, rfl, ho0, hb⟩; refine ⟨_, rfl, ?_⟩; have n0_ := Aside0.mk (Kd.R_elder' (by (with_reducible repeat (first | apply Kd.R_alloc | apply Kd.R_drewN | apply Kd.R_drew)); exact (Kd.R_mono (Kd.R_far (p := ⟨gb368, 3, none⟩) (Kd.R_far (p := ⟨gb368, 2, none⟩) (Kd.R_far (p := ⟨gb368, 1, none⟩) (Kd.R_far (p := ⟨gb368, 0, none⟩) (Kd.R_types HO_367002.out BK368.out (by decide)) (fun _ hk => hk.2) (.int .i64 ((rd_T26 l1 x31_2).f0))) (fun _ hk => hk.2) (.int .i64 ((rd_T26 l1 x31_2).f1))) (fun _ hk => hk.2) (.int .i64 ((rd_T26 l1 x31_2).f2))) (fun _ hk => hk.2) (.bool ((rd_T26 l1 x31_2).f3))) (fun _ h_ => h_.1))) (Kd.R_base ho0) hb); have n1_ := Aside0.mk (Kd.R_lower (Kd.R_new' ho0 (Kd.R_lt (by (with_reducible repeat (first | apply Kd.R_alloc | apply Kd.R_drewN | apply Kd.R_drew)); exact (Kd.R_mono (Kd.R_far (p := ⟨gb368, 3, none⟩) (Kd.R_far (p := ⟨gb368, 2, none⟩) (Kd.R_far (p := ⟨gb368, 1, none⟩) (Kd.R_far (p := ⟨gb368, 0, none⟩) (Kd.R_types HO_367002.out BK368.out (by decide)) (fun _ hk => hk.2) (.int .i64 ((rd_T26 l1 x31_2).f0))) (fun _ hk => hk.2) (.int .i64 ((rd_T26 l1 x31_2).f1))) (fun _ hk => hk.2) (.int .i64 ((rd_T26 l1 x31_2).f2))) (fun _ hk => hk.2) (.bool ((rd_T26 l1 x31_2).f3))) (fun _ h_ => h_.1))))) (below_size (by repeat (first | (with_reducible first | exact HB.out | apply below_alloc | apply pw_below_drewN | apply below_drew1 | refine below_set ?_ GE366.out | refine below_set ?_ GE368.out) | exact HB.out)))); have n2_ := Aside0.mk (blk_below (g := gb366) (o := .cells #[.int .i64 x367000_2, .bool x367001_2, .slice Ao145 x367002_2.length co145] 24 (0, 0)) (by (with_reducible repeat (first | refine blk_drewN ?_ _ | refine blk_drew ?_ | refine blk_alloc ?_ _)); refine blk_far ?_ NB366_368.out _; (with_reducible repeat (first | refine blk_drewN ?_ _ | refine blk_drew ?_ | refine blk_alloc ?_ _)); refine blk_far ?_ NB366_368.out _; (with_reducible repeat (first | refine blk_drewN ?_ _ | refine blk_drew ?_ | refine blk_alloc ?_ _)); refine blk_far ?_ NB366_368.out _; (with_reducible repeat (first | refine blk_drewN ?_ _ | refine blk_drew ?_ | refine blk_alloc ?_ _)); refine blk_far ?_ NB366_368.out _; (with_reducible repeat (first | refine blk_drewN ?_ _ | refine blk_drew ?_ | refine blk_alloc ?_ _)); exact BK366.out) hb); have n3_ := Aside0.mk (blk_below (g := gb368) (o := .cells #[.int .i64 ((rd_T26 l1 x31_2).f0), .int .i64 ((rd_T26 l1 x31_2).f1), .int .i64 ((rd_T26 l1 x31_2).f2), .bool ((rd_T26 l1 x31_2).f3)] 26 (0, 0)) (by (with_reducible repeat (first | refine blk_drewN ?_ _ | refine blk_drew ?_ | refine blk_alloc ?_ _)); refine blk_put (cs := #[.int .i64 ((rd_T26 l1 x31_2).f0), .int .i64 ((rd_T26 l1 x31_2).f1), .int .i64 ((rd_T26 l1 x31_2).f2), .bool false]) ?_ 3 _ rfl; (with_reducible repeat (first | refine blk_drewN ?_ _ | refine blk_drew ?_ | refine blk_alloc ?_ _)); refine blk_put (cs := #[.int .i64 ((rd_T26 l1 x31_2).f0), .int .i64 ((rd_T26 l1 x31_2).f1), .int .i64 0, .bool false]) ?_ 2 _ rfl; (with_reducible repeat (first | refine blk_drewN ?_ _ | refine blk_drew ?_ | refine blk_alloc ?_ _)); refine blk_put (cs := #[.int .i64 ((rd_T26 l1 x31_2).f0), .int .i64 0, .int .i64 0, .bool false]) ?_ 1 _ rfl; (with_reducible repeat (first | refine blk_drewN ?_ _ | refine blk_drew ?_ | refine blk_alloc ?_ _)); refine blk_put (cs := #[.int .i64 0, .int .i64 0, .int .i64 0, .bool false]) ?_ 0 _ rfl; (with_reducible repeat (first | refine blk_drewN ?_ _ | refine blk_drew ?_ | refine blk_alloc ?_ _)); exact BK368.out) hb); have n4_ := Aside0.mk (below_step (by repeat (first | (with_reducible first | exact HB.out | apply below_alloc | apply pw_below_drewN | apply below_drew1 | refine below_set ?_ GE366.out | refine below_set ?_ GE368.out) | exact HB.out)) hb); clear HO_367002; clear BK366; clear BK368; clear HB; have HO_367002 := n0_; have HO373 := n1_; have BK366 := n2_; have BK368 := n3_; have HB := n4_; clear n0_ n1_ n2_ n3_ n4_; (try clear hb); (try clear hb2); (try clear hk); (try clear hi); (try clear ho0)) | ((with_reducible refine gate_dst (N := 8) rfl ?_); (try (refine gate_guard (by rfl) ?_; dsimp only)); refine box_event ?hg (N := 8) ?hd (cs := #[.int .i64 0, .bool false, .slice none 0 0]) (t := 24) ?hr ?_; (case hd => rfl); (case hg => rfl); (case hr => first | (go_simp; done) | (go_simp; rfl)); intro gb375 hg w147 hbox hb; have n0_ := Aside0.mk (Kd.R_below (by (with_reducible repeat (first | apply Kd.R_alloc | apply Kd.R_drewN | apply Kd.R_drew)); exact HO_367002.out) hb); have n1_ := Aside0.mk (Kd.R_below (by (with_reducible repeat (first | apply Kd.R_alloc | apply Kd.R_drewN | apply Kd.R_drew)); exact HO373.out) hb); have n2_ := Aside0.mk (blk_below (g := gb366) (o := .cells #[.int .i64 x367000_2, .bool x367001_2, .slice Ao145 x367002_2.length co145] 24 (0, 0)) (by (with_reducible repeat (first | refine blk_drewN ?_ _ | refine blk_drew ?_ | refine blk_alloc ?_ _)); exact BK366.out) hb); have n3_ := Aside0.mk (blk_below (g := gb368) (o := .cells #[.int .i64 ((rd_T26 l1 x31_2).f0), .int .i64 ((rd_T26 l1 x31_2).f1), .int .i64 ((rd_T26 l1 x31_2).f2), .bool ((rd_T26 l1 x31_2).f3)] 26 (0, 0)) (by (with_reducible repeat (first | refine blk_drewN ?_ _ | refine blk_drew ?_ | refine blk_alloc ?_ _)); exact BK368.out) hb); have n4_ := Aside0.mk (below_step (by repeat (first | (with_reducible first | exact HB.out | apply below_alloc | apply pw_below_drewN | apply below_drew1 | refine below_set ?_ GE366.out | refine below_set ?_ GE368.out) | exact HB.out)) hb); have n5_ := Aside0.mk (hbox); have n6_ := Aside0.mk ((by rw [hg]; exact (below_size (by repeat (first | (with_reducible first | exact HB.out | apply below_alloc | apply pw_below_drewN | apply below_drew1 | refine below_set ?_ GE366.out | refine below_set ?_ GE368.out) | exact HB.out))) : w.heap.size ≤ gb375)); have n7_ := Aside0.mk ((by rw [hg]; exact (below_size (by repeat (first | (with_reducible first | exact HB.out | apply below_alloc | apply pw_below_drewN | apply below_drew1 | refine below_set ?_ GE366.out | refine below_set ?_ GE368.out) | exact HB.out))) : w.heap.size ≤ gb375)); have n8_ := Aside0.mk ((by rw [hg]; exact Nat.ne_of_lt (blk_lt (g := gb366) (o := .cells #[.int .i64 x367000_2, .bool x367001_2, .slice Ao145 x367002_2.length co145] 24 (0, 0)) (by (with_reducible repeat (first | refine blk_drewN ?_ _ | refine blk_drew ?_ | refine blk_alloc ?_ _)); exact BK366.out)) : gb366 ≠ gb375)); have n9_ := Aside0.mk ((by rw [hg]; exact Nat.ne_of_gt (blk_lt (g := gb366) (o := .cells #[.int .i64 x367000_2, .bool x367001_2, .slice Ao145 x367002_2.length co145] 24 (0, 0)) (by (with_reducible repeat (first | refine blk_drewN ?_ _ | refine blk_drew ?_ | refine blk_alloc ?_ _)); exact BK366.out)) : gb375 ≠ gb366)); have n10_ := Aside0.mk ((by rw [hg]; exact Nat.ne_of_lt (blk_lt (g := gb368) (o := .cells #[.int .i64 ((rd_T26 l1 x31_2).f0), .int .i64 ((rd_T26 l1 x31_2).f1), .int .i64 ((rd_T26 l1 x31_2).f2), .bool ((rd_T26 l1 x31_2).f3)] 26 (0, 0)) (by (with_reducible repeat (first | refine blk_drewN ?_ _ | refine blk_drew ?_ | refine blk_alloc ?_ _)); exact BK368.out)) : gb368 ≠ gb375)); have n11_ := Aside0.mk ((by rw [hg]; exact Nat.ne_of_gt (blk_lt (g := gb368) (o := .cells #[.int .i64 ((rd_T26 l1 x31_2).f0), .int .i64 ((rd_T26 l1 x31_2).f1), .int .i64 ((rd_T26 l1 x31_2).f2), .bool ((rd_T26 l1 x31_2).f3)] 26 (0, 0)) (by (with_reducible repeat (first | refine blk_drewN ?_ _ | refine blk_drew ?_ | refine blk_alloc ?_ _)); exact BK368.out)) : gb375 ≠ gb368)); clear HO_367002; clear HO373; clear BK366; clear BK368; clear HB; have HO_367002 := n0_; have HO373 := n1_; have BK366 := n2_; have BK368 := n3_; have HB := n4_; have BK375 := n5_; have GW375 := n6_; have GE375 := n7_; have NB366_375 := n8_; have NB375_366 := n9_; have NB368_375 := n10_; have NB375_368 := n11_; clear n0_ n1_ n2_ n3_ n4_ n5_ n6_ n7_ n8_ n9_ n10_ n11_; clear hb hbox hg; have hnb148 := NB375_366.out; have hnc148 := NB366_375.out; have hnb149 := NB375_368.out; have hnc149 := NB368_375.out; obtain ⟨hcz150_0, hcz150_1, hcz150_2⟩ := cel3 BK375.out; obtain ⟨hfz150_0, hfz150_1, hfz150_2⟩ := frz3 BK375.out; obtain ⟨Ao151, co151, eo151⟩ := Kd.R_slice HO373.out; subst eo151))
                       go_roundg k2
                       case measure => have := HJ4.out; have := HK2.out; omega
                       case rel => exact ⟨(wrap64 (x31_2 + 1)), (x367000_2), (x367001_2), (x367002_2), (.slice Ao145 x367002_2.length co145), (by first | rfl | (simp; done) | (simp [*]; done)), H', ⟨by have := HJ4.out; have := HK2.out; omega⟩, ⟨by (with_reducible repeat (first | apply Kd.R_alloc | apply Kd.R_drewN | apply Kd.R_drew)); exact Kd.R_mono (Kd.R_far (p := ⟨gb375, 2, none⟩) (Kd.R_far (p := ⟨gb375, 1, none⟩) (Kd.R_far (p := ⟨gb375, 0, none⟩) (Kd.R_types HO_367002.out BK375.out (by decide)) (fun _ hk => hk.2) (.int .i64 t369)) (fun _ hk => hk.2) (.bool false)) (fun _ hk => hk.2) (.slice Ao151 t371.length co151)) (fun _ hk => trivial)⟩, ⟨by (with_reducible repeat (first | refine blk_drewN ?_ _ | refine blk_drew ?_ | refine blk_alloc ?_ _)); refine blk_far ?_ NB366_375.out _; (with_reducible repeat (first | refine blk_drewN ?_ _ | refine blk_drew ?_ | refine blk_alloc ?_ _)); refine blk_far ?_ NB366_375.out _; (with_reducible repeat (first | refine blk_drewN ?_ _ | refine blk_drew ?_ | refine blk_alloc ?_ _)); refine blk_far ?_ NB366_375.out _; (with_reducible repeat (first | refine blk_drewN ?_ _ | refine blk_drew ?_ | refine blk_alloc ?_ _)); exact BK366.out⟩, ⟨by repeat (first | (with_reducible first | exact HB.out | apply below_alloc | apply pw_below_drewN | apply below_drew1 | refine below_set ?_ GE366.out | refine below_set ?_ GE368.out | refine below_set ?_ GE375.out) | exact HB.out)⟩⟩
                     · rw [if_neg c140] at H
                       exact absurd H (by simp)
                 · rw [if_neg c138] at H
                   exact absurd H (by simp)
             · rw [if_neg c14] at H
               exact absurd H (by simp)
           · rw [if_neg c13] at H
             exact absurd H (by simp)
         · rw [if_neg c12] at H
           have c12b0 : decide (x31_2 < (l1.length : Int)) = false := decide_eq_false c12
           clear c12
           obtain rfl := Option.some.inj H
           go_wp2
           go_ret
           exact ⟨by first | rfl | (simp [errW_none, errW_some] <;> rfl) | (simp [*, errW_none, errW_some] <;> rfl), by repeat (first | (with_reducible first | exact HB.out | apply below_alloc | apply pw_below_drewN | apply below_drew1 | refine below_set ?_ GE366.out) | exact HB.out)⟩
 · replace c4 := Bool.eq_false_iff.mpr c4
   subst c4
   have H1 : (none) = some r := by rw [if_neg (show ¬ (false = true) by decide)] at H; exact H
   clear H
   have H := H1
   clear H1
   exact absurd H (by simp)
end Go.Proofs.Ytjhepdcdhabcjaa.G
