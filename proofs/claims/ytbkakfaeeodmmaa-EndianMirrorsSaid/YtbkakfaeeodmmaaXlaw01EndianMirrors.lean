/- The calls of functions of the given program come to what the Lean functions of the same names tell, at all arguments at which these tell something; no other condition. Written by a program of this session. -/
import Derived.Test.YtbkakfaeeodmmaaX0
import Derived.Test.YtbkakfaeeodmmaaHEn
import Derived.Test.YtbkakfaeeodmmaaXAw1
namespace Go.Proofs.Ytbkakfaeeodmmaa.G
open Go.RowKit Go.Proofs.YtbkakfaeeodmmaaW.PrintWords Go.Proofs.YtbkakfaeeodmmaaW.PrintLast Go.Proofs.YtbkakfaeeodmmaaW.PrintMore
attribute [local go_sem] max2_int min2_int max_two min_two max_three min_three max_four min_four   -- for this text's walks alone
set_option linter.unusedVariables false
set_option linter.unusedSimpArgs false

/-! ### masterdisclaw01_EndianMirrors: function 4 -/
mutual
def masterdisclaw01_EndianMirrors.j0 : Nat → Int → Int → ByteArray → Int → ByteArray → Bool → Option (Bool)
  | 0, _, _, _, _, _, _ => none
  | k + 1, x0, x1, x5, x6, x7, x37 => if x37 = true then (some false) else (masterdisclaw01_EndianMirrors.l0 k x0 x1 x5 x6 x7 (x5.size : Int) 0)
def masterdisclaw01_EndianMirrors.l0 : Nat → Int → Int → ByteArray → Int → ByteArray → Int → Int → Option (Bool)
  | 0, _, _, _, _, _, _, _ => none
  | k + 1, x0, x1, x5, x6, x7, x39, x40 => if x40 < x39 then (if 0 ≤ x40 then (if x40 < (x5.size : Int) then (if 0 ≤ (wrap64 ((wrap64 ((x7.size : Int) - 1)) - x40)) then (if (wrap64 ((wrap64 ((x7.size : Int) - 1)) - x40)) < (x7.size : Int) then (if (bt x5 x40) = (bt x7 (wrap64 ((wrap64 ((x7.size : Int) - 1)) - x40))) then (masterdisclaw01_EndianMirrors.l0 k x0 x1 x5 x6 x7 x39 (wrap64 (x40 + 1))) else (some false)) else (none)) else (none)) else (none)) else (none)) else (if x6 = 0 then (masterdisclaw01_EndianMirrors.j2 k x0 x1 x5 x7 (x1 == 8)) else (masterdisclaw01_EndianMirrors.j2 k x0 x1 x5 x7 true))
def masterdisclaw01_EndianMirrors.j2 : Nat → Int → Int → ByteArray → ByteArray → Bool → Option (Bool)
  | 0, _, _, _, _, _ => none
  | k + 1, x0, x1, x5, x7, x60 => if x60 = true then (some true) else ((endian_Little.f x0 (wrap64 (x1 + 1))).bind fun bt148 => ((endian_Big.f x0 (wrap64 (x1 + 1))).bind fun bt150 => (if bt148.2 = 0 then (if bt150.2 = 0 then (if x5.size + 1 ≤ 9223372036854775807 then (if bt148.1.toList = (x5 ++ (⟨#[0]⟩ : ByteArray)).toList then (if 1 + x7.size ≤ 9223372036854775807 then (some (bt150.1.toList == ((⟨#[0]⟩ : ByteArray) ++ x7).toList)) else (none)) else (some false)) else (none)) else (some false)) else (some false))))
end
def masterdisclaw01_EndianMirrors.f (k : Nat) (a0 : Int) (a1 : Int) : Option (Bool) := (masterdisclaw01_awake.f).bind fun t143 => (if t143 = true then ((endian_Little.f a0 a1).bind fun bt144 => ((endian_Big.f a0 a1).bind fun bt146 => (if bt144.2 = bt146.2 then (masterdisclaw01_EndianMirrors.j0 k a0 a1 bt144.1 bt144.2 bt146.1 ((bt144.1.size : Int) != (bt146.1.size : Int))) else (masterdisclaw01_EndianMirrors.j0 k a0 a1 bt144.1 bt144.2 bt146.1 true)))) else (some false))
theorem masterdisclaw01_EndianMirrors.mono_l : ∀ k, (∀ y0 y1 y2 y3 y4 y5, LeO (masterdisclaw01_EndianMirrors.j0 k y0 y1 y2 y3 y4 y5) (masterdisclaw01_EndianMirrors.j0 (k + 1) y0 y1 y2 y3 y4 y5)) ∧ (∀ y0 y1 y2 y3 y4 y5 y6, LeO (masterdisclaw01_EndianMirrors.l0 k y0 y1 y2 y3 y4 y5 y6) (masterdisclaw01_EndianMirrors.l0 (k + 1) y0 y1 y2 y3 y4 y5 y6)) ∧ (∀ y0 y1 y2 y3 y4, LeO (masterdisclaw01_EndianMirrors.j2 k y0 y1 y2 y3 y4) (masterdisclaw01_EndianMirrors.j2 (k + 1) y0 y1 y2 y3 y4))
  | 0 => ⟨fun _ _ _ _ _ _ r h => by simp [masterdisclaw01_EndianMirrors.j0] at h, fun _ _ _ _ _ _ _ r h => by simp [masterdisclaw01_EndianMirrors.l0] at h, fun _ _ _ _ _ r h => by simp [masterdisclaw01_EndianMirrors.j2] at h⟩
  | k + 1 => by
    obtain ⟨ih0, ih1, ih2⟩ := masterdisclaw01_EndianMirrors.mono_l k
    refine ⟨?_, ?_, ?_⟩
    · intro y0 y1 y2 y3 y4 y5
      unfold masterdisclaw01_EndianMirrors.j0
      repeat' first
      | (with_reducible exact ih0 _ _ _ _ _ _)
      | (with_reducible exact ih1 _ _ _ _ _ _ _)
      | (with_reducible exact ih2 _ _ _ _ _)
      | (with_reducible exact LeO.refl _)
      | (with_reducible exact LeO.none _)
      | (with_reducible refine LeO.ite ?_ ?_)
      | (with_reducible refine LeO.bind ?_ (fun _ => ?_))
      | exact ih0 _ _ _ _ _ _
      | exact ih1 _ _ _ _ _ _ _
      | exact ih2 _ _ _ _ _
      | exact LeO.none _
      | refine LeO.ite ?_ ?_
      | refine LeO.bind ?_ (fun _ => ?_)
    · intro y0 y1 y2 y3 y4 y5 y6
      unfold masterdisclaw01_EndianMirrors.l0
      repeat' first
      | (with_reducible exact ih0 _ _ _ _ _ _)
      | (with_reducible exact ih1 _ _ _ _ _ _ _)
      | (with_reducible exact ih2 _ _ _ _ _)
      | (with_reducible exact LeO.refl _)
      | (with_reducible exact LeO.none _)
      | (with_reducible refine LeO.ite ?_ ?_)
      | (with_reducible refine LeO.bind ?_ (fun _ => ?_))
      | exact ih0 _ _ _ _ _ _
      | exact ih1 _ _ _ _ _ _ _
      | exact ih2 _ _ _ _ _
      | exact LeO.none _
      | refine LeO.ite ?_ ?_
      | refine LeO.bind ?_ (fun _ => ?_)
    · intro y0 y1 y2 y3 y4
      unfold masterdisclaw01_EndianMirrors.j2
      repeat' first
      | (with_reducible exact ih0 _ _ _ _ _ _)
      | (with_reducible exact ih1 _ _ _ _ _ _ _)
      | (with_reducible exact ih2 _ _ _ _ _)
      | (with_reducible exact LeO.refl _)
      | (with_reducible exact LeO.none _)
      | (with_reducible refine LeO.ite ?_ ?_)
      | (with_reducible refine LeO.bind ?_ (fun _ => ?_))
      | exact ih0 _ _ _ _ _ _
      | exact ih1 _ _ _ _ _ _ _
      | exact ih2 _ _ _ _ _
      | exact LeO.none _
      | refine LeO.ite ?_ ?_
      | refine LeO.bind ?_ (fun _ => ?_)
theorem masterdisclaw01_EndianMirrors.mono : ∀ a0 a1 k, LeO (masterdisclaw01_EndianMirrors.f k a0 a1) (masterdisclaw01_EndianMirrors.f (k + 1) a0 a1) := by
  intro a0 a1 k
  obtain ⟨ih0, ih1, ih2⟩ := masterdisclaw01_EndianMirrors.mono_l k
  unfold masterdisclaw01_EndianMirrors.f
  repeat' first
      | (with_reducible exact ih0 _ _ _ _ _ _)
      | (with_reducible exact ih1 _ _ _ _ _ _ _)
      | (with_reducible exact ih2 _ _ _ _ _)
      | (with_reducible exact LeO.refl _)
      | (with_reducible exact LeO.none _)
      | (with_reducible refine LeO.ite ?_ ?_)
      | (with_reducible refine LeO.bind ?_ (fun _ => ?_))
      | exact ih0 _ _ _ _ _ _
      | exact ih1 _ _ _ _ _ _ _
      | exact ih2 _ _ _ _ _
      | exact LeO.none _
      | refine LeO.ite ?_ ?_
      | refine LeO.bind ?_ (fun _ => ?_)
set_option maxHeartbeats 8000000 in
set_option maxRecDepth 100000 in
theorem masterdisclaw01_EndianMirrors.calls (k : Nat) (a0 : Int) (a1 : Int) (r : Bool) (w : World) (h : masterdisclaw01_EndianMirrors.f k a0 a1 = some r) :
    Calls Try.prog 4 #[.int .i64 a0, .int .i64 a1] w fun e w' => e = .returned (.bool r) ∧ Below w.heap.size w w' := by
  have HB := Aside0.mk (Below.refl w.heap.size w)
  have H : ((masterdisclaw01_awake.f).bind fun t143 => (if t143 = true then ((endian_Little.f a0 a1).bind fun bt144 => ((endian_Big.f a0 a1).bind fun bt146 => (if bt144.2 = bt146.2 then (masterdisclaw01_EndianMirrors.j0 k a0 a1 bt144.1 bt144.2 bt146.1 ((bt144.1.size : Int) != (bt146.1.size : Int))) else (masterdisclaw01_EndianMirrors.j0 k a0 a1 bt144.1 bt144.2 bt146.1 true)))) else (some false))) = some r := h
  clear h
  replace H := Option.bind_eq_some_iff.mp H
  obtain ⟨t143, A30, H⟩ := H
  replace H : (if t143 = true then ((endian_Little.f a0 a1).bind fun bt144 => ((endian_Big.f a0 a1).bind fun bt146 => (if bt144.2 = bt146.2 then (masterdisclaw01_EndianMirrors.j0 k a0 a1 bt144.1 bt144.2 bt146.1 ((bt144.1.size : Int) != (bt146.1.size : Int))) else (masterdisclaw01_EndianMirrors.j0 k a0 a1 bt144.1 bt144.2 bt146.1 true)))) else (some false)) = some r := H
  have A3 := Aside0.mk A30
  clear A30
  by_cases c4 : t143 = true
  · subst c4
    have H1 : ((endian_Little.f a0 a1).bind fun bt144 => ((endian_Big.f a0 a1).bind fun bt146 => (if bt144.2 = bt146.2 then (masterdisclaw01_EndianMirrors.j0 k a0 a1 bt144.1 bt144.2 bt146.1 ((bt144.1.size : Int) != (bt146.1.size : Int))) else (masterdisclaw01_EndianMirrors.j0 k a0 a1 bt144.1 bt144.2 bt146.1 true)))) = some r := by rw [if_pos rfl] at H; exact H
    clear H
    have H := H1
    clear H1
    replace H := Option.bind_eq_some_iff.mp H
    obtain ⟨⟨t144, t145⟩, A50, H⟩ := H
    replace H : ((endian_Big.f a0 a1).bind fun bt146 => (if t145 = bt146.2 then (masterdisclaw01_EndianMirrors.j0 k a0 a1 t144 t145 bt146.1 ((t144.size : Int) != (bt146.1.size : Int))) else (masterdisclaw01_EndianMirrors.j0 k a0 a1 t144 t145 bt146.1 true))) = some r := H
    have A5 := Aside0.mk A50
    clear A50
    replace H := Option.bind_eq_some_iff.mp H
    obtain ⟨⟨t146, t147⟩, A60, H⟩ := H
    replace H : (if t145 = t147 then (masterdisclaw01_EndianMirrors.j0 k a0 a1 t144 t145 t146 ((t144.size : Int) != (t146.size : Int))) else (masterdisclaw01_EndianMirrors.j0 k a0 a1 t144 t145 t146 true)) = some r := H
    have A6 := Aside0.mk A60
    clear A60
    have HC7 := Aside0.mk H
    clear H
    go_enter Try.func4, Try.ntmps4
    go_upto_region 5 with (first | (go_at_call 10; (with_reducible refine (masterdisclaw01_awake.calls  true _ A3.out).mono ?_); rintro e w8 ⟨rfl, hb⟩; have n0_ := Aside0.mk (below_step (by repeat (first | (with_reducible first | exact HB.out | apply below_alloc | apply pw_below_drewN | apply below_drew1) | exact HB.out)) hb); clear HB; have HB := n0_; clear n0_; (try clear hb); (try clear hb2); (try clear hk); (try clear hi)) | (go_at_call 11; (with_reducible refine (endian_Little.calls a0 a1 t144 t145 _ A5.out).mono ?_); rintro e w9 ⟨rfl, hb⟩; have n0_ := Aside0.mk (below_step (by repeat (first | (with_reducible first | exact HB.out | apply below_alloc | apply pw_below_drewN | apply below_drew1) | exact HB.out)) hb); clear HB; have HB := n0_; clear n0_; (try clear hb); (try clear hb2); (try clear hk); (try clear hi)) | (go_at_call 13; (with_reducible refine (endian_Big.calls a0 a1 t146 t147 _ A6.out).mono ?_); rintro e w10 ⟨rfl, hb⟩; have n0_ := Aside0.mk (below_step (by repeat (first | (with_reducible first | exact HB.out | apply below_alloc | apply pw_below_drewN | apply below_drew1) | exact HB.out)) hb); clear HB; have HB := n0_; clear n0_; (try clear hb); (try clear hb2); (try clear hk); (try clear hi)))
    repeat (go_quiet (first | (go_at_call 10; (with_reducible refine (masterdisclaw01_awake.calls  true _ A3.out).mono ?_); rintro e w8 ⟨rfl, hb⟩; have n0_ := Aside0.mk (below_step (by repeat (first | (with_reducible first | exact HB.out | apply below_alloc | apply pw_below_drewN | apply below_drew1) | exact HB.out)) hb); clear HB; have HB := n0_; clear n0_; (try clear hb); (try clear hb2); (try clear hk); (try clear hi)) | (go_at_call 11; (with_reducible refine (endian_Little.calls a0 a1 t144 t145 _ A5.out).mono ?_); rintro e w9 ⟨rfl, hb⟩; have n0_ := Aside0.mk (below_step (by repeat (first | (with_reducible first | exact HB.out | apply below_alloc | apply pw_below_drewN | apply below_drew1) | exact HB.out)) hb); clear HB; have HB := n0_; clear n0_; (try clear hb); (try clear hb2); (try clear hk); (try clear hi)) | (go_at_call 13; (with_reducible refine (endian_Big.calls a0 a1 t146 t147 _ A6.out).mono ?_); rintro e w10 ⟨rfl, hb⟩; have n0_ := Aside0.mk (below_step (by repeat (first | (with_reducible first | exact HB.out | apply below_alloc | apply pw_below_drewN | apply below_drew1) | exact HB.out)) hb); clear HB; have HB := n0_; clear n0_; (try clear hb); (try clear hb2); (try clear hk); (try clear hi))); go_upto_region 5 with (first | (go_at_call 10; (with_reducible refine (masterdisclaw01_awake.calls  true _ A3.out).mono ?_); rintro e w8 ⟨rfl, hb⟩; have n0_ := Aside0.mk (below_step (by repeat (first | (with_reducible first | exact HB.out | apply below_alloc | apply pw_below_drewN | apply below_drew1) | exact HB.out)) hb); clear HB; have HB := n0_; clear n0_; (try clear hb); (try clear hb2); (try clear hk); (try clear hi)) | (go_at_call 11; (with_reducible refine (endian_Little.calls a0 a1 t144 t145 _ A5.out).mono ?_); rintro e w9 ⟨rfl, hb⟩; have n0_ := Aside0.mk (below_step (by repeat (first | (with_reducible first | exact HB.out | apply below_alloc | apply pw_below_drewN | apply below_drew1) | exact HB.out)) hb); clear HB; have HB := n0_; clear n0_; (try clear hb); (try clear hb2); (try clear hk); (try clear hi)) | (go_at_call 13; (with_reducible refine (endian_Big.calls a0 a1 t146 t147 _ A6.out).mono ?_); rintro e w10 ⟨rfl, hb⟩; have n0_ := Aside0.mk (below_step (by repeat (first | (with_reducible first | exact HB.out | apply below_alloc | apply pw_below_drewN | apply below_drew1) | exact HB.out)) hb); clear HB; have HB := n0_; clear n0_; (try clear hb); (try clear hb2); (try clear hk); (try clear hi))))
    (try simp only [Act.put, List.setIfInBounds_toArray, List.set_cons_zero, List.set_cons_succ])
    go_cut [37] (fun v37 wc => ∃ (kq : Nat) (x37_6 : Bool), v37 = .bool x37_6 ∧ Aside0 (masterdisclaw01_EndianMirrors.j0 kq a0 a1 t144 t145 t146 x37_6 = some r) ∧ Aside0 (kq ≤ k) ∧ Aside0 (Below w.heap.size w wc))
    case first =>
      have H := HC7.out
      clear HC7
      by_cases c11 : t145 = t147
      · rw [if_pos c11] at H
        have c11b0 : (t145 == t147) = true := beq_iff_eq.mpr c11
        have c11b1 : (t145 != t147) = false := bne_eq_false_iff_eq.mpr c11
        clear c11
        (first | rw [c11b0] | (simp only [i64_w, i32_w]; rw [c11b0]) | skip)
        have H' := Aside0.mk H
        clear H
        go_wp2
        repeat (go_quiet (fail); try go_wp2)
        go_meet
        case rel => exact ⟨_, (((t144.size : Int) != (t146.size : Int))), (by first | rfl | (simp; done) | (simp [*]; done)), H', ⟨by first | omega | exact Nat.le_refl _⟩, ⟨by repeat (first | (with_reducible first | exact HB.out | apply below_alloc | apply pw_below_drewN | apply below_drew1) | exact HB.out)⟩⟩
      · rw [if_neg c11] at H
        have c11b0 : (t145 == t147) = false := beq_eq_false_iff_ne.mpr c11
        have c11b1 : (t145 != t147) = true := bne_iff_ne.mpr c11
        (first | rw [c11b0] | (simp only [i64_w, i32_w]; rw [c11b0]) | skip)
        have H' := Aside0.mk H
        clear H
        go_wp2
        repeat (go_quiet (fail); try go_wp2)
        go_meet
        case rel => exact ⟨_, (true), (by first | rfl | (simp; done) | (simp [*]; done)), H', ⟨by first | omega | exact Nat.le_refl _⟩, ⟨by repeat (first | (with_reducible first | exact HB.out | apply below_alloc | apply pw_below_drewN | apply below_drew1) | exact HB.out)⟩⟩
    case rest =>
      clear HC7
      try clear c1
      try clear p2
      try clear c4
      try clear c11
      try clear c11b0
      try clear c11b1
      obtain ⟨kq, x37_6, rfl, HA, HJ6, HB⟩ := hcut
      cases kq with
      | zero => exact absurd HA.out (by simp [masterdisclaw01_EndianMirrors.j0])
      | succ kj6 =>
        have H := HA.out
        clear HA
        simp only [masterdisclaw01_EndianMirrors.j0] at H
        by_cases c12 : x37_6 = true
        · subst c12
          have H1 : (some false) = some r := by rw [if_pos rfl] at H; exact H
          clear H
          have H := H1
          clear H1
          obtain rfl := Option.some.inj H
          go_wp2
          repeat (go_quiet (fail); try go_wp2)
          go_ret
          exact ⟨by first | rfl | (simp [errW_none, errW_some] <;> rfl) | (simp [*, errW_none, errW_some] <;> rfl), by repeat (first | (with_reducible first | exact HB.out | apply below_alloc | apply pw_below_drewN | apply below_drew1) | exact HB.out)⟩
        · replace c12 := Bool.eq_false_iff.mpr c12
          subst c12
          have H1 : (masterdisclaw01_EndianMirrors.l0 kj6 a0 a1 t144 t145 t146 (t144.size : Int) 0) = some r := by rw [if_neg (show ¬ (false = true) by decide)] at H; exact H
          clear H
          have H := H1
          clear H1
          have H' := Aside0.mk H
          clear H
          go_wp2
          repeat (go_quiet (fail); try go_wp2)
          go_loopg [40] kj6 (fun kq v40 w' => ∃ (x40_2 : Int), v40 = .int .i64 x40_2 ∧ Aside0 (masterdisclaw01_EndianMirrors.l0 kq a0 a1 t144 t145 t146 (t144.size : Int) x40_2 = some r) ∧ Aside0 (kq ≤ kj6) ∧ Aside0 (Below w.heap.size w w'))
          case atStart => exact ⟨(0), (by first | rfl | (simp; done) | (simp [*]; done)), H', ⟨Nat.le_refl _⟩, ⟨by repeat (first | (with_reducible first | exact HB.out | apply below_alloc | apply pw_below_drewN | apply below_drew1) | exact HB.out)⟩⟩
          case round =>
            clear H'
            try clear c1
            try clear p2
            try clear c4
            try clear c11
            try clear c11b0
            try clear c11b1
            try clear c12
            try clear p2
            obtain ⟨x40_2, rfl, HA, HK2, HB⟩ := hrel
            cases gk with
            | zero => exact absurd HA.out (by simp [masterdisclaw01_EndianMirrors.l0])
            | succ k2 =>
              have H := HA.out
              clear HA
              simp only [masterdisclaw01_EndianMirrors.l0] at H
              by_cases c13 : x40_2 < (t144.size : Int)
              · rw [if_pos c13] at H
                have c13b0 : decide (x40_2 < (t144.size : Int)) = true := decide_eq_true c13
                clear c13
                by_cases c14 : 0 ≤ x40_2
                · rw [if_pos c14] at H
                  have c14b0 : decide (0 ≤ x40_2) = true := decide_eq_true c14
                  clear c14
                  by_cases c15 : x40_2 < (t144.size : Int)
                  · rw [if_pos c15] at H
                    have c15b0 : decide (x40_2 < (t144.size : Int)) = true := decide_eq_true c15
                    clear c15
                    obtain ⟨ji17, hji17⟩ : ∃ j_ : Int, (wrap64 ((wrap64 ((t146.size : Int) - 1)) - x40_2)) = j_ := ⟨_, rfl⟩
                    replace H : (if 0 ≤ (ji17) then (if (ji17) < (t146.size : Int) then (if (bt t144 x40_2) = (bt t146 (ji17)) then (masterdisclaw01_EndianMirrors.l0 k2 a0 a1 t144 t145 t146 (t144.size : Int) (wrap64 (x40_2 + 1))) else (some false)) else (none)) else (none)) = some r := by first | (rw [hji17] at H; exact H) | (simp only [hji17] at H ⊢; exact H)
                    have hji17w : (IntKind.i64.wrap ((wrap64 ((t146.size : Int) - 1)) - x40_2)) = ji17 := (i64_w _).trans hji17
                    by_cases c18 : 0 ≤ (ji17)
                    · rw [if_pos c18] at H
                      have c18b0 : decide (0 ≤ (ji17)) = true := decide_eq_true c18
                      clear c18
                      by_cases c19 : (ji17) < (t146.size : Int)
                      · rw [if_pos c19] at H
                        have c19b0 : decide ((ji17) < (t146.size : Int)) = true := decide_eq_true c19
                        clear c19
                        by_cases c21 : (bt t144 x40_2) = (bt t146 (ji17))
                        · rw [if_pos c21] at H
                          have c21b0 : ((bt t144 x40_2) == (bt t146 (ji17))) = true := beq_iff_eq.mpr c21
                          have c21b1 : ((bt t144 x40_2) != (bt t146 (ji17))) = false := bne_eq_false_iff_eq.mpr c21
                          clear c21
                          have H' := Aside0.mk H
                          clear H
                          have p16 : 0 ≤ (x40_2 : Int) := of_decide_eq_true (by first | (with_reducible assumption) | assumption)
                          have q16 : x40_2 < (t144.size : Int) := of_decide_eq_true (by first | (with_reducible assumption) | assumption)
                          have hx16 := bt_at t144 x40_2
                          replace p16 := eq_true p16
                          replace q16 := eq_true q16
                          have p20 : 0 ≤ ((ji17) : Int) := of_decide_eq_true (by first | (with_reducible assumption) | assumption)
                          have q20 : (ji17) < (t146.size : Int) := of_decide_eq_true (by first | (with_reducible assumption) | assumption)
                          have hx20 := bt_at t146 (ji17)
                          replace p20 := eq_true p20
                          replace q20 := eq_true q20
                          go_wp2
                          repeat (go_quiet (fail); try go_wp2)
                          go_roundg k2
                          case measure => have := HJ6.out; have := HK2.out; omega
                          case rel => exact ⟨(wrap64 (x40_2 + 1)), (by first | rfl | (simp; done) | (simp [*]; done)), H', ⟨by have := HJ6.out; have := HK2.out; omega⟩, ⟨by repeat (first | (with_reducible first | exact HB.out | apply below_alloc | apply pw_below_drewN | apply below_drew1) | exact HB.out)⟩⟩
                        · rw [if_neg c21] at H
                          have c21b0 : ((bt t144 x40_2) == (bt t146 (ji17))) = false := beq_eq_false_iff_ne.mpr c21
                          have c21b1 : ((bt t144 x40_2) != (bt t146 (ji17))) = true := bne_iff_ne.mpr c21
                          obtain rfl := Option.some.inj H
                          have p16 : 0 ≤ (x40_2 : Int) := of_decide_eq_true (by first | (with_reducible assumption) | assumption)
                          have q16 : x40_2 < (t144.size : Int) := of_decide_eq_true (by first | (with_reducible assumption) | assumption)
                          have hx16 := bt_at t144 x40_2
                          replace p16 := eq_true p16
                          replace q16 := eq_true q16
                          have p20 : 0 ≤ ((ji17) : Int) := of_decide_eq_true (by first | (with_reducible assumption) | assumption)
                          have q20 : (ji17) < (t146.size : Int) := of_decide_eq_true (by first | (with_reducible assumption) | assumption)
                          have hx20 := bt_at t146 (ji17)
                          replace p20 := eq_true p20
                          replace q20 := eq_true q20
                          go_wp2
                          repeat (go_quiet (fail); try go_wp2)
                          go_ret
                          exact ⟨by first | rfl | (simp [errW_none, errW_some] <;> rfl) | (simp only [← hji17]; first | rfl | (simp [errW_none, errW_some] <;> rfl)) | (simp [*, errW_none, errW_some] <;> rfl), by repeat (first | (with_reducible first | exact HB.out | apply below_alloc | apply pw_below_drewN | apply below_drew1) | exact HB.out)⟩
                      · rw [if_neg c19] at H
                        exact absurd H (by simp)
                    · rw [if_neg c18] at H
                      exact absurd H (by simp)
                  · rw [if_neg c15] at H
                    exact absurd H (by simp)
                · rw [if_neg c14] at H
                  exact absurd H (by simp)
              · rw [if_neg c13] at H
                have c13b0 : decide (x40_2 < (t144.size : Int)) = false := decide_eq_false c13
                clear c13
                have HC22 := Aside0.mk H
                clear H
                go_upto_region 13 with (fail)
                repeat (go_quiet (fail); go_upto_region 13 with (fail))
                go_cut [60] (fun v60 wc => ∃ (kq : Nat) (x60_21 : Bool), v60 = .bool x60_21 ∧ Aside0 (masterdisclaw01_EndianMirrors.j2 kq a0 a1 t144 t146 x60_21 = some r) ∧ Aside0 (kq ≤ k2) ∧ Aside0 (Below w.heap.size w wc))
                case first =>
                  have H := HC22.out
                  clear HC22
                  by_cases c23 : t145 = 0
                  · rw [if_pos c23] at H
                    have c23b0 : (t145 == 0) = true := beq_iff_eq.mpr c23
                    have c23b1 : (t145 != 0) = false := bne_eq_false_iff_eq.mpr c23
                    clear c23
                    (first | rw [c23b0] | (simp only [i64_w, i32_w]; rw [c23b0]) | skip)
                    have H' := Aside0.mk H
                    clear H
                    go_wp2
                    repeat (go_quiet (fail); try go_wp2)
                    go_meet
                    case rel => exact ⟨_, ((a1 == 8)), (by first | rfl | (simp; done) | (simp [*]; done)), H', ⟨by have := HJ6.out; have := HK2.out; first | omega | exact Nat.le_refl _⟩, ⟨by repeat (first | (with_reducible first | exact HB.out | apply below_alloc | apply pw_below_drewN | apply below_drew1) | exact HB.out)⟩⟩
                  · rw [if_neg c23] at H
                    have c23b0 : (t145 == 0) = false := beq_eq_false_iff_ne.mpr c23
                    have c23b1 : (t145 != 0) = true := bne_iff_ne.mpr c23
                    (first | rw [c23b0] | (simp only [i64_w, i32_w]; rw [c23b0]) | skip)
                    have H' := Aside0.mk H
                    clear H
                    go_wp2
                    repeat (go_quiet (fail); try go_wp2)
                    go_meet
                    case rel => exact ⟨_, (true), (by first | rfl | (simp; done) | (simp [*]; done)), H', ⟨by have := HJ6.out; have := HK2.out; first | omega | exact Nat.le_refl _⟩, ⟨by repeat (first | (with_reducible first | exact HB.out | apply below_alloc | apply pw_below_drewN | apply below_drew1) | exact HB.out)⟩⟩
                case rest =>
                  clear HC22
                  try clear c1
                  try clear p1
                  try clear q1
                  try clear hx1
                  try clear c2
                  try clear p2
                  try clear q2
                  try clear hx2
                  try clear c4
                  try clear p6
                  try clear c11
                  try clear c11b0
                  try clear c11b1
                  try clear c12
                  try clear c13
                  try clear c13b0
                  try clear c14
                  try clear c14b0
                  try clear c15
                  try clear c15b0
                  try clear p16
                  try clear q16
                  try clear hx16
                  try clear c18
                  try clear c18b0
                  try clear c19
                  try clear c19b0
                  try clear p20
                  try clear q20
                  try clear hx20
                  try clear c21
                  try clear c21b0
                  try clear c21b1
                  try clear c23
                  try clear c23b0
                  try clear c23b1
                  try clear p16
                  try clear p2
                  try clear p20
                  try clear q16
                  try clear q20
                  obtain ⟨kq, x60_21, rfl, HA, HJ21, HB⟩ := hcut
                  cases kq with
                  | zero => exact absurd HA.out (by simp [masterdisclaw01_EndianMirrors.j2])
                  | succ kj21 =>
                    have H := HA.out
                    clear HA
                    simp only [masterdisclaw01_EndianMirrors.j2] at H
                    by_cases c24 : x60_21 = true
                    · subst c24
                      have H1 : (some true) = some r := by rw [if_pos rfl] at H; exact H
                      clear H
                      have H := H1
                      clear H1
                      obtain rfl := Option.some.inj H
                      go_wp2
                      repeat (go_quiet (fail); try go_wp2)
                      go_ret
                      exact ⟨by first | rfl | (simp [errW_none, errW_some] <;> rfl) | (simp [*, errW_none, errW_some] <;> rfl), by repeat (first | (with_reducible first | exact HB.out | apply below_alloc | apply pw_below_drewN | apply below_drew1) | exact HB.out)⟩
                    · replace c24 := Bool.eq_false_iff.mpr c24
                      subst c24
                      have H1 : ((endian_Little.f a0 (wrap64 (a1 + 1))).bind fun bt148 => ((endian_Big.f a0 (wrap64 (a1 + 1))).bind fun bt150 => (if bt148.2 = 0 then (if bt150.2 = 0 then (if t144.size + 1 ≤ 9223372036854775807 then (if bt148.1.toList = (t144 ++ (⟨#[0]⟩ : ByteArray)).toList then (if 1 + t146.size ≤ 9223372036854775807 then (some (bt150.1.toList == ((⟨#[0]⟩ : ByteArray) ++ t146).toList)) else (none)) else (some false)) else (none)) else (some false)) else (some false)))) = some r := by rw [if_neg (show ¬ (false = true) by decide)] at H; exact H
                      clear H
                      have H := H1
                      clear H1
                      replace H := Option.bind_eq_some_iff.mp H
                      obtain ⟨⟨t148, t149⟩, A250, H⟩ := H
                      replace H : ((endian_Big.f a0 (wrap64 (a1 + 1))).bind fun bt150 => (if t149 = 0 then (if bt150.2 = 0 then (if t144.size + 1 ≤ 9223372036854775807 then (if t148.toList = (t144 ++ (⟨#[0]⟩ : ByteArray)).toList then (if 1 + t146.size ≤ 9223372036854775807 then (some (bt150.1.toList == ((⟨#[0]⟩ : ByteArray) ++ t146).toList)) else (none)) else (some false)) else (none)) else (some false)) else (some false))) = some r := H
                      have A25 := Aside0.mk A250
                      clear A250
                      replace H := Option.bind_eq_some_iff.mp H
                      obtain ⟨⟨t150, t151⟩, A260, H⟩ := H
                      replace H : (if t149 = 0 then (if t151 = 0 then (if t144.size + 1 ≤ 9223372036854775807 then (if t148.toList = (t144 ++ (⟨#[0]⟩ : ByteArray)).toList then (if 1 + t146.size ≤ 9223372036854775807 then (some (t150.toList == ((⟨#[0]⟩ : ByteArray) ++ t146).toList)) else (none)) else (some false)) else (none)) else (some false)) else (some false)) = some r := H
                      have A26 := Aside0.mk A260
                      clear A260
                      by_cases c27 : t149 = 0
                      · rw [if_pos c27] at H
                        have c27b0 : (t149 == 0) = true := beq_iff_eq.mpr c27
                        have c27b1 : (t149 != 0) = false := bne_eq_false_iff_eq.mpr c27
                        clear c27
                        by_cases c28 : t151 = 0
                        · rw [if_pos c28] at H
                          have c28b0 : (t151 == 0) = true := beq_iff_eq.mpr c28
                          have c28b1 : (t151 != 0) = false := bne_eq_false_iff_eq.mpr c28
                          clear c28
                          by_cases c29 : t144.size + 1 ≤ 9223372036854775807
                          · rw [if_pos c29] at H
                            have c29b0 := eq_true c29
                            have c29b1 : decide (t144.size + 1 ≤ 9223372036854775807) = true := decide_eq_true c29
                            try have c29b2 : (9223372036854775807 < t144.size + 1) = False := eq_false (Nat.not_lt.2 c29)
                            by_cases c30 : t148.toList = (t144 ++ (⟨#[0]⟩ : ByteArray)).toList
                            · rw [if_pos c30] at H
                              have c30b0 : (t148.toList == (t144 ++ (⟨#[0]⟩ : ByteArray)).toList) = true := beq_iff_eq.mpr c30
                              have c30b1 : (t148.toList != (t144 ++ (⟨#[0]⟩ : ByteArray)).toList) = false := bne_eq_false_iff_eq.mpr c30
                              clear c30
                              by_cases c31 : 1 + t146.size ≤ 9223372036854775807
                              · rw [if_pos c31] at H
                                have c31b0 := eq_true c31
                                have c31b1 : decide (1 + t146.size ≤ 9223372036854775807) = true := decide_eq_true c31
                                try have c31b2 : (9223372036854775807 < 1 + t146.size) = False := eq_false (Nat.not_lt.2 c31)
                                obtain rfl := Option.some.inj H
                                go_wp2_with (first | (go_at_call 11; (with_reducible refine (endian_Little.calls a0 (wrap64 (a1 + 1)) t148 t149 _ A25.out).mono ?_); rintro e w32 ⟨rfl, hb⟩; have n0_ := Aside0.mk (below_step (by repeat (first | (with_reducible first | exact HB.out | apply below_alloc | apply pw_below_drewN | apply below_drew1) | exact HB.out)) hb); clear HB; have HB := n0_; clear n0_; (try clear hb); (try clear hb2); (try clear hk); (try clear hi)) | (go_at_call 13; (with_reducible refine (endian_Big.calls a0 (wrap64 (a1 + 1)) t150 t151 _ A26.out).mono ?_); rintro e w33 ⟨rfl, hb⟩; have n0_ := Aside0.mk (below_step (by repeat (first | (with_reducible first | exact HB.out | apply below_alloc | apply pw_below_drewN | apply below_drew1) | exact HB.out)) hb); clear HB; have HB := n0_; clear n0_; (try clear hb); (try clear hb2); (try clear hk); (try clear hi)))
                                repeat (go_quiet (first | (go_at_call 11; (with_reducible refine (endian_Little.calls a0 (wrap64 (a1 + 1)) t148 t149 _ A25.out).mono ?_); rintro e w32 ⟨rfl, hb⟩; have n0_ := Aside0.mk (below_step (by repeat (first | (with_reducible first | exact HB.out | apply below_alloc | apply pw_below_drewN | apply below_drew1) | exact HB.out)) hb); clear HB; have HB := n0_; clear n0_; (try clear hb); (try clear hb2); (try clear hk); (try clear hi)) | (go_at_call 13; (with_reducible refine (endian_Big.calls a0 (wrap64 (a1 + 1)) t150 t151 _ A26.out).mono ?_); rintro e w33 ⟨rfl, hb⟩; have n0_ := Aside0.mk (below_step (by repeat (first | (with_reducible first | exact HB.out | apply below_alloc | apply pw_below_drewN | apply below_drew1) | exact HB.out)) hb); clear HB; have HB := n0_; clear n0_; (try clear hb); (try clear hb2); (try clear hk); (try clear hi))); try go_wp2_with (first | (go_at_call 11; (with_reducible refine (endian_Little.calls a0 (wrap64 (a1 + 1)) t148 t149 _ A25.out).mono ?_); rintro e w32 ⟨rfl, hb⟩; have n0_ := Aside0.mk (below_step (by repeat (first | (with_reducible first | exact HB.out | apply below_alloc | apply pw_below_drewN | apply below_drew1) | exact HB.out)) hb); clear HB; have HB := n0_; clear n0_; (try clear hb); (try clear hb2); (try clear hk); (try clear hi)) | (go_at_call 13; (with_reducible refine (endian_Big.calls a0 (wrap64 (a1 + 1)) t150 t151 _ A26.out).mono ?_); rintro e w33 ⟨rfl, hb⟩; have n0_ := Aside0.mk (below_step (by repeat (first | (with_reducible first | exact HB.out | apply below_alloc | apply pw_below_drewN | apply below_drew1) | exact HB.out)) hb); clear HB; have HB := n0_; clear n0_; (try clear hb); (try clear hb2); (try clear hk); (try clear hi))))
                                go_ret
                                exact ⟨by first | rfl | (simp [errW_none, errW_some] <;> rfl) | (simp [*, errW_none, errW_some] <;> rfl), by repeat (first | (with_reducible first | exact HB.out | apply below_alloc | apply pw_below_drewN | apply below_drew1) | exact HB.out)⟩
                              · rw [if_neg c31] at H
                                exact absurd H (by simp)
                            · rw [if_neg c30] at H
                              have c30b0 : (t148.toList == (t144 ++ (⟨#[0]⟩ : ByteArray)).toList) = false := beq_eq_false_iff_ne.mpr c30
                              have c30b1 : (t148.toList != (t144 ++ (⟨#[0]⟩ : ByteArray)).toList) = true := bne_iff_ne.mpr c30
                              obtain rfl := Option.some.inj H
                              go_wp2_with (first | (go_at_call 11; (with_reducible refine (endian_Little.calls a0 (wrap64 (a1 + 1)) t148 t149 _ A25.out).mono ?_); rintro e w34 ⟨rfl, hb⟩; have n0_ := Aside0.mk (below_step (by repeat (first | (with_reducible first | exact HB.out | apply below_alloc | apply pw_below_drewN | apply below_drew1) | exact HB.out)) hb); clear HB; have HB := n0_; clear n0_; (try clear hb); (try clear hb2); (try clear hk); (try clear hi)) | (go_at_call 13; (with_reducible refine (endian_Big.calls a0 (wrap64 (a1 + 1)) t150 t151 _ A26.out).mono ?_); rintro e w35 ⟨rfl, hb⟩; have n0_ := Aside0.mk (below_step (by repeat (first | (with_reducible first | exact HB.out | apply below_alloc | apply pw_below_drewN | apply below_drew1) | exact HB.out)) hb); clear HB; have HB := n0_; clear n0_; (try clear hb); (try clear hb2); (try clear hk); (try clear hi)))
                              repeat (go_quiet (first | (go_at_call 11; (with_reducible refine (endian_Little.calls a0 (wrap64 (a1 + 1)) t148 t149 _ A25.out).mono ?_); rintro e w34 ⟨rfl, hb⟩; have n0_ := Aside0.mk (below_step (by repeat (first | (with_reducible first | exact HB.out | apply below_alloc | apply pw_below_drewN | apply below_drew1) | exact HB.out)) hb); clear HB; have HB := n0_; clear n0_; (try clear hb); (try clear hb2); (try clear hk); (try clear hi)) | (go_at_call 13; (with_reducible refine (endian_Big.calls a0 (wrap64 (a1 + 1)) t150 t151 _ A26.out).mono ?_); rintro e w35 ⟨rfl, hb⟩; have n0_ := Aside0.mk (below_step (by repeat (first | (with_reducible first | exact HB.out | apply below_alloc | apply pw_below_drewN | apply below_drew1) | exact HB.out)) hb); clear HB; have HB := n0_; clear n0_; (try clear hb); (try clear hb2); (try clear hk); (try clear hi))); try go_wp2_with (first | (go_at_call 11; (with_reducible refine (endian_Little.calls a0 (wrap64 (a1 + 1)) t148 t149 _ A25.out).mono ?_); rintro e w34 ⟨rfl, hb⟩; have n0_ := Aside0.mk (below_step (by repeat (first | (with_reducible first | exact HB.out | apply below_alloc | apply pw_below_drewN | apply below_drew1) | exact HB.out)) hb); clear HB; have HB := n0_; clear n0_; (try clear hb); (try clear hb2); (try clear hk); (try clear hi)) | (go_at_call 13; (with_reducible refine (endian_Big.calls a0 (wrap64 (a1 + 1)) t150 t151 _ A26.out).mono ?_); rintro e w35 ⟨rfl, hb⟩; have n0_ := Aside0.mk (below_step (by repeat (first | (with_reducible first | exact HB.out | apply below_alloc | apply pw_below_drewN | apply below_drew1) | exact HB.out)) hb); clear HB; have HB := n0_; clear n0_; (try clear hb); (try clear hb2); (try clear hk); (try clear hi))))
                              go_ret
                              exact ⟨by first | rfl | (simp [errW_none, errW_some] <;> rfl) | (simp [*, errW_none, errW_some] <;> rfl), by repeat (first | (with_reducible first | exact HB.out | apply below_alloc | apply pw_below_drewN | apply below_drew1) | exact HB.out)⟩
                          · rw [if_neg c29] at H
                            exact absurd H (by simp)
                        · rw [if_neg c28] at H
                          have c28b0 : (t151 == 0) = false := beq_eq_false_iff_ne.mpr c28
                          have c28b1 : (t151 != 0) = true := bne_iff_ne.mpr c28
                          obtain rfl := Option.some.inj H
                          go_wp2_with (first | (go_at_call 11; (with_reducible refine (endian_Little.calls a0 (wrap64 (a1 + 1)) t148 t149 _ A25.out).mono ?_); rintro e w36 ⟨rfl, hb⟩; have n0_ := Aside0.mk (below_step (by repeat (first | (with_reducible first | exact HB.out | apply below_alloc | apply pw_below_drewN | apply below_drew1) | exact HB.out)) hb); clear HB; have HB := n0_; clear n0_; (try clear hb); (try clear hb2); (try clear hk); (try clear hi)) | (go_at_call 13; (with_reducible refine (endian_Big.calls a0 (wrap64 (a1 + 1)) t150 t151 _ A26.out).mono ?_); rintro e w37 ⟨rfl, hb⟩; have n0_ := Aside0.mk (below_step (by repeat (first | (with_reducible first | exact HB.out | apply below_alloc | apply pw_below_drewN | apply below_drew1) | exact HB.out)) hb); clear HB; have HB := n0_; clear n0_; (try clear hb); (try clear hb2); (try clear hk); (try clear hi)))
                          repeat (go_quiet (first | (go_at_call 11; (with_reducible refine (endian_Little.calls a0 (wrap64 (a1 + 1)) t148 t149 _ A25.out).mono ?_); rintro e w36 ⟨rfl, hb⟩; have n0_ := Aside0.mk (below_step (by repeat (first | (with_reducible first | exact HB.out | apply below_alloc | apply pw_below_drewN | apply below_drew1) | exact HB.out)) hb); clear HB; have HB := n0_; clear n0_; (try clear hb); (try clear hb2); (try clear hk); (try clear hi)) | (go_at_call 13; (with_reducible refine (endian_Big.calls a0 (wrap64 (a1 + 1)) t150 t151 _ A26.out).mono ?_); rintro e w37 ⟨rfl, hb⟩; have n0_ := Aside0.mk (below_step (by repeat (first | (with_reducible first | exact HB.out | apply below_alloc | apply pw_below_drewN | apply below_drew1) | exact HB.out)) hb); clear HB; have HB := n0_; clear n0_; (try clear hb); (try clear hb2); (try clear hk); (try clear hi))); try go_wp2_with (first | (go_at_call 11; (with_reducible refine (endian_Little.calls a0 (wrap64 (a1 + 1)) t148 t149 _ A25.out).mono ?_); rintro e w36 ⟨rfl, hb⟩; have n0_ := Aside0.mk (below_step (by repeat (first | (with_reducible first | exact HB.out | apply below_alloc | apply pw_below_drewN | apply below_drew1) | exact HB.out)) hb); clear HB; have HB := n0_; clear n0_; (try clear hb); (try clear hb2); (try clear hk); (try clear hi)) | (go_at_call 13; (with_reducible refine (endian_Big.calls a0 (wrap64 (a1 + 1)) t150 t151 _ A26.out).mono ?_); rintro e w37 ⟨rfl, hb⟩; have n0_ := Aside0.mk (below_step (by repeat (first | (with_reducible first | exact HB.out | apply below_alloc | apply pw_below_drewN | apply below_drew1) | exact HB.out)) hb); clear HB; have HB := n0_; clear n0_; (try clear hb); (try clear hb2); (try clear hk); (try clear hi))))
                          go_ret
                          exact ⟨by first | rfl | (simp [errW_none, errW_some] <;> rfl) | (simp [*, errW_none, errW_some] <;> rfl), by repeat (first | (with_reducible first | exact HB.out | apply below_alloc | apply pw_below_drewN | apply below_drew1) | exact HB.out)⟩
                      · rw [if_neg c27] at H
                        have c27b0 : (t149 == 0) = false := beq_eq_false_iff_ne.mpr c27
                        have c27b1 : (t149 != 0) = true := bne_iff_ne.mpr c27
                        obtain rfl := Option.some.inj H
                        go_wp2_with (first | (go_at_call 11; (with_reducible refine (endian_Little.calls a0 (wrap64 (a1 + 1)) t148 t149 _ A25.out).mono ?_); rintro e w38 ⟨rfl, hb⟩; have n0_ := Aside0.mk (below_step (by repeat (first | (with_reducible first | exact HB.out | apply below_alloc | apply pw_below_drewN | apply below_drew1) | exact HB.out)) hb); clear HB; have HB := n0_; clear n0_; (try clear hb); (try clear hb2); (try clear hk); (try clear hi)) | (go_at_call 13; (with_reducible refine (endian_Big.calls a0 (wrap64 (a1 + 1)) t150 t151 _ A26.out).mono ?_); rintro e w39 ⟨rfl, hb⟩; have n0_ := Aside0.mk (below_step (by repeat (first | (with_reducible first | exact HB.out | apply below_alloc | apply pw_below_drewN | apply below_drew1) | exact HB.out)) hb); clear HB; have HB := n0_; clear n0_; (try clear hb); (try clear hb2); (try clear hk); (try clear hi)))
                        repeat (go_quiet (first | (go_at_call 11; (with_reducible refine (endian_Little.calls a0 (wrap64 (a1 + 1)) t148 t149 _ A25.out).mono ?_); rintro e w38 ⟨rfl, hb⟩; have n0_ := Aside0.mk (below_step (by repeat (first | (with_reducible first | exact HB.out | apply below_alloc | apply pw_below_drewN | apply below_drew1) | exact HB.out)) hb); clear HB; have HB := n0_; clear n0_; (try clear hb); (try clear hb2); (try clear hk); (try clear hi)) | (go_at_call 13; (with_reducible refine (endian_Big.calls a0 (wrap64 (a1 + 1)) t150 t151 _ A26.out).mono ?_); rintro e w39 ⟨rfl, hb⟩; have n0_ := Aside0.mk (below_step (by repeat (first | (with_reducible first | exact HB.out | apply below_alloc | apply pw_below_drewN | apply below_drew1) | exact HB.out)) hb); clear HB; have HB := n0_; clear n0_; (try clear hb); (try clear hb2); (try clear hk); (try clear hi))); try go_wp2_with (first | (go_at_call 11; (with_reducible refine (endian_Little.calls a0 (wrap64 (a1 + 1)) t148 t149 _ A25.out).mono ?_); rintro e w38 ⟨rfl, hb⟩; have n0_ := Aside0.mk (below_step (by repeat (first | (with_reducible first | exact HB.out | apply below_alloc | apply pw_below_drewN | apply below_drew1) | exact HB.out)) hb); clear HB; have HB := n0_; clear n0_; (try clear hb); (try clear hb2); (try clear hk); (try clear hi)) | (go_at_call 13; (with_reducible refine (endian_Big.calls a0 (wrap64 (a1 + 1)) t150 t151 _ A26.out).mono ?_); rintro e w39 ⟨rfl, hb⟩; have n0_ := Aside0.mk (below_step (by repeat (first | (with_reducible first | exact HB.out | apply below_alloc | apply pw_below_drewN | apply below_drew1) | exact HB.out)) hb); clear HB; have HB := n0_; clear n0_; (try clear hb); (try clear hb2); (try clear hk); (try clear hi))))
                        go_ret
                        exact ⟨by first | rfl | (simp [errW_none, errW_some] <;> rfl) | (simp [*, errW_none, errW_some] <;> rfl), by repeat (first | (with_reducible first | exact HB.out | apply below_alloc | apply pw_below_drewN | apply below_drew1) | exact HB.out)⟩
  · replace c4 := Bool.eq_false_iff.mpr c4
    subst c4
    have H1 : (some false) = some r := by rw [if_neg (show ¬ (false = true) by decide)] at H; exact H
    clear H
    have H := H1
    clear H1
    obtain rfl := Option.some.inj H
    go_enter Try.func4, Try.ntmps4
    go_wp2_with (first | (go_at_call 10; (with_reducible refine (masterdisclaw01_awake.calls  false _ A3.out).mono ?_); rintro e w40 ⟨rfl, hb⟩; have n0_ := Aside0.mk (below_step (by repeat (first | (with_reducible first | exact HB.out | apply below_alloc | apply pw_below_drewN | apply below_drew1) | exact HB.out)) hb); clear HB; have HB := n0_; clear n0_; (try clear hb); (try clear hb2); (try clear hk); (try clear hi)))
    repeat (go_quiet (first | (go_at_call 10; (with_reducible refine (masterdisclaw01_awake.calls  false _ A3.out).mono ?_); rintro e w40 ⟨rfl, hb⟩; have n0_ := Aside0.mk (below_step (by repeat (first | (with_reducible first | exact HB.out | apply below_alloc | apply pw_below_drewN | apply below_drew1) | exact HB.out)) hb); clear HB; have HB := n0_; clear n0_; (try clear hb); (try clear hb2); (try clear hk); (try clear hi))); try go_wp2_with (first | (go_at_call 10; (with_reducible refine (masterdisclaw01_awake.calls  false _ A3.out).mono ?_); rintro e w40 ⟨rfl, hb⟩; have n0_ := Aside0.mk (below_step (by repeat (first | (with_reducible first | exact HB.out | apply below_alloc | apply pw_below_drewN | apply below_drew1) | exact HB.out)) hb); clear HB; have HB := n0_; clear n0_; (try clear hb); (try clear hb2); (try clear hk); (try clear hi))))
    go_ret
    exact ⟨by first | rfl | (simp [errW_none, errW_some] <;> rfl) | (simp [*, errW_none, errW_some] <;> rfl), by repeat (first | (with_reducible first | exact HB.out | apply below_alloc | apply pw_below_drewN | apply below_drew1) | exact HB.out)⟩

/-- THE ONE PURE STATEMENT of masterdisclaw01_EndianMirrors: yours. -/
def masterdisclaw01_EndianMirrors.Pure : Prop := ∀ (a0 : Int) (a1 : Int), (Lit.int .i64 a0).wf = true → (Lit.int .i64 a1).wf = true → ∃ k, masterdisclaw01_EndianMirrors.f k a0 a1 = some true
theorem masterdisclaw01_EndianMirrors.walk (P : masterdisclaw01_EndianMirrors.Pure) (a0 : Int) (a1 : Int) (w : World) (w0 : (Lit.int .i64 a0).wf = true) (w1 : (Lit.int .i64 a1).wf = true) :
    Calls Try.prog 4 #[.int .i64 a0, .int .i64 a1] w fun e w' => e = .returned (.bool true) ∧ Below w.heap.size w w' := by
  obtain ⟨k, h⟩ := P a0 a1 w0 w1
  refine (masterdisclaw01_EndianMirrors.calls k a0 a1 true w h).mono ?_
  rintro e w' ⟨rfl, hd⟩
  exact ⟨rfl, hd⟩

end Go.Proofs.Ytbkakfaeeodmmaa.G
