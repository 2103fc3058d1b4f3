/- The calls of functions of the given program come to what the Lean functions of the same names tell, at all arguments at which these tell something; no other condition. Written by a program of this session. -/
import Derived.Test.YtbkakfaeeodmmaaX0
import Derived.Test.YtbkakfaeeodmmaaXAw1
import Derived.Test.YtbkakfaeeodmmaaXEn
import Derived.Test.YtbkakfaeeodmmaaXRa
namespace Go.Proofs.Ytbkakfaeeodmmaa.G
open Go.RowKit Go.Proofs.YtbkakfaeeodmmaaW.PrintWords Go.Proofs.YtbkakfaeeodmmaaW.PrintLast Go.Proofs.YtbkakfaeeodmmaaW.PrintMore
attribute [local go_sem] max2_int min2_int max_two min_two max_three min_three max_four min_four   -- for this text's walks alone
set_option linter.unusedVariables false
set_option linter.unusedSimpArgs false

/-! ### masterdisclaw01_EndianDecimals: function 5 -/
mutual
def masterdisclaw01_EndianDecimals.j0 : Nat → Int → Int → Int → Int → Int → Int → Bool → Option (Bool)
  | 0, _, _, _, _, _, _, _ => none
  | k + 1, x0, x1, x5, x6, x9, x10, x56 => if x56 = true then (some false) else (if x6 = 0 then ((endian_FromBCD.f x5).bind fun bt161 => (if bt161.1 = x0 then (if bt161.2 = 0 then (masterdisclaw01_EndianDecimals.j1 k x1 x9 x10) else (some false)) else (some false))) else (masterdisclaw01_EndianDecimals.j1 k x1 x9 x10))
def masterdisclaw01_EndianDecimals.j1 : Nat → Int → Int → Int → Option (Bool)
  | 0, _, _, _ => none
  | k + 1, x1, x9, x10 => if x10 = 0 then ((endian_BCD.f x9).bind fun bt163 => (if bt163.1 = x1 then (if bt163.2 = 0 then (some true) else (some false)) else (some false))) else (some true)
end
def masterdisclaw01_EndianDecimals.f (k : Nat) (a0 : Int) (a1 : Int) : Option (Bool) := (masterdisclaw01_awake.f).bind fun t152 => (if t152 = true then ((endian_BCD.f a0).bind fun bt153 => ((masterdiscref01_BCD.f a0).bind fun bt155 => ((endian_FromBCD.f a1).bind fun bt157 => ((masterdiscref01_FromBCD.f a1).bind fun bt159 => (if bt153.1 = bt155.1 then (if bt153.2 = bt155.2 then (if bt157.1 = bt159.1 then (masterdisclaw01_EndianDecimals.j0 k a0 a1 bt153.1 bt153.2 bt157.1 bt157.2 (bt157.2 != bt159.2)) else (masterdisclaw01_EndianDecimals.j0 k a0 a1 bt153.1 bt153.2 bt157.1 bt157.2 true)) else (masterdisclaw01_EndianDecimals.j0 k a0 a1 bt153.1 bt153.2 bt157.1 bt157.2 true)) else (masterdisclaw01_EndianDecimals.j0 k a0 a1 bt153.1 bt153.2 bt157.1 bt157.2 true)))))) else (some false))
theorem masterdisclaw01_EndianDecimals.mono_l : ∀ k, (∀ y0 y1 y2 y3 y4 y5 y6, LeO (masterdisclaw01_EndianDecimals.j0 k y0 y1 y2 y3 y4 y5 y6) (masterdisclaw01_EndianDecimals.j0 (k + 1) y0 y1 y2 y3 y4 y5 y6)) ∧ (∀ y0 y1 y2, LeO (masterdisclaw01_EndianDecimals.j1 k y0 y1 y2) (masterdisclaw01_EndianDecimals.j1 (k + 1) y0 y1 y2))
  | 0 => ⟨fun _ _ _ _ _ _ _ r h => by simp [masterdisclaw01_EndianDecimals.j0] at h, fun _ _ _ r h => by simp [masterdisclaw01_EndianDecimals.j1] at h⟩
  | k + 1 => by
    obtain ⟨ih0, ih1⟩ := masterdisclaw01_EndianDecimals.mono_l k
    refine ⟨?_, ?_⟩
    · intro y0 y1 y2 y3 y4 y5 y6
      unfold masterdisclaw01_EndianDecimals.j0
      repeat' first
      | (with_reducible exact ih0 _ _ _ _ _ _ _)
      | (with_reducible exact ih1 _ _ _)
      | (with_reducible exact LeO.refl _)
      | (with_reducible exact LeO.none _)
      | (with_reducible refine LeO.ite ?_ ?_)
      | (with_reducible refine LeO.bind ?_ (fun _ => ?_))
      | exact ih0 _ _ _ _ _ _ _
      | exact ih1 _ _ _
      | exact LeO.none _
      | refine LeO.ite ?_ ?_
      | refine LeO.bind ?_ (fun _ => ?_)
    · intro y0 y1 y2
      unfold masterdisclaw01_EndianDecimals.j1
      repeat' first
      | (with_reducible exact ih0 _ _ _ _ _ _ _)
      | (with_reducible exact ih1 _ _ _)
      | (with_reducible exact LeO.refl _)
      | (with_reducible exact LeO.none _)
      | (with_reducible refine LeO.ite ?_ ?_)
      | (with_reducible refine LeO.bind ?_ (fun _ => ?_))
      | exact ih0 _ _ _ _ _ _ _
      | exact ih1 _ _ _
      | exact LeO.none _
      | refine LeO.ite ?_ ?_
      | refine LeO.bind ?_ (fun _ => ?_)
theorem masterdisclaw01_EndianDecimals.mono : ∀ a0 a1 k, LeO (masterdisclaw01_EndianDecimals.f k a0 a1) (masterdisclaw01_EndianDecimals.f (k + 1) a0 a1) := by
  intro a0 a1 k
  obtain ⟨ih0, ih1⟩ := masterdisclaw01_EndianDecimals.mono_l k
  unfold masterdisclaw01_EndianDecimals.f
  repeat' first
      | (with_reducible exact ih0 _ _ _ _ _ _ _)
      | (with_reducible exact ih1 _ _ _)
      | (with_reducible exact LeO.refl _)
      | (with_reducible exact LeO.none _)
      | (with_reducible refine LeO.ite ?_ ?_)
      | (with_reducible refine LeO.bind ?_ (fun _ => ?_))
      | exact ih0 _ _ _ _ _ _ _
      | exact ih1 _ _ _
      | exact LeO.none _
      | refine LeO.ite ?_ ?_
      | refine LeO.bind ?_ (fun _ => ?_)
set_option maxHeartbeats 8000000 in
set_option maxRecDepth 100000 in
theorem masterdisclaw01_EndianDecimals.calls (k : Nat) (a0 : Int) (a1 : Int) (r : Bool) (w : World) (h : masterdisclaw01_EndianDecimals.f k a0 a1 = some r) :
    Calls Try.prog 5 #[.int .i64 a0, .int .u8 a1] w fun e w' => e = .returned (.bool r) ∧ Below w.heap.size w w' := by
  have HB := Aside0.mk (Below.refl w.heap.size w)
  have H : ((masterdisclaw01_awake.f).bind fun t152 => (if t152 = true then ((endian_BCD.f a0).bind fun bt153 => ((masterdiscref01_BCD.f a0).bind fun bt155 => ((endian_FromBCD.f a1).bind fun bt157 => ((masterdiscref01_FromBCD.f a1).bind fun bt159 => (if bt153.1 = bt155.1 then (if bt153.2 = bt155.2 then (if bt157.1 = bt159.1 then (masterdisclaw01_EndianDecimals.j0 k a0 a1 bt153.1 bt153.2 bt157.1 bt157.2 (bt157.2 != bt159.2)) else (masterdisclaw01_EndianDecimals.j0 k a0 a1 bt153.1 bt153.2 bt157.1 bt157.2 true)) else (masterdisclaw01_EndianDecimals.j0 k a0 a1 bt153.1 bt153.2 bt157.1 bt157.2 true)) else (masterdisclaw01_EndianDecimals.j0 k a0 a1 bt153.1 bt153.2 bt157.1 bt157.2 true)))))) else (some false))) = some r := h
  clear h
  replace H := Option.bind_eq_some_iff.mp H
  obtain ⟨t152, A30, H⟩ := H
  replace H : (if t152 = true then ((endian_BCD.f a0).bind fun bt153 => ((masterdiscref01_BCD.f a0).bind fun bt155 => ((endian_FromBCD.f a1).bind fun bt157 => ((masterdiscref01_FromBCD.f a1).bind fun bt159 => (if bt153.1 = bt155.1 then (if bt153.2 = bt155.2 then (if bt157.1 = bt159.1 then (masterdisclaw01_EndianDecimals.j0 k a0 a1 bt153.1 bt153.2 bt157.1 bt157.2 (bt157.2 != bt159.2)) else (masterdisclaw01_EndianDecimals.j0 k a0 a1 bt153.1 bt153.2 bt157.1 bt157.2 true)) else (masterdisclaw01_EndianDecimals.j0 k a0 a1 bt153.1 bt153.2 bt157.1 bt157.2 true)) else (masterdisclaw01_EndianDecimals.j0 k a0 a1 bt153.1 bt153.2 bt157.1 bt157.2 true)))))) else (some false)) = some r := H
  have A3 := Aside0.mk A30
  clear A30
  by_cases c4 : t152 = true
  · subst c4
    have H1 : ((endian_BCD.f a0).bind fun bt153 => ((masterdiscref01_BCD.f a0).bind fun bt155 => ((endian_FromBCD.f a1).bind fun bt157 => ((masterdiscref01_FromBCD.f a1).bind fun bt159 => (if bt153.1 = bt155.1 then (if bt153.2 = bt155.2 then (if bt157.1 = bt159.1 then (masterdisclaw01_EndianDecimals.j0 k a0 a1 bt153.1 bt153.2 bt157.1 bt157.2 (bt157.2 != bt159.2)) else (masterdisclaw01_EndianDecimals.j0 k a0 a1 bt153.1 bt153.2 bt157.1 bt157.2 true)) else (masterdisclaw01_EndianDecimals.j0 k a0 a1 bt153.1 bt153.2 bt157.1 bt157.2 true)) else (masterdisclaw01_EndianDecimals.j0 k a0 a1 bt153.1 bt153.2 bt157.1 bt157.2 true)))))) = some r := by rw [if_pos rfl] at H; exact H
    clear H
    have H := H1
    clear H1
    replace H := Option.bind_eq_some_iff.mp H
    obtain ⟨⟨t153, t154⟩, A50, H⟩ := H
    replace H : ((masterdiscref01_BCD.f a0).bind fun bt155 => ((endian_FromBCD.f a1).bind fun bt157 => ((masterdiscref01_FromBCD.f a1).bind fun bt159 => (if t153 = bt155.1 then (if t154 = bt155.2 then (if bt157.1 = bt159.1 then (masterdisclaw01_EndianDecimals.j0 k a0 a1 t153 t154 bt157.1 bt157.2 (bt157.2 != bt159.2)) else (masterdisclaw01_EndianDecimals.j0 k a0 a1 t153 t154 bt157.1 bt157.2 true)) else (masterdisclaw01_EndianDecimals.j0 k a0 a1 t153 t154 bt157.1 bt157.2 true)) else (masterdisclaw01_EndianDecimals.j0 k a0 a1 t153 t154 bt157.1 bt157.2 true))))) = some r := H
    have A5 := Aside0.mk A50
    clear A50
    replace H := Option.bind_eq_some_iff.mp H
    obtain ⟨⟨t155, t156⟩, A60, H⟩ := H
    replace H : ((endian_FromBCD.f a1).bind fun bt157 => ((masterdiscref01_FromBCD.f a1).bind fun bt159 => (if t153 = t155 then (if t154 = t156 then (if bt157.1 = bt159.1 then (masterdisclaw01_EndianDecimals.j0 k a0 a1 t153 t154 bt157.1 bt157.2 (bt157.2 != bt159.2)) else (masterdisclaw01_EndianDecimals.j0 k a0 a1 t153 t154 bt157.1 bt157.2 true)) else (masterdisclaw01_EndianDecimals.j0 k a0 a1 t153 t154 bt157.1 bt157.2 true)) else (masterdisclaw01_EndianDecimals.j0 k a0 a1 t153 t154 bt157.1 bt157.2 true)))) = some r := H
    have A6 := Aside0.mk A60
    clear A60
    replace H := Option.bind_eq_some_iff.mp H
    obtain ⟨⟨t157, t158⟩, A70, H⟩ := H
    replace H : ((masterdiscref01_FromBCD.f a1).bind fun bt159 => (if t153 = t155 then (if t154 = t156 then (if t157 = bt159.1 then (masterdisclaw01_EndianDecimals.j0 k a0 a1 t153 t154 t157 t158 (t158 != bt159.2)) else (masterdisclaw01_EndianDecimals.j0 k a0 a1 t153 t154 t157 t158 true)) else (masterdisclaw01_EndianDecimals.j0 k a0 a1 t153 t154 t157 t158 true)) else (masterdisclaw01_EndianDecimals.j0 k a0 a1 t153 t154 t157 t158 true))) = some r := H
    have A7 := Aside0.mk A70
    clear A70
    replace H := Option.bind_eq_some_iff.mp H
    obtain ⟨⟨t159, t160⟩, A80, H⟩ := H
    replace H : (if t153 = t155 then (if t154 = t156 then (if t157 = t159 then (masterdisclaw01_EndianDecimals.j0 k a0 a1 t153 t154 t157 t158 (t158 != t160)) else (masterdisclaw01_EndianDecimals.j0 k a0 a1 t153 t154 t157 t158 true)) else (masterdisclaw01_EndianDecimals.j0 k a0 a1 t153 t154 t157 t158 true)) else (masterdisclaw01_EndianDecimals.j0 k a0 a1 t153 t154 t157 t158 true)) = some r := H
    have A8 := Aside0.mk A80
    clear A80
    have HC9 := Aside0.mk H
    clear H
    go_enter Try.func5, Try.ntmps5
    go_upto_region 7 with (first | ((with_reducible refine gate_callee (f := 10) rfl ?_); refine goesL_ (some 17) rfl rfl Try.func10 (by kernel_rfl) rfl #[] rfl (by (try simp only [List.map_toArray, List.map_cons, List.map_nil]); first | done | rfl | (simp only [List.length_drop, List.length_take]; rfl)) ?_; (with_reducible refine (masterdisclaw01_awake.calls  true _ A3.out).mono ?_); rintro e w10 ⟨rfl, hb⟩; refine ⟨_, rfl, ?_⟩; have n0_ := Aside0.mk (below_step (by repeat (first | (with_reducible first | exact HB.out | apply below_alloc | apply pw_below_drewN | apply below_drew1) | exact HB.out)) hb); clear HB; have HB := n0_; clear n0_; (try clear hb); (try clear hb2); (try clear hk); (try clear hi)) | ((with_reducible refine gate_callee (f := 17) rfl ?_); refine goesL_ (some 21) rfl rfl Try.func17 (by kernel_rfl) rfl #[.int .i64 a0] rfl (by (try simp only [List.map_toArray, List.map_cons, List.map_nil]); first | done | rfl | (simp only [List.length_drop, List.length_take]; rfl)) ?_; (with_reducible refine (endian_BCD.calls a0 t153 t154 _ A5.out).mono ?_); rintro e w' ⟨rfl, ⟨nd, rfl⟩⟩; refine ⟨_, rfl, ?_⟩) | ((with_reducible refine gate_callee (f := 18) rfl ?_); refine goesL_ (some 26) rfl rfl Try.func18 (by kernel_rfl) rfl #[.int .i64 a0] rfl (by (try simp only [List.map_toArray, List.map_cons, List.map_nil]); first | done | rfl | (simp only [List.length_drop, List.length_take]; rfl)) ?_; (with_reducible refine (masterdiscref01_BCD.calls a0 t155 t156 _ A6.out).mono ?_); rintro e w' ⟨rfl, ⟨nd, rfl⟩⟩; refine ⟨_, rfl, ?_⟩) | ((with_reducible refine gate_callee (f := 19) rfl ?_); refine goesL_ (some 31) rfl rfl Try.func19 (by kernel_rfl) rfl #[.int .u8 a1] rfl (by (try simp only [List.map_toArray, List.map_cons, List.map_nil]); first | done | rfl | (simp only [List.length_drop, List.length_take]; rfl)) ?_; (with_reducible refine (endian_FromBCD.calls a1 t157 t158 _ A7.out).mono ?_); rintro e w' ⟨rfl, ⟨nd, rfl⟩⟩; refine ⟨_, rfl, ?_⟩) | ((with_reducible refine gate_callee (f := 20) rfl ?_); refine goesL_ (some 36) rfl rfl Try.func20 (by kernel_rfl) rfl #[.int .u8 a1] rfl (by (try simp only [List.map_toArray, List.map_cons, List.map_nil]); first | done | rfl | (simp only [List.length_drop, List.length_take]; rfl)) ?_; (with_reducible refine (masterdiscref01_FromBCD.calls a1 t159 t160 _ A8.out).mono ?_); rintro e w' ⟨rfl, ⟨nd, rfl⟩⟩; refine ⟨_, rfl, ?_⟩))
    (try simp only [Act.put, List.setIfInBounds_toArray, List.set_cons_zero, List.set_cons_succ])
    go_cut [56] (fun v56 wc => ∃ (kq : Nat) (x56_8 : Bool), v56 = .bool x56_8 ∧ Aside0 (masterdisclaw01_EndianDecimals.j0 kq a0 a1 t153 t154 t157 t158 x56_8 = some r) ∧ Aside0 (kq ≤ k) ∧ Aside0 (Below w.heap.size w wc))
    case first =>
      have H := HC9.out
      clear HC9
      by_cases c11 : t153 = t155
      · rw [if_pos c11] at H
        have c11b0 : (t153 == t155) = true := beq_iff_eq.mpr c11
        have c11b1 : (t153 != t155) = false := bne_eq_false_iff_eq.mpr c11
        clear c11
        (first | rw [c11b0] | (simp only [i64_w, i32_w]; rw [c11b0]) | skip)
        by_cases c12 : t154 = t156
        · rw [if_pos c12] at H
          have c12b0 : (t154 == t156) = true := beq_iff_eq.mpr c12
          have c12b1 : (t154 != t156) = false := bne_eq_false_iff_eq.mpr c12
          clear c12
          by_cases c13 : t157 = t159
          · rw [if_pos c13] at H
            have c13b0 : (t157 == t159) = true := beq_iff_eq.mpr c13
            have c13b1 : (t157 != t159) = false := bne_eq_false_iff_eq.mpr c13
            clear c13
            have H' := Aside0.mk H
            clear H
            go_wp2
            go_meet
            case rel => exact ⟨_, ((t158 != t160)), (by first | rfl | (simp; done) | (simp [*]; done)), H', ⟨by first | omega | exact Nat.le_refl _⟩, ⟨by repeat (first | (with_reducible first | exact HB.out | apply below_alloc | apply pw_below_drewN | apply below_drew1) | exact HB.out)⟩⟩
          · rw [if_neg c13] at H
            have c13b0 : (t157 == t159) = false := beq_eq_false_iff_ne.mpr c13
            have c13b1 : (t157 != t159) = true := bne_iff_ne.mpr c13
            have H' := Aside0.mk H
            clear H
            go_wp2
            go_meet
            case rel => exact ⟨_, (true), (by first | rfl | (simp; done) | (simp [*]; done)), H', ⟨by first | omega | exact Nat.le_refl _⟩, ⟨by repeat (first | (with_reducible first | exact HB.out | apply below_alloc | apply pw_below_drewN | apply below_drew1) | exact HB.out)⟩⟩
        · rw [if_neg c12] at H
          have c12b0 : (t154 == t156) = false := beq_eq_false_iff_ne.mpr c12
          have c12b1 : (t154 != t156) = true := bne_iff_ne.mpr c12
          have H' := Aside0.mk H
          clear H
          go_wp2
          go_meet
          case rel => exact ⟨_, (true), (by first | rfl | (simp; done) | (simp [*]; done)), H', ⟨by first | omega | exact Nat.le_refl _⟩, ⟨by repeat (first | (with_reducible first | exact HB.out | apply below_alloc | apply pw_below_drewN | apply below_drew1) | exact HB.out)⟩⟩
      · rw [if_neg c11] at H
        have c11b0 : (t153 == t155) = false := beq_eq_false_iff_ne.mpr c11
        have c11b1 : (t153 != t155) = true := bne_iff_ne.mpr c11
        (first | rw [c11b0] | (simp only [i64_w, i32_w]; rw [c11b0]) | skip)
        have H' := Aside0.mk H
        clear H
        go_wp2
        go_meet
        case rel => exact ⟨_, (true), (by first | rfl | (simp; done) | (simp [*]; done)), H', ⟨by first | omega | exact Nat.le_refl _⟩, ⟨by repeat (first | (with_reducible first | exact HB.out | apply below_alloc | apply pw_below_drewN | apply below_drew1) | exact HB.out)⟩⟩
    case rest =>
      clear HC9
      try clear c1
      try clear c2
      try clear p2
      try clear c4
      try clear c5
      try clear c10
      try clear c11
      try clear c11b0
      try clear c11b1
      try clear c12
      try clear c12b0
      try clear c12b1
      try clear c13
      try clear c13b0
      try clear c13b1
      obtain ⟨kq, x56_8, rfl, HA, HJ8, HB⟩ := hcut
      cases kq with
      | zero => exact absurd HA.out (by simp [masterdisclaw01_EndianDecimals.j0])
      | succ kj8 =>
        have H := HA.out
        clear HA
        simp only [masterdisclaw01_EndianDecimals.j0] at H
        by_cases c14 : x56_8 = true
        · subst c14
          have H1 : (some false) = some r := by rw [if_pos rfl] at H; exact H
          clear H
          have H := H1
          clear H1
          obtain rfl := Option.some.inj H
          go_wp2
          go_ret
          exact ⟨by first | rfl | (simp [errW_none, errW_some] <;> rfl) | (simp [*, errW_none, errW_some] <;> rfl), by repeat (first | (with_reducible first | exact HB.out | apply below_alloc | apply pw_below_drewN | apply below_drew1) | exact HB.out)⟩
        · replace c14 := Bool.eq_false_iff.mpr c14
          subst c14
          have H1 : (if t154 = 0 then ((endian_FromBCD.f t153).bind fun bt161 => (if bt161.1 = a0 then (if bt161.2 = 0 then (masterdisclaw01_EndianDecimals.j1 kj8 a1 t157 t158) else (some false)) else (some false))) else (masterdisclaw01_EndianDecimals.j1 kj8 a1 t157 t158)) = some r := by rw [if_neg (show ¬ (false = true) by decide)] at H; exact H
          clear H
          have H := H1
          clear H1
          have HC15 := Aside0.mk H
          clear H
          go_upto_if 58 with (fail)
          go_cut [] (fun wc => ∃ (kq : Nat), Aside0 (masterdisclaw01_EndianDecimals.j1 kq a1 t157 t158 = some r) ∧ Aside0 (kq ≤ kj8) ∧ Aside0 (Below w.heap.size w wc))
          case first =>
            have H := HC15.out
            clear HC15
            by_cases c16 : t154 = 0
            · rw [if_pos c16] at H
              have c16b0 : (t154 == 0) = true := beq_iff_eq.mpr c16
              have c16b1 : (t154 != 0) = false := bne_eq_false_iff_eq.mpr c16
              clear c16
              (first | rw [c16b0] | (simp only [i64_w, i32_w]; rw [c16b0]) | skip)
              replace H := Option.bind_eq_some_iff.mp H
              obtain ⟨⟨t161, t162⟩, A170, H⟩ := H
              replace H : (if t161 = a0 then (if t162 = 0 then (masterdisclaw01_EndianDecimals.j1 kj8 a1 t157 t158) else (some false)) else (some false)) = some r := H
              have A17 := Aside0.mk A170
              clear A170
              by_cases c18 : t161 = a0
              · rw [if_pos c18] at H
                have c18b0 : (t161 == a0) = true := beq_iff_eq.mpr c18
                have c18b1 : (t161 != a0) = false := bne_eq_false_iff_eq.mpr c18
                clear c18
                by_cases c19 : t162 = 0
                · rw [if_pos c19] at H
                  have c19b0 : (t162 == 0) = true := beq_iff_eq.mpr c19
                  have c19b1 : (t162 != 0) = false := bne_eq_false_iff_eq.mpr c19
                  clear c19
                  have H' := Aside0.mk H
                  clear H
                  go_wp2_with (first | ((with_reducible refine gate_callee (f := 19) rfl ?_); refine goesL_ (some 61) rfl rfl Try.func19 (by kernel_rfl) rfl #[.int .u8 t153] rfl (by (try simp only [List.map_toArray, List.map_cons, List.map_nil]); first | done | rfl | (simp only [List.length_drop, List.length_take]; rfl)) ?_; (with_reducible refine (endian_FromBCD.calls t153 t161 t162 _ A17.out).mono ?_); rintro e w' ⟨rfl, ⟨nd, rfl⟩⟩; refine ⟨_, rfl, ?_⟩))
                  go_meet
                  case rel => exact ⟨_, H', ⟨by have := HJ8.out; first | omega | exact Nat.le_refl _⟩, ⟨by repeat (first | (with_reducible first | exact HB.out | apply below_alloc | apply pw_below_drewN | apply below_drew1) | exact HB.out)⟩⟩
                · rw [if_neg c19] at H
                  have c19b0 : (t162 == 0) = false := beq_eq_false_iff_ne.mpr c19
                  have c19b1 : (t162 != 0) = true := bne_iff_ne.mpr c19
                  obtain rfl := Option.some.inj H
                  go_wp2_with (first | ((with_reducible refine gate_callee (f := 19) rfl ?_); refine goesL_ (some 61) rfl rfl Try.func19 (by kernel_rfl) rfl #[.int .u8 t153] rfl (by (try simp only [List.map_toArray, List.map_cons, List.map_nil]); first | done | rfl | (simp only [List.length_drop, List.length_take]; rfl)) ?_; (with_reducible refine (endian_FromBCD.calls t153 t161 t162 _ A17.out).mono ?_); rintro e w' ⟨rfl, ⟨nd, rfl⟩⟩; refine ⟨_, rfl, ?_⟩))
                  go_ret
                  exact ⟨by first | rfl | (simp [errW_none, errW_some] <;> rfl) | (simp [*, errW_none, errW_some] <;> rfl), by repeat (first | (with_reducible first | exact HB.out | apply below_alloc | apply pw_below_drewN | apply below_drew1) | exact HB.out)⟩
              · rw [if_neg c18] at H
                have c18b0 : (t161 == a0) = false := beq_eq_false_iff_ne.mpr c18
                have c18b1 : (t161 != a0) = true := bne_iff_ne.mpr c18
                obtain rfl := Option.some.inj H
                go_wp2_with (first | ((with_reducible refine gate_callee (f := 19) rfl ?_); refine goesL_ (some 61) rfl rfl Try.func19 (by kernel_rfl) rfl #[.int .u8 t153] rfl (by (try simp only [List.map_toArray, List.map_cons, List.map_nil]); first | done | rfl | (simp only [List.length_drop, List.length_take]; rfl)) ?_; (with_reducible refine (endian_FromBCD.calls t153 t161 t162 _ A17.out).mono ?_); rintro e w' ⟨rfl, ⟨nd, rfl⟩⟩; refine ⟨_, rfl, ?_⟩))
                go_ret
                exact ⟨by first | rfl | (simp [errW_none, errW_some] <;> rfl) | (simp [*, errW_none, errW_some] <;> rfl), by repeat (first | (with_reducible first | exact HB.out | apply below_alloc | apply pw_below_drewN | apply below_drew1) | exact HB.out)⟩
            · rw [if_neg c16] at H
              have c16b0 : (t154 == 0) = false := beq_eq_false_iff_ne.mpr c16
              have c16b1 : (t154 != 0) = true := bne_iff_ne.mpr c16
              (first | rw [c16b0] | (simp only [i64_w, i32_w]; rw [c16b0]) | skip)
              have H' := Aside0.mk H
              clear H
              go_wp2
              go_meet
              case rel => exact ⟨_, H', ⟨by have := HJ8.out; first | omega | exact Nat.le_refl _⟩, ⟨by repeat (first | (with_reducible first | exact HB.out | apply below_alloc | apply pw_below_drewN | apply below_drew1) | exact HB.out)⟩⟩
          case rest =>
            clear HC15
            try clear c1
            try clear c2
            try clear p2
            try clear c4
            try clear c5
            try clear c10
            try clear c11
            try clear c11b0
            try clear c11b1
            try clear c12
            try clear c12b0
            try clear c12b1
            try clear c13
            try clear c13b0
            try clear c13b1
            try clear c14
            try clear c16
            try clear c16b0
            try clear c16b1
            try clear c17
            try clear c18
            try clear c18b0
            try clear c18b1
            try clear c19
            try clear c19b0
            try clear c19b1
            try clear p2
            obtain ⟨kq, HA, HJ14, HB⟩ := hcut
            cases kq with
            | zero => exact absurd HA.out (by simp [masterdisclaw01_EndianDecimals.j1])
            | succ kj14 =>
              have H := HA.out
              clear HA
              simp only [masterdisclaw01_EndianDecimals.j1] at H
              by_cases c20 : t158 = 0
              · rw [if_pos c20] at H
                have c20b0 : (t158 == 0) = true := beq_iff_eq.mpr c20
                have c20b1 : (t158 != 0) = false := bne_eq_false_iff_eq.mpr c20
                clear c20
                replace H := Option.bind_eq_some_iff.mp H
                obtain ⟨⟨t163, t164⟩, A210, H⟩ := H
                replace H : (if t163 = a1 then (if t164 = 0 then (some true) else (some false)) else (some false)) = some r := H
                have A21 := Aside0.mk A210
                clear A210
                by_cases c22 : t163 = a1
                · rw [if_pos c22] at H
                  have c22b0 : (t163 == a1) = true := beq_iff_eq.mpr c22
                  have c22b1 : (t163 != a1) = false := bne_eq_false_iff_eq.mpr c22
                  clear c22
                  by_cases c23 : t164 = 0
                  · rw [if_pos c23] at H
                    have c23b0 : (t164 == 0) = true := beq_iff_eq.mpr c23
                    have c23b1 : (t164 != 0) = false := bne_eq_false_iff_eq.mpr c23
                    clear c23
                    obtain rfl := Option.some.inj H
                    go_wp2_with (first | ((with_reducible refine gate_callee (f := 17) rfl ?_); refine goesL_ (some 75) rfl rfl Try.func17 (by kernel_rfl) rfl #[.int .i64 t157] rfl (by (try simp only [List.map_toArray, List.map_cons, List.map_nil]); first | done | rfl | (simp only [List.length_drop, List.length_take]; rfl)) ?_; (with_reducible refine (endian_BCD.calls t157 t163 t164 _ A21.out).mono ?_); rintro e w' ⟨rfl, ⟨nd, rfl⟩⟩; refine ⟨_, rfl, ?_⟩))
                    go_ret
                    exact ⟨by first | rfl | (simp [errW_none, errW_some] <;> rfl) | (simp [*, errW_none, errW_some] <;> rfl), by repeat (first | (with_reducible first | exact HB.out | apply below_alloc | apply pw_below_drewN | apply below_drew1) | exact HB.out)⟩
                  · rw [if_neg c23] at H
                    have c23b0 : (t164 == 0) = false := beq_eq_false_iff_ne.mpr c23
                    have c23b1 : (t164 != 0) = true := bne_iff_ne.mpr c23
                    obtain rfl := Option.some.inj H
                    go_wp2_with (first | ((with_reducible refine gate_callee (f := 17) rfl ?_); refine goesL_ (some 75) rfl rfl Try.func17 (by kernel_rfl) rfl #[.int .i64 t157] rfl (by (try simp only [List.map_toArray, List.map_cons, List.map_nil]); first | done | rfl | (simp only [List.length_drop, List.length_take]; rfl)) ?_; (with_reducible refine (endian_BCD.calls t157 t163 t164 _ A21.out).mono ?_); rintro e w' ⟨rfl, ⟨nd, rfl⟩⟩; refine ⟨_, rfl, ?_⟩))
                    go_ret
                    exact ⟨by first | rfl | (simp [errW_none, errW_some] <;> rfl) | (simp [*, errW_none, errW_some] <;> rfl), by repeat (first | (with_reducible first | exact HB.out | apply below_alloc | apply pw_below_drewN | apply below_drew1) | exact HB.out)⟩
                · rw [if_neg c22] at H
                  have c22b0 : (t163 == a1) = false := beq_eq_false_iff_ne.mpr c22
                  have c22b1 : (t163 != a1) = true := bne_iff_ne.mpr c22
                  obtain rfl := Option.some.inj H
                  go_wp2_with (first | ((with_reducible refine gate_callee (f := 17) rfl ?_); refine goesL_ (some 75) rfl rfl Try.func17 (by kernel_rfl) rfl #[.int .i64 t157] rfl (by (try simp only [List.map_toArray, List.map_cons, List.map_nil]); first | done | rfl | (simp only [List.length_drop, List.length_take]; rfl)) ?_; (with_reducible refine (endian_BCD.calls t157 t163 t164 _ A21.out).mono ?_); rintro e w' ⟨rfl, ⟨nd, rfl⟩⟩; refine ⟨_, rfl, ?_⟩))
                  go_ret
                  exact ⟨by first | rfl | (simp [errW_none, errW_some] <;> rfl) | (simp [*, errW_none, errW_some] <;> rfl), by repeat (first | (with_reducible first | exact HB.out | apply below_alloc | apply pw_below_drewN | apply below_drew1) | exact HB.out)⟩
              · rw [if_neg c20] at H
                have c20b0 : (t158 == 0) = false := beq_eq_false_iff_ne.mpr c20
                have c20b1 : (t158 != 0) = true := bne_iff_ne.mpr c20
                obtain rfl := Option.some.inj H
                go_wp2
                go_ret
                exact ⟨by first | rfl | (simp [errW_none, errW_some] <;> rfl) | (simp [*, errW_none, errW_some] <;> rfl), by repeat (first | (with_reducible first | exact HB.out | apply below_alloc | apply pw_below_drewN | apply below_drew1) | exact HB.out)⟩
  · replace c4 := Bool.eq_false_iff.mpr c4
    subst c4
    have H1 : (some false) = some r := by rw [if_neg (show ¬ (false = true) by decide)] at H; exact H
    clear H
    have H := H1
    clear H1
    obtain rfl := Option.some.inj H
    go_enter Try.func5, Try.ntmps5
    go_wp2_with (first | ((with_reducible refine gate_callee (f := 10) rfl ?_); refine goesL_ (some 17) rfl rfl Try.func10 (by kernel_rfl) rfl #[] rfl (by (try simp only [List.map_toArray, List.map_cons, List.map_nil]); first | done | rfl | (simp only [List.length_drop, List.length_take]; rfl)) ?_; (with_reducible refine (masterdisclaw01_awake.calls  false _ A3.out).mono ?_); rintro e w24 ⟨rfl, hb⟩; refine ⟨_, rfl, ?_⟩; have n0_ := Aside0.mk (below_step (by repeat (first | (with_reducible first | exact HB.out | apply below_alloc | apply pw_below_drewN | apply below_drew1) | exact HB.out)) hb); clear HB; have HB := n0_; clear n0_; (try clear hb); (try clear hb2); (try clear hk); (try clear hi)))
    go_ret
    exact ⟨by first | rfl | (simp [errW_none, errW_some] <;> rfl) | (simp [*, errW_none, errW_some] <;> rfl), by repeat (first | (with_reducible first | exact HB.out | apply below_alloc | apply pw_below_drewN | apply below_drew1) | exact HB.out)⟩

/-- THE ONE PURE STATEMENT of masterdisclaw01_EndianDecimals: yours. -/
def masterdisclaw01_EndianDecimals.Pure : Prop := ∀ (a0 : Int) (a1 : Int), (Lit.int .i64 a0).wf = true → (Lit.int .u8 a1).wf = true → ∃ k, masterdisclaw01_EndianDecimals.f k a0 a1 = some true
theorem masterdisclaw01_EndianDecimals.walk (P : masterdisclaw01_EndianDecimals.Pure) (a0 : Int) (a1 : Int) (w : World) (w0 : (Lit.int .i64 a0).wf = true) (w1 : (Lit.int .u8 a1).wf = true) :
    Calls Try.prog 5 #[.int .i64 a0, .int .u8 a1] w fun e w' => e = .returned (.bool true) ∧ Below w.heap.size w w' := by
  obtain ⟨k, h⟩ := P a0 a1 w0 w1
  refine (masterdisclaw01_EndianDecimals.calls k a0 a1 true w h).mono ?_
  rintro e w' ⟨rfl, hd⟩
  exact ⟨rfl, hd⟩

end Go.Proofs.Ytbkakfaeeodmmaa.G
