/- The calls of functions of the given program come to what the Lean functions of the same names tell, at all arguments at which these tell something; no other condition. Written by a program of this session. -/
import Derived.Test.YtbkakfaeeodmmaaX0
import Derived.Test.YtbkakfaeeodmmaaXAw1
import Derived.Test.YtbkakfaeeodmmaaXEn
namespace Go.Proofs.Ytbkakfaeeodmmaa.G
open Go.RowKit Go.Proofs.YtbkakfaeeodmmaaW.PrintWords Go.Proofs.YtbkakfaeeodmmaaW.PrintLast Go.Proofs.YtbkakfaeeodmmaaW.PrintMore
attribute [local go_sem] max2_int min2_int max_two min_two max_three min_three max_four min_four   -- for this text's walks alone
set_option linter.unusedVariables false
set_option linter.unusedSimpArgs false

/-! ### masterdisclaw01_EndianPuts: function 6 -/
mutual
def masterdisclaw01_EndianPuts.j0 : Nat → ByteArray → Int → ByteArray → Bool → Option (Bool)
  | 0, _, _, _, _ => none
  | k + 1, x0, x1, x2, x20 => if x20 = true then (some true) else ((endian_Put.f x0 x1 x2).bind fun bt167 => (if x1 < 0 then (masterdisclaw01_EndianPuts.j1 k x0 x1 x2 bt167.1 bt167.2 true) else (if x1 > (x0.size : Int) then (masterdisclaw01_EndianPuts.j1 k x0 x1 x2 bt167.1 bt167.2 true) else (masterdisclaw01_EndianPuts.j1 k x0 x1 x2 bt167.1 bt167.2 (decide ((x2.size : Int) > (wrap64 ((x0.size : Int) - x1))))))))
def masterdisclaw01_EndianPuts.j1 : Nat → ByteArray → Int → ByteArray → ByteArray → Int → Bool → Option (Bool)
  | 0, _, _, _, _, _, _ => none
  | k + 1, x0, x1, x2, x7, x8, x44 => if x44 = true then (if x8 = 2 then (some (x7.toList == ([] : List UInt8))) else (some false)) else (if x8 = 0 then (masterdisclaw01_EndianPuts.j2 k x0 x1 x2 x7 ((x7.size : Int) != (x0.size : Int))) else (masterdisclaw01_EndianPuts.j2 k x0 x1 x2 x7 true))
def masterdisclaw01_EndianPuts.j2 : Nat → ByteArray → Int → ByteArray → ByteArray → Bool → Option (Bool)
  | 0, _, _, _, _, _ => none
  | k + 1, x0, x1, x2, x7, x59 => if x59 = true then (some false) else (masterdisclaw01_EndianPuts.l0 k x0 x1 x2 x7 (x0.size : Int) 0)
def masterdisclaw01_EndianPuts.l0 : Nat → ByteArray → Int → ByteArray → ByteArray → Int → Int → Option (Bool)
  | 0, _, _, _, _, _, _ => none
  | k + 1, x0, x1, x2, x7, x61, x62 => if x62 < x61 then (if 0 ≤ x62 then (if x62 < (x0.size : Int) then (if x62 ≥ x1 then (masterdisclaw01_EndianPuts.j4 k x0 x1 x2 x7 x62 (bt x0 x62) x61 x62 (decide (x62 < (wrap64 (x1 + (x2.size : Int)))))) else (masterdisclaw01_EndianPuts.j4 k x0 x1 x2 x7 x62 (bt x0 x62) x61 x62 false)) else (none)) else (none)) else (some true)
def masterdisclaw01_EndianPuts.j4 : Nat → ByteArray → Int → ByteArray → ByteArray → Int → Int → Int → Int → Bool → Option (Bool)
  | 0, _, _, _, _, _, _, _, _, _ => none
  | k + 1, x0, x1, x2, x7, x9, x10, x61, x62, x78 => if x78 = true then (if 0 ≤ (wrap64 (x9 - x1)) then (if (wrap64 (x9 - x1)) < (x2.size : Int) then (if 0 ≤ x9 then (if x9 < (x7.size : Int) then (if (bt x7 x9) = (bt x2 (wrap64 (x9 - x1))) then (masterdisclaw01_EndianPuts.l0 k x0 x1 x2 x7 x61 (wrap64 (x62 + 1))) else (some false)) else (none)) else (none)) else (none)) else (none)) else (if 0 ≤ x9 then (if x9 < (x7.size : Int) then (if (bt x7 x9) = x10 then (masterdisclaw01_EndianPuts.l0 k x0 x1 x2 x7 x61 (wrap64 (x62 + 1))) else (some false)) else (none)) else (none))
end
def masterdisclaw01_EndianPuts.f (k : Nat) (a0 : ByteArray) (a1 : Int) (a2 : ByteArray) : Option (Bool) := (masterdisclaw01_awake.f).bind fun t166 => (if t166 = true then (if (a0.size : Int) > 80 then (masterdisclaw01_EndianPuts.j0 k a0 a1 a2 true) else (masterdisclaw01_EndianPuts.j0 k a0 a1 a2 (decide ((a2.size : Int) > 80)))) else (some false))
theorem masterdisclaw01_EndianPuts.mono_l : ∀ k, (∀ y0 y1 y2 y3, LeO (masterdisclaw01_EndianPuts.j0 k y0 y1 y2 y3) (masterdisclaw01_EndianPuts.j0 (k + 1) y0 y1 y2 y3)) ∧ (∀ y0 y1 y2 y3 y4 y5, LeO (masterdisclaw01_EndianPuts.j1 k y0 y1 y2 y3 y4 y5) (masterdisclaw01_EndianPuts.j1 (k + 1) y0 y1 y2 y3 y4 y5)) ∧ (∀ y0 y1 y2 y3 y4, LeO (masterdisclaw01_EndianPuts.j2 k y0 y1 y2 y3 y4) (masterdisclaw01_EndianPuts.j2 (k + 1) y0 y1 y2 y3 y4)) ∧ (∀ y0 y1 y2 y3 y4 y5, LeO (masterdisclaw01_EndianPuts.l0 k y0 y1 y2 y3 y4 y5) (masterdisclaw01_EndianPuts.l0 (k + 1) y0 y1 y2 y3 y4 y5)) ∧ (∀ y0 y1 y2 y3 y4 y5 y6 y7 y8, LeO (masterdisclaw01_EndianPuts.j4 k y0 y1 y2 y3 y4 y5 y6 y7 y8) (masterdisclaw01_EndianPuts.j4 (k + 1) y0 y1 y2 y3 y4 y5 y6 y7 y8))
  | 0 => ⟨fun _ _ _ _ r h => by simp [masterdisclaw01_EndianPuts.j0] at h, fun _ _ _ _ _ _ r h => by simp [masterdisclaw01_EndianPuts.j1] at h, fun _ _ _ _ _ r h => by simp [masterdisclaw01_EndianPuts.j2] at h, fun _ _ _ _ _ _ r h => by simp [masterdisclaw01_EndianPuts.l0] at h, fun _ _ _ _ _ _ _ _ _ r h => by simp [masterdisclaw01_EndianPuts.j4] at h⟩
  | k + 1 => by
    obtain ⟨ih0, ih1, ih2, ih3, ih4⟩ := masterdisclaw01_EndianPuts.mono_l k
    refine ⟨?_, ?_, ?_, ?_, ?_⟩
    · intro y0 y1 y2 y3
      unfold masterdisclaw01_EndianPuts.j0
      repeat' first
      | (with_reducible exact ih0 _ _ _ _)
      | (with_reducible exact ih1 _ _ _ _ _ _)
      | (with_reducible exact ih2 _ _ _ _ _)
      | (with_reducible exact ih3 _ _ _ _ _ _)
      | (with_reducible exact ih4 _ _ _ _ _ _ _ _ _)
      | (with_reducible exact LeO.refl _)
      | (with_reducible exact LeO.none _)
      | (with_reducible refine LeO.ite ?_ ?_)
      | (with_reducible refine LeO.bind ?_ (fun _ => ?_))
      | exact ih0 _ _ _ _
      | exact ih1 _ _ _ _ _ _
      | exact ih2 _ _ _ _ _
      | exact ih3 _ _ _ _ _ _
      | exact ih4 _ _ _ _ _ _ _ _ _
      | exact LeO.none _
      | refine LeO.ite ?_ ?_
      | refine LeO.bind ?_ (fun _ => ?_)
    · intro y0 y1 y2 y3 y4 y5
      unfold masterdisclaw01_EndianPuts.j1
      repeat' first
      | (with_reducible exact ih0 _ _ _ _)
      | (with_reducible exact ih1 _ _ _ _ _ _)
      | (with_reducible exact ih2 _ _ _ _ _)
      | (with_reducible exact ih3 _ _ _ _ _ _)
      | (with_reducible exact ih4 _ _ _ _ _ _ _ _ _)
      | (with_reducible exact LeO.refl _)
      | (with_reducible exact LeO.none _)
      | (with_reducible refine LeO.ite ?_ ?_)
      | (with_reducible refine LeO.bind ?_ (fun _ => ?_))
      | exact ih0 _ _ _ _
      | exact ih1 _ _ _ _ _ _
      | exact ih2 _ _ _ _ _
      | exact ih3 _ _ _ _ _ _
      | exact ih4 _ _ _ _ _ _ _ _ _
      | exact LeO.none _
      | refine LeO.ite ?_ ?_
      | refine LeO.bind ?_ (fun _ => ?_)
    · intro y0 y1 y2 y3 y4
      unfold masterdisclaw01_EndianPuts.j2
      repeat' first
      | (with_reducible exact ih0 _ _ _ _)
      | (with_reducible exact ih1 _ _ _ _ _ _)
      | (with_reducible exact ih2 _ _ _ _ _)
      | (with_reducible exact ih3 _ _ _ _ _ _)
      | (with_reducible exact ih4 _ _ _ _ _ _ _ _ _)
      | (with_reducible exact LeO.refl _)
      | (with_reducible exact LeO.none _)
      | (with_reducible refine LeO.ite ?_ ?_)
      | (with_reducible refine LeO.bind ?_ (fun _ => ?_))
      | exact ih0 _ _ _ _
      | exact ih1 _ _ _ _ _ _
      | exact ih2 _ _ _ _ _
      | exact ih3 _ _ _ _ _ _
      | exact ih4 _ _ _ _ _ _ _ _ _
      | exact LeO.none _
      | refine LeO.ite ?_ ?_
      | refine LeO.bind ?_ (fun _ => ?_)
    · intro y0 y1 y2 y3 y4 y5
      unfold masterdisclaw01_EndianPuts.l0
      repeat' first
      | (with_reducible exact ih0 _ _ _ _)
      | (with_reducible exact ih1 _ _ _ _ _ _)
      | (with_reducible exact ih2 _ _ _ _ _)
      | (with_reducible exact ih3 _ _ _ _ _ _)
      | (with_reducible exact ih4 _ _ _ _ _ _ _ _ _)
      | (with_reducible exact LeO.refl _)
      | (with_reducible exact LeO.none _)
      | (with_reducible refine LeO.ite ?_ ?_)
      | (with_reducible refine LeO.bind ?_ (fun _ => ?_))
      | exact ih0 _ _ _ _
      | exact ih1 _ _ _ _ _ _
      | exact ih2 _ _ _ _ _
      | exact ih3 _ _ _ _ _ _
      | exact ih4 _ _ _ _ _ _ _ _ _
      | exact LeO.none _
      | refine LeO.ite ?_ ?_
      | refine LeO.bind ?_ (fun _ => ?_)
    · intro y0 y1 y2 y3 y4 y5 y6 y7 y8
      unfold masterdisclaw01_EndianPuts.j4
      repeat' first
      | (with_reducible exact ih0 _ _ _ _)
      | (with_reducible exact ih1 _ _ _ _ _ _)
      | (with_reducible exact ih2 _ _ _ _ _)
      | (with_reducible exact ih3 _ _ _ _ _ _)
      | (with_reducible exact ih4 _ _ _ _ _ _ _ _ _)
      | (with_reducible exact LeO.refl _)
      | (with_reducible exact LeO.none _)
      | (with_reducible refine LeO.ite ?_ ?_)
      | (with_reducible refine LeO.bind ?_ (fun _ => ?_))
      | exact ih0 _ _ _ _
      | exact ih1 _ _ _ _ _ _
      | exact ih2 _ _ _ _ _
      | exact ih3 _ _ _ _ _ _
      | exact ih4 _ _ _ _ _ _ _ _ _
      | exact LeO.none _
      | refine LeO.ite ?_ ?_
      | refine LeO.bind ?_ (fun _ => ?_)
theorem masterdisclaw01_EndianPuts.mono : ∀ a0 a1 a2 k, LeO (masterdisclaw01_EndianPuts.f k a0 a1 a2) (masterdisclaw01_EndianPuts.f (k + 1) a0 a1 a2) := by
  intro a0 a1 a2 k
  obtain ⟨ih0, ih1, ih2, ih3, ih4⟩ := masterdisclaw01_EndianPuts.mono_l k
  unfold masterdisclaw01_EndianPuts.f
  repeat' first
      | (with_reducible exact ih0 _ _ _ _)
      | (with_reducible exact ih1 _ _ _ _ _ _)
      | (with_reducible exact ih2 _ _ _ _ _)
      | (with_reducible exact ih3 _ _ _ _ _ _)
      | (with_reducible exact ih4 _ _ _ _ _ _ _ _ _)
      | (with_reducible exact LeO.refl _)
      | (with_reducible exact LeO.none _)
      | (with_reducible refine LeO.ite ?_ ?_)
      | (with_reducible refine LeO.bind ?_ (fun _ => ?_))
      | exact ih0 _ _ _ _
      | exact ih1 _ _ _ _ _ _
      | exact ih2 _ _ _ _ _
      | exact ih3 _ _ _ _ _ _
      | exact ih4 _ _ _ _ _ _ _ _ _
      | exact LeO.none _
      | refine LeO.ite ?_ ?_
      | refine LeO.bind ?_ (fun _ => ?_)
set_option maxHeartbeats 8000000 in
set_option maxRecDepth 100000 in
theorem masterdisclaw01_EndianPuts.calls (k : Nat) (a0 : ByteArray) (a1 : Int) (a2 : ByteArray) (r : Bool) (w : World) (h : masterdisclaw01_EndianPuts.f k a0 a1 a2 = some r) :
    Calls Try.prog 6 #[.string a0, .int .i64 a1, .string a2] w fun e w' => e = .returned (.bool r) ∧ Below w.heap.size w w' := by
  have HB := Aside0.mk (Below.refl w.heap.size w)
  have H : ((masterdisclaw01_awake.f).bind fun t166 => (if t166 = true then (if (a0.size : Int) > 80 then (masterdisclaw01_EndianPuts.j0 k a0 a1 a2 true) else (masterdisclaw01_EndianPuts.j0 k a0 a1 a2 (decide ((a2.size : Int) > 80)))) else (some false))) = some r := h
  clear h
  replace H := Option.bind_eq_some_iff.mp H
  obtain ⟨t166, A40, H⟩ := H
  replace H : (if t166 = true then (if (a0.size : Int) > 80 then (masterdisclaw01_EndianPuts.j0 k a0 a1 a2 true) else (masterdisclaw01_EndianPuts.j0 k a0 a1 a2 (decide ((a2.size : Int) > 80)))) else (some false)) = some r := H
  have A4 := Aside0.mk A40
  clear A40
  by_cases c5 : t166 = true
  · subst c5
    have H1 : (if (a0.size : Int) > 80 then (masterdisclaw01_EndianPuts.j0 k a0 a1 a2 true) else (masterdisclaw01_EndianPuts.j0 k a0 a1 a2 (decide ((a2.size : Int) > 80)))) = some r := by rw [if_pos rfl] at H; exact H
    clear H
    have H := H1
    clear H1
    have HC6 := Aside0.mk H
    clear H
    go_enter Try.func6, Try.ntmps6
    go_upto_region 3 with (first | ((with_reducible refine gate_callee (f := 10) rfl ?_); refine goesL_ (some 11) rfl rfl Try.func10 (by kernel_rfl) rfl #[] rfl (by (try simp only [List.map_toArray, List.map_cons, List.map_nil]); first | done | rfl | (simp only [List.length_drop, List.length_take]; rfl)) ?_; (with_reducible refine (masterdisclaw01_awake.calls  true _ A4.out).mono ?_); rintro e w7 ⟨rfl, hb⟩; refine ⟨_, rfl, ?_⟩; have n0_ := Aside0.mk (below_step (by repeat (first | (with_reducible first | exact HB.out | apply below_alloc | apply pw_below_drewN | apply below_drew1) | exact HB.out)) hb); clear HB; have HB := n0_; clear n0_; (try clear hb); (try clear hb2); (try clear hk); (try clear hi)))
    (try simp only [Act.put, List.setIfInBounds_toArray, List.set_cons_zero, List.set_cons_succ])
    go_cut [20] (fun v20 wc => ∃ (kq : Nat) (x20_5 : Bool), v20 = .bool x20_5 ∧ Aside0 (masterdisclaw01_EndianPuts.j0 kq a0 a1 a2 x20_5 = some r) ∧ Aside0 (kq ≤ k) ∧ Aside0 (Below w.heap.size w wc))
    case first =>
      have H := HC6.out
      clear HC6
      by_cases c8 : (a0.size : Int) > 80
      · rw [if_pos c8] at H
        have c8b0 : decide (80 < (a0.size : Int)) = true := decide_eq_true c8
        have c8b1 : decide (80 < a0.size) = true := decide_eq_true (by omega)
        clear c8
        (first | rw [c8b0] | (simp only [i64_w, i32_w]; rw [c8b0]) | skip)
        have H' := Aside0.mk H
        clear H
        go_wp2
        go_meet
        case rel => exact ⟨_, (true), (by first | rfl | (simp; done) | (simp [*]; done)), H', ⟨by first | omega | exact Nat.le_refl _⟩, ⟨by repeat (first | (with_reducible first | exact HB.out | apply below_alloc | apply pw_below_drewN | apply below_drew1) | exact HB.out)⟩⟩
      · rw [if_neg c8] at H
        have c8b0 : decide (80 < (a0.size : Int)) = false := decide_eq_false c8
        have c8b1 : decide (80 < a0.size) = false := decide_eq_false (by omega)
        clear c8
        (first | rw [c8b0] | (simp only [i64_w, i32_w]; rw [c8b0]) | skip)
        have H' := Aside0.mk H
        clear H
        go_wp2
        go_meet
        case rel => exact ⟨_, (decide ((a2.size : Int) > 80)), (by first | rfl | (simp; done) | (simp [*]; done)), H', ⟨by first | omega | exact Nat.le_refl _⟩, ⟨by repeat (first | (with_reducible first | exact HB.out | apply below_alloc | apply pw_below_drewN | apply below_drew1) | exact HB.out)⟩⟩
    case rest =>
      clear HC6
      try clear c1
      try clear p2
      try clear c5
      try clear c6
      try clear c8
      try clear c8b0
      try clear c8b1
      obtain ⟨kq, x20_5, rfl, HA, HJ5, HB⟩ := hcut
      cases kq with
      | zero => exact absurd HA.out (by simp [masterdisclaw01_EndianPuts.j0])
      | succ kj5 =>
        have H := HA.out
        clear HA
        simp only [masterdisclaw01_EndianPuts.j0] at H
        by_cases c9 : x20_5 = true
        · subst c9
          have H1 : (some true) = some r := by rw [if_pos rfl] at H; exact H
          clear H
          have H := H1
          clear H1
          obtain rfl := Option.some.inj H
          go_wp2
          go_ret
          exact ⟨by first | rfl | (simp [errW_none, errW_some] <;> rfl) | (simp [*, errW_none, errW_some] <;> rfl), by repeat (first | (with_reducible first | exact HB.out | apply below_alloc | apply pw_below_drewN | apply below_drew1) | exact HB.out)⟩
        · replace c9 := Bool.eq_false_iff.mpr c9
          subst c9
          have H1 : ((endian_Put.f a0 a1 a2).bind fun bt167 => (if a1 < 0 then (masterdisclaw01_EndianPuts.j1 kj5 a0 a1 a2 bt167.1 bt167.2 true) else (if a1 > (a0.size : Int) then (masterdisclaw01_EndianPuts.j1 kj5 a0 a1 a2 bt167.1 bt167.2 true) else (masterdisclaw01_EndianPuts.j1 kj5 a0 a1 a2 bt167.1 bt167.2 (decide ((a2.size : Int) > (wrap64 ((a0.size : Int) - a1)))))))) = some r := by rw [if_neg (show ¬ (false = true) by decide)] at H; exact H
          clear H
          have H := H1
          clear H1
          replace H := Option.bind_eq_some_iff.mp H
          obtain ⟨⟨t167, t168⟩, A100, H⟩ := H
          replace H : (if a1 < 0 then (masterdisclaw01_EndianPuts.j1 kj5 a0 a1 a2 t167 t168 true) else (if a1 > (a0.size : Int) then (masterdisclaw01_EndianPuts.j1 kj5 a0 a1 a2 t167 t168 true) else (masterdisclaw01_EndianPuts.j1 kj5 a0 a1 a2 t167 t168 (decide ((a2.size : Int) > (wrap64 ((a0.size : Int) - a1))))))) = some r := H
          have A10 := Aside0.mk A100
          clear A100
          have HC11 := Aside0.mk H
          clear H
          go_upto_region 6 with (first | ((with_reducible refine gate_callee (f := 21) rfl ?_); refine goesL_ (some 25) rfl rfl Try.func21 (by kernel_rfl) rfl #[.string a0, .int .i64 a1, .string a2] rfl (by (try simp only [List.map_toArray, List.map_cons, List.map_nil]); first | done | rfl | (simp only [List.length_drop, List.length_take]; rfl)) ?_; (with_reducible refine (endian_Put.calls a0 a1 a2 t167 t168 _ A10.out).mono ?_); rintro e w' ⟨rfl, ⟨nd, rfl⟩⟩; refine ⟨_, rfl, ?_⟩))
          (try simp only [Act.put, List.setIfInBounds_toArray, List.set_cons_zero, List.set_cons_succ])
          go_cut [44] (fun v44 wc => ∃ (kq : Nat) (x44_10 : Bool), v44 = .bool x44_10 ∧ Aside0 (masterdisclaw01_EndianPuts.j1 kq a0 a1 a2 t167 t168 x44_10 = some r) ∧ Aside0 (kq ≤ kj5) ∧ Aside0 (Below w.heap.size w wc))
          case first =>
            have H := HC11.out
            clear HC11
            by_cases c12 : a1 < 0
            · rw [if_pos c12] at H
              have c12b0 : decide (a1 < 0) = true := decide_eq_true c12
              clear c12
              (first | rw [c12b0] | (simp only [i64_w, i32_w]; rw [c12b0]) | skip)
              have H' := Aside0.mk H
              clear H
              go_wp2
              go_meet
              case rel => exact ⟨_, (true), (by first | rfl | (simp; done) | (simp [*]; done)), H', ⟨by have := HJ5.out; first | omega | exact Nat.le_refl _⟩, ⟨by repeat (first | (with_reducible first | exact HB.out | apply below_alloc | apply pw_below_drewN | apply below_drew1) | exact HB.out)⟩⟩
            · rw [if_neg c12] at H
              have c12b0 : decide (a1 < 0) = false := decide_eq_false c12
              clear c12
              (first | rw [c12b0] | (simp only [i64_w, i32_w]; rw [c12b0]) | skip)
              by_cases c13 : a1 > (a0.size : Int)
              · rw [if_pos c13] at H
                have c13b0 : decide ((a0.size : Int) < a1) = true := decide_eq_true c13
                clear c13
                have H' := Aside0.mk H
                clear H
                go_wp2
                go_meet
                case rel => exact ⟨_, (true), (by first | rfl | (simp; done) | (simp [*]; done)), H', ⟨by have := HJ5.out; first | omega | exact Nat.le_refl _⟩, ⟨by repeat (first | (with_reducible first | exact HB.out | apply below_alloc | apply pw_below_drewN | apply below_drew1) | exact HB.out)⟩⟩
              · rw [if_neg c13] at H
                have c13b0 : decide ((a0.size : Int) < a1) = false := decide_eq_false c13
                clear c13
                have H' := Aside0.mk H
                clear H
                go_wp2
                go_meet
                case rel => exact ⟨_, (decide ((a2.size : Int) > (wrap64 ((a0.size : Int) - a1)))), (by first | rfl | (simp; done) | (simp [*]; done)), H', ⟨by have := HJ5.out; first | omega | exact Nat.le_refl _⟩, ⟨by repeat (first | (with_reducible first | exact HB.out | apply below_alloc | apply pw_below_drewN | apply below_drew1) | exact HB.out)⟩⟩
          case rest =>
            clear HC11
            try clear c1
            try clear c2
            try clear p2
            try clear c5
            try clear c6
            try clear p6
            try clear c8
            try clear c8b0
            try clear c8b1
            try clear c9
            try clear c10
            try clear c12
            try clear c12b0
            try clear c13
            try clear c13b0
            try clear p2
            obtain ⟨kq, x44_10, rfl, HA, HJ10, HB⟩ := hcut
            cases kq with
            | zero => exact absurd HA.out (by simp [masterdisclaw01_EndianPuts.j1])
            | succ kj10 =>
              have H := HA.out
              clear HA
              simp only [masterdisclaw01_EndianPuts.j1] at H
              by_cases c14 : x44_10 = true
              · subst c14
                have H1 : (if t168 = 2 then (some (t167.toList == ([] : List UInt8))) else (some false)) = some r := by rw [if_pos rfl] at H; exact H
                clear H
                have H := H1
                clear H1
                by_cases c15 : t168 = 2
                · rw [if_pos c15] at H
                  have c15b0 : (t168 == 2) = true := beq_iff_eq.mpr c15
                  have c15b1 : (t168 != 2) = false := bne_eq_false_iff_eq.mpr c15
                  clear c15
                  obtain rfl := Option.some.inj H
                  go_wp2
                  go_ret
                  exact ⟨by first | rfl | (simp [errW_none, errW_some] <;> rfl) | (simp [*, errW_none, errW_some] <;> rfl), by repeat (first | (with_reducible first | exact HB.out | apply below_alloc | apply pw_below_drewN | apply below_drew1) | exact HB.out)⟩
                · rw [if_neg c15] at H
                  have c15b0 : (t168 == 2) = false := beq_eq_false_iff_ne.mpr c15
                  have c15b1 : (t168 != 2) = true := bne_iff_ne.mpr c15
                  obtain rfl := Option.some.inj H
                  go_wp2
                  go_ret
                  exact ⟨by first | rfl | (simp [errW_none, errW_some] <;> rfl) | (simp [*, errW_none, errW_some] <;> rfl), by repeat (first | (with_reducible first | exact HB.out | apply below_alloc | apply pw_below_drewN | apply below_drew1) | exact HB.out)⟩
              · replace c14 := Bool.eq_false_iff.mpr c14
                subst c14
                have H1 : (if t168 = 0 then (masterdisclaw01_EndianPuts.j2 kj10 a0 a1 a2 t167 ((t167.size : Int) != (a0.size : Int))) else (masterdisclaw01_EndianPuts.j2 kj10 a0 a1 a2 t167 true)) = some r := by rw [if_neg (show ¬ (false = true) by decide)] at H; exact H
                clear H
                have H := H1
                clear H1
                have HC16 := Aside0.mk H
                clear H
                go_upto_region 8 with (fail)
                go_cut [59] (fun v59 wc => ∃ (kq : Nat) (x59_15 : Bool), v59 = .bool x59_15 ∧ Aside0 (masterdisclaw01_EndianPuts.j2 kq a0 a1 a2 t167 x59_15 = some r) ∧ Aside0 (kq ≤ kj10) ∧ Aside0 (Below w.heap.size w wc))
                case first =>
                  have H := HC16.out
                  clear HC16
                  by_cases c17 : t168 = 0
                  · rw [if_pos c17] at H
                    have c17b0 : (t168 == 0) = true := beq_iff_eq.mpr c17
                    have c17b1 : (t168 != 0) = false := bne_eq_false_iff_eq.mpr c17
                    clear c17
                    (first | rw [c17b0] | (simp only [i64_w, i32_w]; rw [c17b0]) | skip)
                    have H' := Aside0.mk H
                    clear H
                    go_wp2
                    go_meet
                    case rel => exact ⟨_, (((t167.size : Int) != (a0.size : Int))), (by first | rfl | (simp; done) | (simp [*]; done)), H', ⟨by have := HJ5.out; have := HJ10.out; first | omega | exact Nat.le_refl _⟩, ⟨by repeat (first | (with_reducible first | exact HB.out | apply below_alloc | apply pw_below_drewN | apply below_drew1) | exact HB.out)⟩⟩
                  · rw [if_neg c17] at H
                    have c17b0 : (t168 == 0) = false := beq_eq_false_iff_ne.mpr c17
                    have c17b1 : (t168 != 0) = true := bne_iff_ne.mpr c17
                    (first | rw [c17b0] | (simp only [i64_w, i32_w]; rw [c17b0]) | skip)
                    have H' := Aside0.mk H
                    clear H
                    go_wp2
                    go_meet
                    case rel => exact ⟨_, (true), (by first | rfl | (simp; done) | (simp [*]; done)), H', ⟨by have := HJ5.out; have := HJ10.out; first | omega | exact Nat.le_refl _⟩, ⟨by repeat (first | (with_reducible first | exact HB.out | apply below_alloc | apply pw_below_drewN | apply below_drew1) | exact HB.out)⟩⟩
                case rest =>
                  clear HC16
                  try clear c1
                  try clear c2
                  try clear p2
                  try clear c5
                  try clear c6
                  try clear p6
                  try clear c8
                  try clear c8b0
                  try clear c8b1
                  try clear c9
                  try clear c10
                  try clear c12
                  try clear c12b0
                  try clear c13
                  try clear c13b0
                  try clear c14
                  try clear c15
                  try clear c15b0
                  try clear c15b1
                  try clear c17
                  try clear c17b0
                  try clear c17b1
                  try clear p2
                  try clear p6
                  obtain ⟨kq, x59_15, rfl, HA, HJ15, HB⟩ := hcut
                  cases kq with
                  | zero => exact absurd HA.out (by simp [masterdisclaw01_EndianPuts.j2])
                  | succ kj15 =>
                    have H := HA.out
                    clear HA
                    simp only [masterdisclaw01_EndianPuts.j2] at H
                    by_cases c18 : x59_15 = true
                    · subst c18
                      have H1 : (some false) = some r := by rw [if_pos rfl] at H; exact H
                      clear H
                      have H := H1
                      clear H1
                      obtain rfl := Option.some.inj H
                      go_wp2
                      go_ret
                      exact ⟨by first | rfl | (simp [errW_none, errW_some] <;> rfl) | (simp [*, errW_none, errW_some] <;> rfl), by repeat (first | (with_reducible first | exact HB.out | apply below_alloc | apply pw_below_drewN | apply below_drew1) | exact HB.out)⟩
                    · replace c18 := Bool.eq_false_iff.mpr c18
                      subst c18
                      have H1 : (masterdisclaw01_EndianPuts.l0 kj15 a0 a1 a2 t167 (a0.size : Int) 0) = some r := by rw [if_neg (show ¬ (false = true) by decide)] at H; exact H
                      clear H
                      have H := H1
                      clear H1
                      have H' := Aside0.mk H
                      clear H
                      go_wp2
                      go_loopg [62] kj15 (fun kq v62 w' => ∃ (x62_4 : Int), v62 = .int .i64 x62_4 ∧ Aside0 (masterdisclaw01_EndianPuts.l0 kq a0 a1 a2 t167 (a0.size : Int) x62_4 = some r) ∧ Aside0 (kq ≤ kj15) ∧ Aside0 (Below w.heap.size w w'))
                      case atStart => exact ⟨(0), (by first | rfl | (simp; done) | (simp [*]; done)), H', ⟨Nat.le_refl _⟩, ⟨by repeat (first | (with_reducible first | exact HB.out | apply below_alloc | apply pw_below_drewN | apply below_drew1) | exact HB.out)⟩⟩
                      case round =>
                        clear H'
                        try clear c1
                        try clear c2
                        try clear p2
                        try clear c5
                        try clear c6
                        try clear p6
                        try clear c8
                        try clear c8b0
                        try clear c8b1
                        try clear c9
                        try clear c10
                        try clear c12
                        try clear c12b0
                        try clear c13
                        try clear c13b0
                        try clear c14
                        try clear c15
                        try clear c15b0
                        try clear c15b1
                        try clear c17
                        try clear c17b0
                        try clear c17b1
                        try clear c18
                        try clear p2
                        try clear p6
                        obtain ⟨x62_4, rfl, HA, HK4, HB⟩ := hrel
                        cases gk with
                        | zero => exact absurd HA.out (by simp [masterdisclaw01_EndianPuts.l0])
                        | succ k4 =>
                          have H := HA.out
                          clear HA
                          simp only [masterdisclaw01_EndianPuts.l0] at H
                          by_cases c19 : x62_4 < (a0.size : Int)
                          · rw [if_pos c19] at H
                            have c19b0 : decide (x62_4 < (a0.size : Int)) = true := decide_eq_true c19
                            clear c19
                            by_cases c20 : 0 ≤ x62_4
                            · rw [if_pos c20] at H
                              have c20b0 : decide (0 ≤ x62_4) = true := decide_eq_true c20
                              clear c20
                              by_cases c21 : x62_4 < (a0.size : Int)
                              · rw [if_pos c21] at H
                                have c21b0 : decide (x62_4 < (a0.size : Int)) = true := decide_eq_true c21
                                clear c21
                                have HC23 := Aside0.mk H
                                clear H
                                have p22 : 0 ≤ (x62_4 : Int) := of_decide_eq_true (by first | (with_reducible assumption) | assumption)
                                have q22 : x62_4 < (a0.size : Int) := of_decide_eq_true (by first | (with_reducible assumption) | assumption)
                                have hx22 := bt_at a0 x62_4
                                replace p22 := eq_true p22
                                replace q22 := eq_true q22
                                go_upto_region 14 with (fail)
                                go_cut [78] (fun v78 wc => ∃ (kq : Nat) (x78_22 : Bool), v78 = .bool x78_22 ∧ Aside0 (masterdisclaw01_EndianPuts.j4 kq a0 a1 a2 t167 x62_4 (bt a0 x62_4) (a0.size : Int) x62_4 x78_22 = some r) ∧ Aside0 (kq ≤ k4) ∧ Aside0 (Below w.heap.size w wc))
                                case first =>
                                  have H := HC23.out
                                  clear HC23
                                  by_cases c24 : x62_4 ≥ a1
                                  · rw [if_pos c24] at H
                                    have c24b0 : decide (a1 ≤ x62_4) = true := decide_eq_true c24
                                    clear c24
                                    (first | rw [c24b0] | (simp only [i64_w, i32_w]; rw [c24b0]) | skip)
                                    have H' := Aside0.mk H
                                    clear H
                                    go_wp2
                                    go_meet
                                    case rel => exact ⟨_, (decide (x62_4 < (wrap64 (a1 + (a2.size : Int))))), (by first | rfl | (simp; done) | (simp [*]; done)), H', ⟨by have := HJ5.out; have := HJ10.out; have := HJ15.out; have := HK4.out; first | omega | exact Nat.le_refl _⟩, ⟨by repeat (first | (with_reducible first | exact HB.out | apply below_alloc | apply pw_below_drewN | apply below_drew1) | exact HB.out)⟩⟩
                                  · rw [if_neg c24] at H
                                    have c24b0 : decide (a1 ≤ x62_4) = false := decide_eq_false c24
                                    clear c24
                                    (first | rw [c24b0] | (simp only [i64_w, i32_w]; rw [c24b0]) | skip)
                                    have H' := Aside0.mk H
                                    clear H
                                    go_wp2
                                    go_meet
                                    case rel => exact ⟨_, (false), (by first | rfl | (simp; done) | (simp [*]; done)), H', ⟨by have := HJ5.out; have := HJ10.out; have := HJ15.out; have := HK4.out; first | omega | exact Nat.le_refl _⟩, ⟨by repeat (first | (with_reducible first | exact HB.out | apply below_alloc | apply pw_below_drewN | apply below_drew1) | exact HB.out)⟩⟩
                                case rest =>
                                  clear HC23
                                  try clear c1
                                  try clear c2
                                  try clear p2
                                  try clear q2
                                  try clear hx2
                                  try clear c5
                                  try clear c6
                                  try clear p6
                                  try clear c8
                                  try clear c8b0
                                  try clear c8b1
                                  try clear c9
                                  try clear c10
                                  try clear c12
                                  try clear c12b0
                                  try clear c13
                                  try clear c13b0
                                  try clear c14
                                  try clear c15
                                  try clear c15b0
                                  try clear c15b1
                                  try clear c17
                                  try clear c17b0
                                  try clear c17b1
                                  try clear c18
                                  try clear c19
                                  try clear c19b0
                                  try clear c20
                                  try clear c20b0
                                  try clear c21
                                  try clear c21b0
                                  try clear p22
                                  try clear q22
                                  try clear hx22
                                  try clear c24
                                  try clear c24b0
                                  try clear p2
                                  try clear p22
                                  try clear p6
                                  try clear q22
                                  obtain ⟨kq, x78_22, rfl, HA, HJ22, HB⟩ := hcut
                                  cases kq with
                                  | zero => exact absurd HA.out (by simp [masterdisclaw01_EndianPuts.j4])
                                  | succ kj22 =>
                                    have H := HA.out
                                    clear HA
                                    simp only [masterdisclaw01_EndianPuts.j4] at H
                                    by_cases c25 : x78_22 = true
                                    · subst c25
                                      have H1 : (if 0 ≤ (wrap64 (x62_4 - a1)) then (if (wrap64 (x62_4 - a1)) < (a2.size : Int) then (if 0 ≤ x62_4 then (if x62_4 < (t167.size : Int) then (if (bt t167 x62_4) = (bt a2 (wrap64 (x62_4 - a1))) then (masterdisclaw01_EndianPuts.l0 kj22 a0 a1 a2 t167 (a0.size : Int) (wrap64 (x62_4 + 1))) else (some false)) else (none)) else (none)) else (none)) else (none)) = some r := by rw [if_pos rfl] at H; exact H
                                      clear H
                                      have H := H1
                                      clear H1
                                      obtain ⟨ji26, hji26⟩ : ∃ j_ : Int, (wrap64 (x62_4 - a1)) = j_ := ⟨_, rfl⟩
                                      replace H : (if 0 ≤ (ji26) then (if (ji26) < (a2.size : Int) then (if 0 ≤ x62_4 then (if x62_4 < (t167.size : Int) then (if (bt t167 x62_4) = (bt a2 (ji26)) then (masterdisclaw01_EndianPuts.l0 kj22 a0 a1 a2 t167 (a0.size : Int) (wrap64 (x62_4 + 1))) else (some false)) else (none)) else (none)) else (none)) else (none)) = some r := by first | (rw [hji26] at H; exact H) | (simp only [hji26] at H ⊢; exact H)
                                      have hji26w : (IntKind.i64.wrap (x62_4 - a1)) = ji26 := (i64_w _).trans hji26
                                      by_cases c27 : 0 ≤ (ji26)
                                      · rw [if_pos c27] at H
                                        have c27b0 : decide (0 ≤ (ji26)) = true := decide_eq_true c27
                                        clear c27
                                        by_cases c28 : (ji26) < (a2.size : Int)
                                        · rw [if_pos c28] at H
                                          have c28b0 : decide ((ji26) < (a2.size : Int)) = true := decide_eq_true c28
                                          clear c28
                                          by_cases c30 : 0 ≤ x62_4
                                          · rw [if_pos c30] at H
                                            have c30b0 : decide (0 ≤ x62_4) = true := decide_eq_true c30
                                            clear c30
                                            by_cases c31 : x62_4 < (t167.size : Int)
                                            · rw [if_pos c31] at H
                                              have c31b0 : decide (x62_4 < (t167.size : Int)) = true := decide_eq_true c31
                                              clear c31
                                              by_cases c33 : (bt t167 x62_4) = (bt a2 (ji26))
                                              · rw [if_pos c33] at H
                                                have c33b0 : ((bt t167 x62_4) == (bt a2 (ji26))) = true := beq_iff_eq.mpr c33
                                                have c33b1 : ((bt t167 x62_4) != (bt a2 (ji26))) = false := bne_eq_false_iff_eq.mpr c33
                                                clear c33
                                                have H' := Aside0.mk H
                                                clear H
                                                have p29 : 0 ≤ ((ji26) : Int) := of_decide_eq_true (by first | (with_reducible assumption) | assumption)
                                                have q29 : (ji26) < (a2.size : Int) := of_decide_eq_true (by first | (with_reducible assumption) | assumption)
                                                have hx29 := bt_at a2 (ji26)
                                                replace p29 := eq_true p29
                                                replace q29 := eq_true q29
                                                have p32 : 0 ≤ (x62_4 : Int) := of_decide_eq_true (by first | (with_reducible assumption) | assumption)
                                                have q32 : x62_4 < (t167.size : Int) := of_decide_eq_true (by first | (with_reducible assumption) | assumption)
                                                have hx32 := bt_at t167 x62_4
                                                replace p32 := eq_true p32
                                                replace q32 := eq_true q32
                                                go_wp2
                                                go_roundg kj22
                                                case measure => have := HJ5.out; have := HJ10.out; have := HJ15.out; have := HK4.out; have := HJ22.out; omega
                                                case rel => exact ⟨(wrap64 (x62_4 + 1)), (by first | rfl | (simp; done) | (simp [*]; done)), H', ⟨by have := HJ5.out; have := HJ10.out; have := HJ15.out; have := HK4.out; have := HJ22.out; omega⟩, ⟨by repeat (first | (with_reducible first | exact HB.out | apply below_alloc | apply pw_below_drewN | apply below_drew1) | exact HB.out)⟩⟩
                                              · rw [if_neg c33] at H
                                                have c33b0 : ((bt t167 x62_4) == (bt a2 (ji26))) = false := beq_eq_false_iff_ne.mpr c33
                                                have c33b1 : ((bt t167 x62_4) != (bt a2 (ji26))) = true := bne_iff_ne.mpr c33
                                                obtain rfl := Option.some.inj H
                                                have p29 : 0 ≤ ((ji26) : Int) := of_decide_eq_true (by first | (with_reducible assumption) | assumption)
                                                have q29 : (ji26) < (a2.size : Int) := of_decide_eq_true (by first | (with_reducible assumption) | assumption)
                                                have hx29 := bt_at a2 (ji26)
                                                replace p29 := eq_true p29
                                                replace q29 := eq_true q29
                                                have p32 : 0 ≤ (x62_4 : Int) := of_decide_eq_true (by first | (with_reducible assumption) | assumption)
                                                have q32 : x62_4 < (t167.size : Int) := of_decide_eq_true (by first | (with_reducible assumption) | assumption)
                                                have hx32 := bt_at t167 x62_4
                                                replace p32 := eq_true p32
                                                replace q32 := eq_true q32
                                                go_wp2
                                                go_ret
                                                exact ⟨by first | rfl | (simp [errW_none, errW_some] <;> rfl) | (simp only [← hji26]; first | rfl | (simp [errW_none, errW_some] <;> rfl)) | (simp [*, errW_none, errW_some] <;> rfl), by repeat (first | (with_reducible first | exact HB.out | apply below_alloc | apply pw_below_drewN | apply below_drew1) | exact HB.out)⟩
                                            · rw [if_neg c31] at H
                                              exact absurd H (by simp)
                                          · rw [if_neg c30] at H
                                            exact absurd H (by simp)
                                        · rw [if_neg c28] at H
                                          exact absurd H (by simp)
                                      · rw [if_neg c27] at H
                                        exact absurd H (by simp)
                                    · replace c25 := Bool.eq_false_iff.mpr c25
                                      subst c25
                                      have H1 : (if 0 ≤ x62_4 then (if x62_4 < (t167.size : Int) then (if (bt t167 x62_4) = (bt a0 x62_4) then (masterdisclaw01_EndianPuts.l0 kj22 a0 a1 a2 t167 (a0.size : Int) (wrap64 (x62_4 + 1))) else (some false)) else (none)) else (none)) = some r := by rw [if_neg (show ¬ (false = true) by decide)] at H; exact H
                                      clear H
                                      have H := H1
                                      clear H1
                                      by_cases c34 : 0 ≤ x62_4
                                      · rw [if_pos c34] at H
                                        have c34b0 : decide (0 ≤ x62_4) = true := decide_eq_true c34
                                        clear c34
                                        by_cases c35 : x62_4 < (t167.size : Int)
                                        · rw [if_pos c35] at H
                                          have c35b0 : decide (x62_4 < (t167.size : Int)) = true := decide_eq_true c35
                                          clear c35
                                          by_cases c37 : (bt t167 x62_4) = (bt a0 x62_4)
                                          · rw [if_pos c37] at H
                                            have c37b0 : ((bt t167 x62_4) == (bt a0 x62_4)) = true := beq_iff_eq.mpr c37
                                            have c37b1 : ((bt t167 x62_4) != (bt a0 x62_4)) = false := bne_eq_false_iff_eq.mpr c37
                                            clear c37
                                            have H' := Aside0.mk H
                                            clear H
                                            have p36 : 0 ≤ (x62_4 : Int) := of_decide_eq_true (by first | (with_reducible assumption) | assumption)
                                            have q36 : x62_4 < (t167.size : Int) := of_decide_eq_true (by first | (with_reducible assumption) | assumption)
                                            have hx36 := bt_at t167 x62_4
                                            replace p36 := eq_true p36
                                            replace q36 := eq_true q36
                                            go_wp2
                                            go_roundg kj22
                                            case measure => have := HJ5.out; have := HJ10.out; have := HJ15.out; have := HK4.out; have := HJ22.out; omega
                                            case rel => exact ⟨(wrap64 (x62_4 + 1)), (by first | rfl | (simp; done) | (simp [*]; done)), H', ⟨by have := HJ5.out; have := HJ10.out; have := HJ15.out; have := HK4.out; have := HJ22.out; omega⟩, ⟨by repeat (first | (with_reducible first | exact HB.out | apply below_alloc | apply pw_below_drewN | apply below_drew1) | exact HB.out)⟩⟩
                                          · rw [if_neg c37] at H
                                            have c37b0 : ((bt t167 x62_4) == (bt a0 x62_4)) = false := beq_eq_false_iff_ne.mpr c37
                                            have c37b1 : ((bt t167 x62_4) != (bt a0 x62_4)) = true := bne_iff_ne.mpr c37
                                            obtain rfl := Option.some.inj H
                                            have p36 : 0 ≤ (x62_4 : Int) := of_decide_eq_true (by first | (with_reducible assumption) | assumption)
                                            have q36 : x62_4 < (t167.size : Int) := of_decide_eq_true (by first | (with_reducible assumption) | assumption)
                                            have hx36 := bt_at t167 x62_4
                                            replace p36 := eq_true p36
                                            replace q36 := eq_true q36
                                            go_wp2
                                            go_ret
                                            exact ⟨by first | rfl | (simp [errW_none, errW_some] <;> rfl) | (simp [*, errW_none, errW_some] <;> rfl), by repeat (first | (with_reducible first | exact HB.out | apply below_alloc | apply pw_below_drewN | apply below_drew1) | exact HB.out)⟩
                                        · rw [if_neg c35] at H
                                          exact absurd H (by simp)
                                      · rw [if_neg c34] at H
                                        exact absurd H (by simp)
                              · rw [if_neg c21] at H
                                exact absurd H (by simp)
                            · rw [if_neg c20] at H
                              exact absurd H (by simp)
                          · rw [if_neg c19] at H
                            have c19b0 : decide (x62_4 < (a0.size : Int)) = false := decide_eq_false c19
                            clear c19
                            obtain rfl := Option.some.inj H
                            go_wp2
                            go_ret
                            exact ⟨by first | rfl | (simp [errW_none, errW_some] <;> rfl) | (simp [*, errW_none, errW_some] <;> rfl), by repeat (first | (with_reducible first | exact HB.out | apply below_alloc | apply pw_below_drewN | apply below_drew1) | exact HB.out)⟩
  · replace c5 := Bool.eq_false_iff.mpr c5
    subst c5
    have H1 : (some false) = some r := by rw [if_neg (show ¬ (false = true) by decide)] at H; exact H
    clear H
    have H := H1
    clear H1
    obtain rfl := Option.some.inj H
    go_enter Try.func6, Try.ntmps6
    go_wp2_with (first | ((with_reducible refine gate_callee (f := 10) rfl ?_); refine goesL_ (some 11) rfl rfl Try.func10 (by kernel_rfl) rfl #[] rfl (by (try simp only [List.map_toArray, List.map_cons, List.map_nil]); first | done | rfl | (simp only [List.length_drop, List.length_take]; rfl)) ?_; (with_reducible refine (masterdisclaw01_awake.calls  false _ A4.out).mono ?_); rintro e w38 ⟨rfl, hb⟩; refine ⟨_, rfl, ?_⟩; have n0_ := Aside0.mk (below_step (by repeat (first | (with_reducible first | exact HB.out | apply below_alloc | apply pw_below_drewN | apply below_drew1) | exact HB.out)) hb); clear HB; have HB := n0_; clear n0_; (try clear hb); (try clear hb2); (try clear hk); (try clear hi)))
    go_ret
    exact ⟨by first | rfl | (simp [errW_none, errW_some] <;> rfl) | (simp [*, errW_none, errW_some] <;> rfl), by repeat (first | (with_reducible first | exact HB.out | apply below_alloc | apply pw_below_drewN | apply below_drew1) | exact HB.out)⟩

/-- THE ONE PURE STATEMENT of masterdisclaw01_EndianPuts: yours. -/
def masterdisclaw01_EndianPuts.Pure : Prop := ∀ (a0 : ByteArray) (a1 : Int) (a2 : ByteArray), a0.size ≤ 140737488351232 → (Lit.int .i64 a1).wf = true → a2.size ≤ 140737488351232 → ∃ k, masterdisclaw01_EndianPuts.f k a0 a1 a2 = some true
theorem masterdisclaw01_EndianPuts.walk (P : masterdisclaw01_EndianPuts.Pure) (a0 : ByteArray) (a1 : Int) (a2 : ByteArray) (w : World) (w0 : a0.size ≤ 140737488351232) (w1 : (Lit.int .i64 a1).wf = true) (w2 : a2.size ≤ 140737488351232) :
    Calls Try.prog 6 #[.string a0, .int .i64 a1, .string a2] w fun e w' => e = .returned (.bool true) ∧ Below w.heap.size w w' := by
  obtain ⟨k, h⟩ := P a0 a1 a2 w0 w1 w2
  refine (masterdisclaw01_EndianPuts.calls k a0 a1 a2 true w h).mono ?_
  rintro e w' ⟨rfl, hd⟩
  exact ⟨rfl, hd⟩

end Go.Proofs.Ytbkakfaeeodmmaa.G
