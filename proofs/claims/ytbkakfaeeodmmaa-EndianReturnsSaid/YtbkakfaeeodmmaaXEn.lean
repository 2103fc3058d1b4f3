/- The calls of functions of the given program come to what the Lean functions of the same names tell, at all arguments at which these tell something; no other condition. Written by a program of this session. -/
import Derived.Test.YtbkakfaeeodmmaaX0
namespace Go.Proofs.Ytbkakfaeeodmmaa.G
open Go.RowKit Go.Proofs.YtbkakfaeeodmmaaW.PrintWords Go.Proofs.YtbkakfaeeodmmaaW.PrintLast Go.Proofs.YtbkakfaeeodmmaaW.PrintMore
attribute [local go_sem] max2_int min2_int max_two min_two max_three min_three max_four min_four   -- for this text's walks alone
set_option linter.unusedVariables false
set_option linter.unusedSimpArgs false

/-! ### endian_fits: function 36 -/
def endian_fits.f (a0 : Int) (a1 : Int) : Option (Bool) := if a0 ≥ 0 then (if a1 = 8 then (some true) else (if 0 ≤ (wrap64 (8 * a1)) then (some (decide (a0 < (shl .i64 1 (wrap64 (8 * a1)))))) else (none))) else (some false)
set_option maxHeartbeats 8000000 in
set_option maxRecDepth 100000 in
theorem endian_fits.calls (a0 : Int) (a1 : Int) (r : Bool) (w : World) (h : endian_fits.f a0 a1 = some r) :
    Calls Try.prog 36 #[.int .i64 a0, .int .i64 a1] w fun e w' => e = .returned (.bool r) ∧ Drawn0 w w' := by
  have H : (if a0 ≥ 0 then (if a1 = 8 then (some true) else (if 0 ≤ (wrap64 (8 * a1)) then (some (decide (a0 < (shl .i64 1 (wrap64 (8 * a1)))))) else (none))) else (some false)) = some r := h
  clear h
  by_cases c3 : a0 ≥ 0
  · rw [if_pos c3] at H
    have c3b0 : decide (0 ≤ a0) = true := decide_eq_true c3
    clear c3
    by_cases c4 : a1 = 8
    · rw [if_pos c4] at H
      have c4b0 : (a1 == 8) = true := beq_iff_eq.mpr c4
      have c4b1 : (a1 != 8) = false := bne_eq_false_iff_eq.mpr c4
      clear c4
      obtain rfl := Option.some.inj H
      go_enter Try.func36, Try.ntmps36
      go_wp2
      go_ret
      exact ⟨by first | rfl | (simp; done) | (simp [*]; done), by repeat (first | exact Drawn0.refl _ | apply Drawn0.step)⟩
    · rw [if_neg c4] at H
      have c4b0 : (a1 == 8) = false := beq_eq_false_iff_ne.mpr c4
      have c4b1 : (a1 != 8) = true := bne_iff_ne.mpr c4
      obtain ⟨ji5, hji5⟩ : ∃ j_ : Int, (wrap64 (8 * a1)) = j_ := ⟨_, rfl⟩
      replace H : (if 0 ≤ (ji5) then (some (decide (a0 < (shl .i64 1 (ji5))))) else (none)) = some r := by first | (rw [hji5] at H; exact H) | (simp only [hji5] at H ⊢; exact H)
      have hji5w : (IntKind.i64.wrap (8 * a1)) = ji5 := (i64_w _).trans hji5
      by_cases c6 : 0 ≤ (ji5)
      · rw [if_pos c6] at H
        have c6b0 := eq_true c6
        have c6b1 : decide (0 ≤ (ji5)) = true := decide_eq_true c6
        clear c6
        obtain ⟨ji7, hji7⟩ : ∃ j_ : Int, (shl .i64 1 (ji5)) = j_ := ⟨_, rfl⟩
        replace H : (some (decide (a0 < (ji7)))) = some r := by first | (rw [hji7] at H; exact H) | (simp only [hji7] at H ⊢; exact H)
        have hji7_ : (IntKind.i64.wrap (1 * 2 ^ min (ji5).toNat 64)) = ji7 := hji7
        have hji7z : (ji5) ≤ 64 → (IntKind.i64.wrap (1 * 2 ^ (ji5).toNat)) = ji7 := shl_small hji7
        have hji7u : (IntKind.i64.wrap (2 ^ min (ji5).toNat 64)) = ji7 := by have h_ := hji7_; rw [Int.one_mul] at h_; exact h_
        have hji7v : (ji5) ≤ 64 → (IntKind.i64.wrap (2 ^ (ji5).toNat)) = ji7 := fun hle_ => by have h_ := hji7z hle_; rw [Int.one_mul] at h_; exact h_
        have hji7y : (wrap64 (1 * 2 ^ min (ji5).toNat 64)) = ji7 := (i64_w _).symm.trans hji7_
        have hji7x : (ji5) ≤ 64 → (wrap64 (1 * 2 ^ (ji5).toNat)) = ji7 := fun h_ => (i64_w _).symm.trans (hji7z h_)
        obtain rfl := Option.some.inj H
        go_enter Try.func36, Try.ntmps36
        go_wp2
        go_ret
        exact ⟨by first | rfl | (simp; done) | (simp only [← hji5, ← hji7] <;> (first | rfl | simp)) | (simp [*]; done), by repeat (first | exact Drawn0.refl _ | apply Drawn0.step)⟩
      · rw [if_neg c6] at H
        exact absurd H (by simp)
  · rw [if_neg c3] at H
    have c3b0 : decide (0 ≤ a0) = false := decide_eq_false c3
    clear c3
    obtain rfl := Option.some.inj H
    go_enter Try.func36, Try.ntmps36
    go_wp2
    go_ret
    exact ⟨by first | rfl | (simp; done) | (simp [*]; done), by repeat (first | exact Drawn0.refl _ | apply Drawn0.step)⟩

/-! ### endian_check: function 28 -/
def endian_check.j0 : Nat → Int → Int → Bool → Option (Int)
  | 0, _, _, _ => none
  | k + 1, x0, x1, x5 => if x5 = true then (some 1) else ((endian_fits.f x0 x1).bind fun t101 => (if t101 = true then (some 0) else (some 2)))
def endian_check.f (k : Nat) (a0 : Int) (a1 : Int) : Option (Int) := if a1 < 1 then (endian_check.j0 k a0 a1 true) else (endian_check.j0 k a0 a1 (decide (a1 > 8)))
theorem endian_check.mono_l : ∀ k, (∀ y0 y1 y2, LeO (endian_check.j0 k y0 y1 y2) (endian_check.j0 (k + 1) y0 y1 y2))
  | 0 => fun _ _ _ r h => by simp [endian_check.j0] at h
  | k + 1 => by
    have ih0 := endian_check.mono_l k
    · intro y0 y1 y2
      unfold endian_check.j0
      repeat' first
      | (with_reducible exact ih0 _ _ _)
      | (with_reducible exact LeO.refl _)
      | (with_reducible exact LeO.none _)
      | (with_reducible refine LeO.ite ?_ ?_)
      | (with_reducible refine LeO.bind ?_ (fun _ => ?_))
      | exact ih0 _ _ _
      | exact LeO.none _
      | refine LeO.ite ?_ ?_
      | refine LeO.bind ?_ (fun _ => ?_)
theorem endian_check.mono : ∀ a0 a1 k, LeO (endian_check.f k a0 a1) (endian_check.f (k + 1) a0 a1) := by
  intro a0 a1 k
  have ih0 := endian_check.mono_l k
  unfold endian_check.f
  repeat' first
      | (with_reducible exact ih0 _ _ _)
      | (with_reducible exact LeO.refl _)
      | (with_reducible exact LeO.none _)
      | (with_reducible refine LeO.ite ?_ ?_)
      | (with_reducible refine LeO.bind ?_ (fun _ => ?_))
      | exact ih0 _ _ _
      | exact LeO.none _
      | refine LeO.ite ?_ ?_
      | refine LeO.bind ?_ (fun _ => ?_)
set_option maxHeartbeats 8000000 in
set_option maxRecDepth 100000 in
theorem endian_check.calls (k : Nat) (a0 : Int) (a1 : Int) (r : Int) (w : World) (h : endian_check.f k a0 a1 = some r) :
    Calls Try.prog 28 #[.int .i64 a0, .int .i64 a1] w fun e w' => e = .returned (.int .i64 r) ∧ Drawn0 w w' := by
  have H : (if a1 < 1 then (endian_check.j0 k a0 a1 true) else (endian_check.j0 k a0 a1 (decide (a1 > 8)))) = some r := h
  clear h
  have HC3 := Aside0.mk H
  clear H
  go_enter Try.func28, Try.ntmps28
  go_upto_region 1 with (fail)
  go_cut [5] (fun v5 wc => ∃ (kq : Nat) (x5_2 : Bool), v5 = .bool x5_2 ∧ Aside0 (endian_check.j0 kq a0 a1 x5_2 = some r) ∧ Aside0 (kq ≤ k) ∧ Drawn0 w wc)
  case first =>
    have H := HC3.out
    clear HC3
    by_cases c4 : a1 < 1
    · rw [if_pos c4] at H
      have c4b0 : decide (a1 < 1) = true := decide_eq_true c4
      clear c4
      (first | rw [c4b0] | (simp only [i64_w, i32_w]; rw [c4b0]) | skip)
      have H' := Aside0.mk H
      clear H
      go_wp2
      go_meet
      case rel => exact ⟨_, (true), (by first | rfl | (simp; done) | (simp [*]; done)), H', ⟨by first | omega | exact Nat.le_refl _⟩, by repeat (first | exact Drawn0.refl _ | apply Drawn0.step)⟩
    · rw [if_neg c4] at H
      have c4b0 : decide (a1 < 1) = false := decide_eq_false c4
      clear c4
      (first | rw [c4b0] | (simp only [i64_w, i32_w]; rw [c4b0]) | skip)
      have H' := Aside0.mk H
      clear H
      go_wp2
      go_meet
      case rel => exact ⟨_, (decide (a1 > 8)), (by first | rfl | (simp; done) | (simp [*]; done)), H', ⟨by first | omega | exact Nat.le_refl _⟩, by repeat (first | exact Drawn0.refl _ | apply Drawn0.step)⟩
  case rest =>
    clear HC3
    try clear c2
    try clear p2
    try clear c4
    try clear c4b0
    obtain ⟨kq, x5_2, rfl, HA, HJ2, ⟨mc2, rfl⟩⟩ := hcut
    cases kq with
    | zero => exact absurd HA.out (by simp [endian_check.j0])
    | succ kj2 =>
      have H := HA.out
      clear HA
      simp only [endian_check.j0] at H
      by_cases c5 : x5_2 = true
      · subst c5
        have H1 : (some 1) = some r := by rw [if_pos rfl] at H; exact H
        clear H
        have H := H1
        clear H1
        obtain rfl := Option.some.inj H
        go_wp2
        go_ret
        exact ⟨by first | rfl | (simp; done) | (simp [*]; done), by repeat (first | exact Drawn0.refl _ | apply Drawn0.step)⟩
      · replace c5 := Bool.eq_false_iff.mpr c5
        subst c5
        have H1 : ((endian_fits.f a0 a1).bind fun t101 => (if t101 = true then (some 0) else (some 2))) = some r := by rw [if_neg (show ¬ (false = true) by decide)] at H; exact H
        clear H
        have H := H1
        clear H1
        replace H := Option.bind_eq_some_iff.mp H
        obtain ⟨t101, A60, H⟩ := H
        replace H : (if t101 = true then (some 0) else (some 2)) = some r := H
        have A6 := Aside0.mk A60
        clear A60
        by_cases c7 : t101 = true
        · subst c7
          have H1 : (some 0) = some r := by rw [if_pos rfl] at H; exact H
          clear H
          have H := H1
          clear H1
          obtain rfl := Option.some.inj H
          go_wp2_with (first | ((with_reducible refine gate_callee (f := 36) rfl ?_); refine goesL_ (some 15) rfl rfl Try.func36 (by kernel_rfl) rfl #[.int .i64 a0, .int .i64 a1] rfl (by (try simp only [List.map_toArray, List.map_cons, List.map_nil]); first | done | rfl | (simp only [List.length_drop, List.length_take]; rfl)) ?_; (with_reducible refine (endian_fits.calls a0 a1 true _ A6.out).mono ?_); rintro e w' ⟨rfl, ⟨nd, rfl⟩⟩; refine ⟨_, rfl, ?_⟩))
          go_ret
          exact ⟨by first | rfl | (simp; done) | (simp [*]; done), by repeat (first | exact Drawn0.refl _ | apply Drawn0.step)⟩
        · replace c7 := Bool.eq_false_iff.mpr c7
          subst c7
          have H1 : (some 2) = some r := by rw [if_neg (show ¬ (false = true) by decide)] at H; exact H
          clear H
          have H := H1
          clear H1
          obtain rfl := Option.some.inj H
          go_wp2_with (first | ((with_reducible refine gate_callee (f := 36) rfl ?_); refine goesL_ (some 15) rfl rfl Try.func36 (by kernel_rfl) rfl #[.int .i64 a0, .int .i64 a1] rfl (by (try simp only [List.map_toArray, List.map_cons, List.map_nil]); first | done | rfl | (simp only [List.length_drop, List.length_take]; rfl)) ?_; (with_reducible refine (endian_fits.calls a0 a1 false _ A6.out).mono ?_); rintro e w' ⟨rfl, ⟨nd, rfl⟩⟩; refine ⟨_, rfl, ?_⟩))
          go_ret
          exact ⟨by first | rfl | (simp; done) | (simp [*]; done), by repeat (first | exact Drawn0.refl _ | apply Drawn0.step)⟩

/-! ### endian_double: function 35 -/
def endian_double.f (a0 : Int) : Option (Bool) := if a0 = 1 then (some true) else (if a0 = 2 then (some true) else (some (a0 == 4)))
set_option maxHeartbeats 8000000 in
set_option maxRecDepth 100000 in
theorem endian_double.calls (a0 : Int) (r : Bool) (w : World) (h : endian_double.f a0 = some r) :
    Calls Try.prog 35 #[.int .i64 a0] w fun e w' => e = .returned (.bool r) ∧ Drawn0 w w' := by
  have H : (if a0 = 1 then (some true) else (if a0 = 2 then (some true) else (some (a0 == 4)))) = some r := h
  clear h
  by_cases c2 : a0 = 1
  · rw [if_pos c2] at H
    have c2b0 : (a0 == 1) = true := beq_iff_eq.mpr c2
    have c2b1 : (a0 != 1) = false := bne_eq_false_iff_eq.mpr c2
    clear c2
    obtain rfl := Option.some.inj H
    go_enter Try.func35, Try.ntmps35
    go_wp2
    go_ret
    exact ⟨by first | rfl | (simp; done) | (simp [*]; done), by repeat (first | exact Drawn0.refl _ | apply Drawn0.step)⟩
  · rw [if_neg c2] at H
    have c2b0 : (a0 == 1) = false := beq_eq_false_iff_ne.mpr c2
    have c2b1 : (a0 != 1) = true := bne_iff_ne.mpr c2
    by_cases c3 : a0 = 2
    · rw [if_pos c3] at H
      have c3b0 : (a0 == 2) = true := beq_iff_eq.mpr c3
      have c3b1 : (a0 != 2) = false := bne_eq_false_iff_eq.mpr c3
      clear c3
      obtain rfl := Option.some.inj H
      go_enter Try.func35, Try.ntmps35
      go_wp2
      go_ret
      exact ⟨by first | rfl | (simp; done) | (simp [*]; done), by repeat (first | exact Drawn0.refl _ | apply Drawn0.step)⟩
    · rw [if_neg c3] at H
      have c3b0 : (a0 == 2) = false := beq_eq_false_iff_ne.mpr c3
      have c3b1 : (a0 != 2) = true := bne_iff_ne.mpr c3
      obtain rfl := Option.some.inj H
      go_enter Try.func35, Try.ntmps35
      go_wp2
      go_ret
      exact ⟨by first | rfl | (simp; done) | (simp [*]; done), by repeat (first | exact Drawn0.refl _ | apply Drawn0.step)⟩

/-! ### endian_inside: function 37 -/
def endian_inside.f (a0 : ByteArray) (a1 : Int) (a2 : Int) : Option (Bool) := if a1 ≥ 0 then (some (decide (a1 ≤ (wrap64 ((a0.size : Int) - a2))))) else (some false)
set_option maxHeartbeats 8000000 in
set_option maxRecDepth 100000 in
theorem endian_inside.calls (a0 : ByteArray) (a1 : Int) (a2 : Int) (r : Bool) (w : World) (h : endian_inside.f a0 a1 a2 = some r) :
    Calls Try.prog 37 #[.string a0, .int .i64 a1, .int .i64 a2] w fun e w' => e = .returned (.bool r) ∧ Drawn0 w w' := by
  have H : (if a1 ≥ 0 then (some (decide (a1 ≤ (wrap64 ((a0.size : Int) - a2))))) else (some false)) = some r := h
  clear h
  by_cases c4 : a1 ≥ 0
  · rw [if_pos c4] at H
    have c4b0 : decide (0 ≤ a1) = true := decide_eq_true c4
    clear c4
    obtain rfl := Option.some.inj H
    go_enter Try.func37, Try.ntmps37
    go_wp2
    go_ret
    exact ⟨by first | rfl | (simp; done) | (simp [*]; done), by repeat (first | exact Drawn0.refl _ | apply Drawn0.step)⟩
  · rw [if_neg c4] at H
    have c4b0 : decide (0 ≤ a1) = false := decide_eq_false c4
    clear c4
    obtain rfl := Option.some.inj H
    go_enter Try.func37, Try.ntmps37
    go_wp2
    go_ret
    exact ⟨by first | rfl | (simp; done) | (simp [*]; done), by repeat (first | exact Drawn0.refl _ | apply Drawn0.step)⟩

/-! ### endian_BCD: function 17 -/
def endian_BCD.f (a0 : Int) : Option (Int × Int) := if a0 < 0 then (some (0, 2)) else (if a0 > 99 then (some (0, 2)) else (some ((Go.bits .or .i64 (wrap64 ((wrap64 (Int.tdiv a0 10)) * 16)) (Int.tmod a0 10)) % 256, 0)))
set_option maxHeartbeats 8000000 in
set_option maxRecDepth 100000 in
theorem endian_BCD.calls (a0 : Int) (r1 : Int) (r2 : Int) (w : World) (h : endian_BCD.f a0 = some (r1, r2)) :
    Calls Try.prog 17 #[.int .i64 a0] w fun e w' => e = .returned (.tuple #[.int .u8 r1, .int .i64 r2]) ∧ Drawn0 w w' := by
  have H : (if a0 < 0 then (some (0, 2)) else (if a0 > 99 then (some (0, 2)) else (some ((Go.bits .or .i64 (wrap64 ((wrap64 (Int.tdiv a0 10)) * 16)) (Int.tmod a0 10)) % 256, 0)))) = some (r1, r2) := h
  clear h
  by_cases c2 : a0 < 0
  · rw [if_pos c2] at H
    have c2b0 : decide (a0 < 0) = true := decide_eq_true c2
    clear c2
    simp only [Option.some.injEq, Prod.mk.injEq] at H
    obtain ⟨rfl, rfl⟩ := H
    go_enter Try.func17, Try.ntmps17
    go_wp2
    go_ret2
    exact ⟨by first | rfl | (simp; done) | (simp [*]; done), by repeat (first | exact Drawn0.refl _ | apply Drawn0.step)⟩
  · rw [if_neg c2] at H
    have c2b0 : decide (a0 < 0) = false := decide_eq_false c2
    clear c2
    by_cases c3 : a0 > 99
    · rw [if_pos c3] at H
      have c3b0 : decide (99 < a0) = true := decide_eq_true c3
      clear c3
      simp only [Option.some.injEq, Prod.mk.injEq] at H
      obtain ⟨rfl, rfl⟩ := H
      go_enter Try.func17, Try.ntmps17
      go_wp2
      go_ret2
      exact ⟨by first | rfl | (simp; done) | (simp [*]; done), by repeat (first | exact Drawn0.refl _ | apply Drawn0.step)⟩
    · rw [if_neg c3] at H
      have c3b0 : decide (99 < a0) = false := decide_eq_false c3
      clear c3
      simp only [Option.some.injEq, Prod.mk.injEq] at H
      obtain ⟨rfl, rfl⟩ := H
      go_enter Try.func17, Try.ntmps17
      go_wp2
      go_ret2
      exact ⟨by first | rfl | (simp; done) | (simp [*]; done), by repeat (first | exact Drawn0.refl _ | apply Drawn0.step)⟩

/-! ### endian_FromBCD: function 19 -/
def endian_FromBCD.f (a0 : Int) : Option (Int × Int) := if (wrap32 (a0 / 16)) > 9 then (some (0, 2)) else (if (wrap32 (Go.bits .and .u8 a0 15)) > 9 then (some (0, 2)) else (some (wrap64 (wrap32 ((wrap32 (10 * (wrap32 (a0 / 16)))) + (wrap32 (Go.bits .and .u8 a0 15)))), 0)))
set_option maxHeartbeats 8000000 in
set_option maxRecDepth 100000 in
theorem endian_FromBCD.calls (a0 : Int) (r1 : Int) (r2 : Int) (w : World) (h : endian_FromBCD.f a0 = some (r1, r2)) :
    Calls Try.prog 19 #[.int .u8 a0] w fun e w' => e = .returned (.tuple #[.int .i64 r1, .int .i64 r2]) ∧ Drawn0 w w' := by
  have H : (if (wrap32 (a0 / 16)) > 9 then (some (0, 2)) else (if (wrap32 (Go.bits .and .u8 a0 15)) > 9 then (some (0, 2)) else (some (wrap64 (wrap32 ((wrap32 (10 * (wrap32 (a0 / 16)))) + (wrap32 (Go.bits .and .u8 a0 15)))), 0)))) = some (r1, r2) := h
  clear h
  by_cases c2 : (wrap32 (a0 / 16)) > 9
  · rw [if_pos c2] at H
    have c2b0 : decide (9 < (wrap32 (a0 / 16))) = true := decide_eq_true c2
    clear c2
    simp only [Option.some.injEq, Prod.mk.injEq] at H
    obtain ⟨rfl, rfl⟩ := H
    go_enter Try.func19, Try.ntmps19
    go_wp2
    go_ret2
    exact ⟨by first | rfl | (simp; done) | (simp [*]; done), by repeat (first | exact Drawn0.refl _ | apply Drawn0.step)⟩
  · rw [if_neg c2] at H
    have c2b0 : decide (9 < (wrap32 (a0 / 16))) = false := decide_eq_false c2
    clear c2
    by_cases c3 : (wrap32 (Go.bits .and .u8 a0 15)) > 9
    · rw [if_pos c3] at H
      have c3b0 : decide (9 < (wrap32 (Go.bits .and .u8 a0 15))) = true := decide_eq_true c3
      clear c3
      simp only [Option.some.injEq, Prod.mk.injEq] at H
      obtain ⟨rfl, rfl⟩ := H
      go_enter Try.func19, Try.ntmps19
      go_wp2
      go_ret2
      exact ⟨by first | rfl | (simp; done) | (simp [*]; done), by repeat (first | exact Drawn0.refl _ | apply Drawn0.step)⟩
    · rw [if_neg c3] at H
      have c3b0 : decide (9 < (wrap32 (Go.bits .and .u8 a0 15))) = false := decide_eq_false c3
      clear c3
      simp only [Option.some.injEq, Prod.mk.injEq] at H
      obtain ⟨rfl, rfl⟩ := H
      go_enter Try.func19, Try.ntmps19
      go_wp2
      go_ret2
      exact ⟨by first | rfl | (simp; done) | (simp [*]; done), by repeat (first | exact Drawn0.refl _ | apply Drawn0.step)⟩

/-! ### endian_Put: function 21 -/
def endian_Put.f (a0 : ByteArray) (a1 : Int) (a2 : ByteArray) : Option (ByteArray × Int) := (endian_inside.f a0 a1 (a2.size : Int)).bind fun t165 => (if t165 = true then (if 0 ≤ a1 then (if a1 ≤ (a0.size : Int) then (if (a0.extract 0 (a1 : Int).toNat).size + a2.size ≤ 9223372036854775807 then (if 0 ≤ (wrap64 (a1 + (a2.size : Int))) then (if (wrap64 (a1 + (a2.size : Int))) ≤ (a0.size : Int) then (if ((a0.extract 0 (a1 : Int).toNat) ++ a2).size + (a0.extract ((wrap64 (a1 + (a2.size : Int))) : Int).toNat a0.size).size ≤ 9223372036854775807 then (some (((a0.extract 0 (a1 : Int).toNat) ++ a2) ++ (a0.extract ((wrap64 (a1 + (a2.size : Int))) : Int).toNat a0.size), 0)) else (none)) else (none)) else (none)) else (none)) else (none)) else (none)) else (some ((⟨#[]⟩ : ByteArray), 2)))
set_option maxHeartbeats 8000000 in
set_option maxRecDepth 100000 in
theorem endian_Put.calls (a0 : ByteArray) (a1 : Int) (a2 : ByteArray) (r1 : ByteArray) (r2 : Int) (w : World) (h : endian_Put.f a0 a1 a2 = some (r1, r2)) :
    Calls Try.prog 21 #[.string a0, .int .i64 a1, .string a2] w fun e w' => e = .returned (.tuple #[.string r1, .int .i64 r2]) ∧ Drawn0 w w' := by
  have H : ((endian_inside.f a0 a1 (a2.size : Int)).bind fun t165 => (if t165 = true then (if 0 ≤ a1 then (if a1 ≤ (a0.size : Int) then (if (a0.extract 0 (a1 : Int).toNat).size + a2.size ≤ 9223372036854775807 then (if 0 ≤ (wrap64 (a1 + (a2.size : Int))) then (if (wrap64 (a1 + (a2.size : Int))) ≤ (a0.size : Int) then (if ((a0.extract 0 (a1 : Int).toNat) ++ a2).size + (a0.extract ((wrap64 (a1 + (a2.size : Int))) : Int).toNat a0.size).size ≤ 9223372036854775807 then (some (((a0.extract 0 (a1 : Int).toNat) ++ a2) ++ (a0.extract ((wrap64 (a1 + (a2.size : Int))) : Int).toNat a0.size), 0)) else (none)) else (none)) else (none)) else (none)) else (none)) else (none)) else (some ((⟨#[]⟩ : ByteArray), 2)))) = some (r1, r2) := h
  clear h
  replace H := Option.bind_eq_some_iff.mp H
  obtain ⟨t165, A40, H⟩ := H
  replace H : (if t165 = true then (if 0 ≤ a1 then (if a1 ≤ (a0.size : Int) then (if (a0.extract 0 (a1 : Int).toNat).size + a2.size ≤ 9223372036854775807 then (if 0 ≤ (wrap64 (a1 + (a2.size : Int))) then (if (wrap64 (a1 + (a2.size : Int))) ≤ (a0.size : Int) then (if ((a0.extract 0 (a1 : Int).toNat) ++ a2).size + (a0.extract ((wrap64 (a1 + (a2.size : Int))) : Int).toNat a0.size).size ≤ 9223372036854775807 then (some (((a0.extract 0 (a1 : Int).toNat) ++ a2) ++ (a0.extract ((wrap64 (a1 + (a2.size : Int))) : Int).toNat a0.size), 0)) else (none)) else (none)) else (none)) else (none)) else (none)) else (none)) else (some ((⟨#[]⟩ : ByteArray), 2))) = some (r1, r2) := H
  have A4 := Aside0.mk A40
  clear A40
  by_cases c5 : t165 = true
  · subst c5
    have H1 : (if 0 ≤ a1 then (if a1 ≤ (a0.size : Int) then (if (a0.extract 0 (a1 : Int).toNat).size + a2.size ≤ 9223372036854775807 then (if 0 ≤ (wrap64 (a1 + (a2.size : Int))) then (if (wrap64 (a1 + (a2.size : Int))) ≤ (a0.size : Int) then (if ((a0.extract 0 (a1 : Int).toNat) ++ a2).size + (a0.extract ((wrap64 (a1 + (a2.size : Int))) : Int).toNat a0.size).size ≤ 9223372036854775807 then (some (((a0.extract 0 (a1 : Int).toNat) ++ a2) ++ (a0.extract ((wrap64 (a1 + (a2.size : Int))) : Int).toNat a0.size), 0)) else (none)) else (none)) else (none)) else (none)) else (none)) else (none)) = some (r1, r2) := by rw [if_pos rfl] at H; exact H
    clear H
    have H := H1
    clear H1
    by_cases c6 : 0 ≤ a1
    · rw [if_pos c6] at H
      have c6b0 := eq_true c6
      have c6b1 : decide (0 ≤ a1) = true := decide_eq_true c6
      clear c6
      by_cases c7 : a1 ≤ (a0.size : Int)
      · rw [if_pos c7] at H
        have c7b0 := eq_true c7
        have c7b1 : decide (a1 ≤ (a0.size : Int)) = true := decide_eq_true c7
        clear c7
        by_cases c8 : (a0.extract 0 (a1 : Int).toNat).size + a2.size ≤ 9223372036854775807
        · rw [if_pos c8] at H
          have c8b0 := eq_true c8
          have c8b1 : decide ((a0.extract 0 (a1 : Int).toNat).size + a2.size ≤ 9223372036854775807) = true := decide_eq_true c8
          try have c8b2 : (9223372036854775807 < (a0.extract 0 (a1 : Int).toNat).size + a2.size) = False := eq_false (Nat.not_lt.2 c8)
          obtain ⟨ji9, hji9⟩ : ∃ j_ : Int, (wrap64 (a1 + (a2.size : Int))) = j_ := ⟨_, rfl⟩
          replace H : (if 0 ≤ (ji9) then (if (ji9) ≤ (a0.size : Int) then (if ((a0.extract 0 (a1 : Int).toNat) ++ a2).size + (a0.extract ((ji9) : Int).toNat a0.size).size ≤ 9223372036854775807 then (some (((a0.extract 0 (a1 : Int).toNat) ++ a2) ++ (a0.extract ((ji9) : Int).toNat a0.size), 0)) else (none)) else (none)) else (none)) = some (r1, r2) := by first | (rw [hji9] at H; exact H) | (simp only [hji9] at H ⊢; exact H)
          (try rw [hji9] at A4)
          have hji9w : (IntKind.i64.wrap (a1 + (a2.size : Int))) = ji9 := (i64_w _).trans hji9
          by_cases c10 : 0 ≤ (ji9)
          · rw [if_pos c10] at H
            have c10b0 := eq_true c10
            have c10b1 : decide (0 ≤ (ji9)) = true := decide_eq_true c10
            clear c10
            by_cases c11 : (ji9) ≤ (a0.size : Int)
            · rw [if_pos c11] at H
              have c11b0 := eq_true c11
              have c11b1 : decide ((ji9) ≤ (a0.size : Int)) = true := decide_eq_true c11
              clear c11
              by_cases c12 : ((a0.extract 0 (a1 : Int).toNat) ++ a2).size + (a0.extract ((ji9) : Int).toNat a0.size).size ≤ 9223372036854775807
              · rw [if_pos c12] at H
                have c12b0 := eq_true c12
                have c12b1 : decide (((a0.extract 0 (a1 : Int).toNat) ++ a2).size + (a0.extract ((ji9) : Int).toNat a0.size).size ≤ 9223372036854775807) = true := decide_eq_true c12
                try have c12b2 : (9223372036854775807 < ((a0.extract 0 (a1 : Int).toNat) ++ a2).size + (a0.extract ((ji9) : Int).toNat a0.size).size) = False := eq_false (Nat.not_lt.2 c12)
                simp only [Option.some.injEq, Prod.mk.injEq] at H
                obtain ⟨rfl, rfl⟩ := H
                go_enter Try.func21, Try.ntmps21
                go_wp2_with (first | (go_at_call 37; (with_reducible refine (endian_inside.calls a0 a1 (a2.size : Int) true _ A4.out).mono ?_); rintro e w' ⟨rfl, ⟨nd, rfl⟩⟩; (try first | exact ⟨rfl, _, World.drewN_drewN _ _ _⟩ | exact ⟨rfl, _, Eq.trans (World.drewN_drewN _ _ _) (congrArg (World.drewN _) (Nat.add_assoc _ _ _))⟩)))
                repeat (go_quiet (first | (go_at_call 37; (with_reducible refine (endian_inside.calls a0 a1 (a2.size : Int) true _ A4.out).mono ?_); rintro e w' ⟨rfl, ⟨nd, rfl⟩⟩; (try first | exact ⟨rfl, _, World.drewN_drewN _ _ _⟩ | exact ⟨rfl, _, Eq.trans (World.drewN_drewN _ _ _) (congrArg (World.drewN _) (Nat.add_assoc _ _ _))⟩))); try go_wp2_with (first | (go_at_call 37; (with_reducible refine (endian_inside.calls a0 a1 (a2.size : Int) true _ A4.out).mono ?_); rintro e w' ⟨rfl, ⟨nd, rfl⟩⟩; (try first | exact ⟨rfl, _, World.drewN_drewN _ _ _⟩ | exact ⟨rfl, _, Eq.trans (World.drewN_drewN _ _ _) (congrArg (World.drewN _) (Nat.add_assoc _ _ _))⟩))))
                go_ret2
                exact ⟨by first | rfl | (simp; done) | (simp only [← hji9] <;> (first | rfl | simp)) | (simp [*]; done), by repeat (first | exact Drawn0.refl _ | apply Drawn0.step)⟩
              · rw [if_neg c12] at H
                exact absurd H (by simp)
            · rw [if_neg c11] at H
              exact absurd H (by simp)
          · rw [if_neg c10] at H
            exact absurd H (by simp)
        · rw [if_neg c8] at H
          exact absurd H (by simp)
      · rw [if_neg c7] at H
        exact absurd H (by simp)
    · rw [if_neg c6] at H
      exact absurd H (by simp)
  · replace c5 := Bool.eq_false_iff.mpr c5
    subst c5
    have H1 : (some ((⟨#[]⟩ : ByteArray), 2)) = some (r1, r2) := by rw [if_neg (show ¬ (false = true) by decide)] at H; exact H
    clear H
    have H := H1
    clear H1
    simp only [Option.some.injEq, Prod.mk.injEq] at H
    obtain ⟨rfl, rfl⟩ := H
    go_enter Try.func21, Try.ntmps21
    go_wp2_with (first | (go_at_call 37; (with_reducible refine (endian_inside.calls a0 a1 (a2.size : Int) false _ A4.out).mono ?_); rintro e w' ⟨rfl, ⟨nd, rfl⟩⟩; (try first | exact ⟨rfl, _, World.drewN_drewN _ _ _⟩ | exact ⟨rfl, _, Eq.trans (World.drewN_drewN _ _ _) (congrArg (World.drewN _) (Nat.add_assoc _ _ _))⟩)))
    repeat (go_quiet (first | (go_at_call 37; (with_reducible refine (endian_inside.calls a0 a1 (a2.size : Int) false _ A4.out).mono ?_); rintro e w' ⟨rfl, ⟨nd, rfl⟩⟩; (try first | exact ⟨rfl, _, World.drewN_drewN _ _ _⟩ | exact ⟨rfl, _, Eq.trans (World.drewN_drewN _ _ _) (congrArg (World.drewN _) (Nat.add_assoc _ _ _))⟩))); try go_wp2_with (first | (go_at_call 37; (with_reducible refine (endian_inside.calls a0 a1 (a2.size : Int) false _ A4.out).mono ?_); rintro e w' ⟨rfl, ⟨nd, rfl⟩⟩; (try first | exact ⟨rfl, _, World.drewN_drewN _ _ _⟩ | exact ⟨rfl, _, Eq.trans (World.drewN_drewN _ _ _) (congrArg (World.drewN _) (Nat.add_assoc _ _ _))⟩))))
    go_ret2
    exact ⟨by first | rfl | (simp; done) | (simp [*]; done), by repeat (first | exact Drawn0.refl _ | apply Drawn0.step)⟩

end Go.Proofs.Ytbkakfaeeodmmaa.G
