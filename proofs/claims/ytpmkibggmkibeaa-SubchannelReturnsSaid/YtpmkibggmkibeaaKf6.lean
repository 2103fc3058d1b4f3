/- Texts of one claim, merged by a program of this session; what is proved stands in the last of them. -/
import Derived.ChangeArms
import Derived.Deep.Slices
import Derived.Lib.SmallJoins
import Derived.Lib.Strings
import Derived.Test.YtpmkibggmkibeaaKf1
import Derived.Test.YtpmkibggmkibeaaKf4
import Derived.Test.YtpmkibggmkibeaaKf5
namespace Go.Proofs.Ytpmkibggmkibeaa.G
open Go.RowKit Go.Proofs.YtpmkibggmkibeaaW.PrintWords Go.Proofs.YtpmkibggmkibeaaW.PrintLast Go.Proofs.YtpmkibggmkibeaaW.PrintMore
attribute [local go_sem] max2_int min2_int max_two min_two max_three min_three max_four min_four   -- for this text's walks alone
set_option linter.unusedVariables false
set_option linter.unusedSimpArgs false
def subchannel_Decode.j0 : Nat → Bool → Int → Int → Int → Int → Int → Int → Int → Int → Int → Option (Int × Int × Int × Int × Int × Int × Int × Int × Int × Int)
 | 0, _, _, _, _, _, _, _, _, _, _ => none
 | k + 1, x86, x421000, x421001, x421002, x421003, x421004, x421005, x421006, x421007, x421008 => if x86 = true then (some (0, 0, 0, 0, 0, 0, 0, 0, 0, 10)) else (some (x421000, x421001, x421002, x421003, x421004, x421005, x421006, x421007, x421008, 0))
def subchannel_Decode.f (k : Nat) (a0 : ByteArray) : Option (Int × Int × Int × Int × Int × Int × Int × Int × Int × Int) := if (a0.size : Int) = 12 then (if 0 ≤ 10 then (if 10 ≤ (a0.size : Int) then ((subchannel_check.f (a0.extract 0 10)).bind fun t419 => (if t419.toList = (a0.extract 10 a0.size).toList then (if 0 < (a0.size : Int) then (if 1 < (a0.size : Int) then ((subchannel_unnumber.f (bt a0 1)).bind fun bt421 => (if 2 < (a0.size : Int) then ((subchannel_unnumber.f (bt a0 2)).bind fun bt423 => ((address_Decode.f a0 3).bind fun bt425 => ((address_Decode.f a0 7).bind fun bt430 => ((subchannel_Encode.f (wrap64 ((bt a0 0) / 16)) bt421.1 bt423.1 bt425.1 bt425.2.1 bt425.2.2.1 bt430.1 bt430.2.1 bt430.2.2.1).bind fun bt435 => (if bt421.2 = true then (if bt423.2 = true then (if bt425.2.2.2 = 0 then (if bt430.2.2.2 = 0 then (if bt435.2 = 0 then (subchannel_Decode.j0 k (bt435.1.toList != a0.toList) (wrap64 ((bt a0 0) / 16)) bt421.1 bt423.1 bt425.1 bt425.2.1 bt425.2.2.1 bt430.1 bt430.2.1 bt430.2.2.1) else (subchannel_Decode.j0 k true (wrap64 ((bt a0 0) / 16)) bt421.1 bt423.1 bt425.1 bt425.2.1 bt425.2.2.1 bt430.1 bt430.2.1 bt430.2.2.1)) else (subchannel_Decode.j0 k true (wrap64 ((bt a0 0) / 16)) bt421.1 bt423.1 bt425.1 bt425.2.1 bt425.2.2.1 bt430.1 bt430.2.1 bt430.2.2.1)) else (subchannel_Decode.j0 k true (wrap64 ((bt a0 0) / 16)) bt421.1 bt423.1 bt425.1 bt425.2.1 bt425.2.2.1 bt430.1 bt430.2.1 bt430.2.2.1)) else (subchannel_Decode.j0 k true (wrap64 ((bt a0 0) / 16)) bt421.1 bt423.1 bt425.1 bt425.2.1 bt425.2.2.1 bt430.1 bt430.2.1 bt430.2.2.1)) else (subchannel_Decode.j0 k true (wrap64 ((bt a0 0) / 16)) bt421.1 bt423.1 bt425.1 bt425.2.1 bt425.2.2.1 bt430.1 bt430.2.1 bt430.2.2.1)))))) else (none))) else (none)) else (none)) else (some (0, 0, 0, 0, 0, 0, 0, 0, 0, 9)))) else (none)) else (none)) else (some (0, 0, 0, 0, 0, 0, 0, 0, 0, 1))
theorem subchannel_Decode.mono_l : ∀ k, (∀ y0 y1 y2 y3 y4 y5 y6 y7 y8 y9, LeO (subchannel_Decode.j0 k y0 y1 y2 y3 y4 y5 y6 y7 y8 y9) (subchannel_Decode.j0 (k + 1) y0 y1 y2 y3 y4 y5 y6 y7 y8 y9))
 | 0 => fun _ _ _ _ _ _ _ _ _ _ r h => by simp [subchannel_Decode.j0] at h
 | k + 1 => by
  have ih0 := subchannel_Decode.mono_l k
  · intro y0 y1 y2 y3 y4 y5 y6 y7 y8 y9
    unfold subchannel_Decode.j0
    repeat' first
    | (with_reducible exact ih0 _ _ _ _ _ _ _ _ _ _)
    | (with_reducible exact LeO.refl _)
    | (with_reducible exact LeO.none _)
    | (with_reducible refine LeO.ite ?_ ?_)
    | (with_reducible refine LeO.bind ?_ (fun _ => ?_))
    | exact ih0 _ _ _ _ _ _ _ _ _ _
    | exact LeO.none _
    | refine LeO.ite ?_ ?_
    | refine LeO.bind ?_ (fun _ => ?_)
theorem subchannel_Decode.mono : ∀ a0 k, LeO (subchannel_Decode.f k a0) (subchannel_Decode.f (k + 1) a0) := by
 intro a0 k
 have ih0 := subchannel_Decode.mono_l k
 unfold subchannel_Decode.f
 repeat' first
  | (with_reducible exact ih0 _ _ _ _ _ _ _ _ _ _)
  | (with_reducible exact LeO.refl _)
  | (with_reducible exact LeO.none _)
  | (with_reducible refine LeO.ite ?_ ?_)
  | (with_reducible refine LeO.bind ?_ (fun _ => ?_))
  | exact ih0 _ _ _ _ _ _ _ _ _ _
  | exact LeO.none _
  | refine LeO.ite ?_ ?_
  | refine LeO.bind ?_ (fun _ => ?_)
set_option maxHeartbeats 8000000 in
set_option maxRecDepth 100000 in
theorem subchannel_Decode.calls (k : Nat) (a0 : ByteArray) (r1 : Int) (r2 : Int) (r3 : Int) (r4 : Int) (r5 : Int) (r6 : Int) (r7 : Int) (r8 : Int) (r9 : Int) (r10 : Int) (w : World) (h : subchannel_Decode.f k a0 = some (r1, r2, r3, r4, r5, r6, r7, r8, r9, r10)) :
 Calls Try.prog 23 #[.string a0] w fun e w' => e = .returned (.tuple #[.agg #[.int .i64 r1, .int .i64 r2, .int .i64 r3, .int .i64 r4, .int .i64 r5, .int .i64 r6, .int .i64 r7, .int .i64 r8, .int .i64 r9], .int .i64 r10]) ∧ Below w.heap.size w w' := by
 have hu27 := Try.underlying27
 have hu25 := Try.underlying25
 have HB := Aside0.mk (Below.refl w.heap.size w)
 have H : (if (a0.size : Int) = 12 then (if 0 ≤ 10 then (if 10 ≤ (a0.size : Int) then ((subchannel_check.f (a0.extract 0 10)).bind fun t419 => (if t419.toList = (a0.extract 10 a0.size).toList then (if 0 < (a0.size : Int) then (if 1 < (a0.size : Int) then ((subchannel_unnumber.f (bt a0 1)).bind fun bt421 => (if 2 < (a0.size : Int) then ((subchannel_unnumber.f (bt a0 2)).bind fun bt423 => ((address_Decode.f a0 3).bind fun bt425 => ((address_Decode.f a0 7).bind fun bt430 => ((subchannel_Encode.f (wrap64 ((bt a0 0) / 16)) bt421.1 bt423.1 bt425.1 bt425.2.1 bt425.2.2.1 bt430.1 bt430.2.1 bt430.2.2.1).bind fun bt435 => (if bt421.2 = true then (if bt423.2 = true then (if bt425.2.2.2 = 0 then (if bt430.2.2.2 = 0 then (if bt435.2 = 0 then (subchannel_Decode.j0 k (bt435.1.toList != a0.toList) (wrap64 ((bt a0 0) / 16)) bt421.1 bt423.1 bt425.1 bt425.2.1 bt425.2.2.1 bt430.1 bt430.2.1 bt430.2.2.1) else (subchannel_Decode.j0 k true (wrap64 ((bt a0 0) / 16)) bt421.1 bt423.1 bt425.1 bt425.2.1 bt425.2.2.1 bt430.1 bt430.2.1 bt430.2.2.1)) else (subchannel_Decode.j0 k true (wrap64 ((bt a0 0) / 16)) bt421.1 bt423.1 bt425.1 bt425.2.1 bt425.2.2.1 bt430.1 bt430.2.1 bt430.2.2.1)) else (subchannel_Decode.j0 k true (wrap64 ((bt a0 0) / 16)) bt421.1 bt423.1 bt425.1 bt425.2.1 bt425.2.2.1 bt430.1 bt430.2.1 bt430.2.2.1)) else (subchannel_Decode.j0 k true (wrap64 ((bt a0 0) / 16)) bt421.1 bt423.1 bt425.1 bt425.2.1 bt425.2.2.1 bt430.1 bt430.2.1 bt430.2.2.1)) else (subchannel_Decode.j0 k true (wrap64 ((bt a0 0) / 16)) bt421.1 bt423.1 bt425.1 bt425.2.1 bt425.2.2.1 bt430.1 bt430.2.1 bt430.2.2.1)))))) else (none))) else (none)) else (none)) else (some (0, 0, 0, 0, 0, 0, 0, 0, 0, 9)))) else (none)) else (none)) else (some (0, 0, 0, 0, 0, 0, 0, 0, 0, 1))) = some (r1, r2, r3, r4, r5, r6, r7, r8, r9, r10) := h
 clear h
 by_cases c2 : (a0.size : Int) = 12
 · rw [if_pos c2] at H
   have c2b0 : ((a0.size : Int) == 12) = true := beq_iff_eq.mpr c2
   have c2b1 : ((a0.size : Int) != 12) = false := bne_eq_false_iff_eq.mpr c2
   clear c2
   by_cases c3 : 0 ≤ 10
   · rw [if_pos c3] at H
     have c3b0 := eq_true c3
     have c3b1 : decide (0 ≤ 10) = true := decide_eq_true c3
     clear c3
     by_cases c4 : 10 ≤ (a0.size : Int)
     · rw [if_pos c4] at H
       have c4b0 := eq_true c4
       have c4b1 : decide (10 ≤ (a0.size : Int)) = true := decide_eq_true c4
       clear c4
       replace H := Option.bind_eq_some_iff.mp H
       obtain ⟨t419, A50, H⟩ := H
       replace H : (if t419.toList = (a0.extract 10 a0.size).toList then (if 0 < (a0.size : Int) then (if 1 < (a0.size : Int) then ((subchannel_unnumber.f (bt a0 1)).bind fun bt421 => (if 2 < (a0.size : Int) then ((subchannel_unnumber.f (bt a0 2)).bind fun bt423 => ((address_Decode.f a0 3).bind fun bt425 => ((address_Decode.f a0 7).bind fun bt430 => ((subchannel_Encode.f (wrap64 ((bt a0 0) / 16)) bt421.1 bt423.1 bt425.1 bt425.2.1 bt425.2.2.1 bt430.1 bt430.2.1 bt430.2.2.1).bind fun bt435 => (if bt421.2 = true then (if bt423.2 = true then (if bt425.2.2.2 = 0 then (if bt430.2.2.2 = 0 then (if bt435.2 = 0 then (subchannel_Decode.j0 k (bt435.1.toList != a0.toList) (wrap64 ((bt a0 0) / 16)) bt421.1 bt423.1 bt425.1 bt425.2.1 bt425.2.2.1 bt430.1 bt430.2.1 bt430.2.2.1) else (subchannel_Decode.j0 k true (wrap64 ((bt a0 0) / 16)) bt421.1 bt423.1 bt425.1 bt425.2.1 bt425.2.2.1 bt430.1 bt430.2.1 bt430.2.2.1)) else (subchannel_Decode.j0 k true (wrap64 ((bt a0 0) / 16)) bt421.1 bt423.1 bt425.1 bt425.2.1 bt425.2.2.1 bt430.1 bt430.2.1 bt430.2.2.1)) else (subchannel_Decode.j0 k true (wrap64 ((bt a0 0) / 16)) bt421.1 bt423.1 bt425.1 bt425.2.1 bt425.2.2.1 bt430.1 bt430.2.1 bt430.2.2.1)) else (subchannel_Decode.j0 k true (wrap64 ((bt a0 0) / 16)) bt421.1 bt423.1 bt425.1 bt425.2.1 bt425.2.2.1 bt430.1 bt430.2.1 bt430.2.2.1)) else (subchannel_Decode.j0 k true (wrap64 ((bt a0 0) / 16)) bt421.1 bt423.1 bt425.1 bt425.2.1 bt425.2.2.1 bt430.1 bt430.2.1 bt430.2.2.1)))))) else (none))) else (none)) else (none)) else (some (0, 0, 0, 0, 0, 0, 0, 0, 0, 9))) = some (r1, r2, r3, r4, r5, r6, r7, r8, r9, r10) := H
       have A5 := Aside0.mk A50
       clear A50
       have c6b0 := eq_true (of_decide_eq_true (by first | (with_reducible assumption) | assumption) : 10 ≤ (a0.size : Int))
       by_cases c7 : t419.toList = (a0.extract 10 a0.size).toList
       · rw [if_pos c7] at H
         have c7b0 : (t419.toList == (a0.extract 10 a0.size).toList) = true := beq_iff_eq.mpr c7
         have c7b1 : (t419.toList != (a0.extract 10 a0.size).toList) = false := bne_eq_false_iff_eq.mpr c7
         clear c7
         by_cases c8 : 0 < (a0.size : Int)
         · rw [if_pos c8] at H
           have c8b0 : decide (0 < (a0.size : Int)) = true := decide_eq_true c8
           have c8b1 : decide (0 < a0.size) = true := decide_eq_true (by omega)
           clear c8
           by_cases c10 : 1 < (a0.size : Int)
           · rw [if_pos c10] at H
             have c10b0 : decide (1 < (a0.size : Int)) = true := decide_eq_true c10
             have c10b1 : decide (1 < a0.size) = true := decide_eq_true (by omega)
             clear c10
             replace H := Option.bind_eq_some_iff.mp H
             obtain ⟨⟨t421, t422⟩, A120, H⟩ := H
             replace H : (if 2 < (a0.size : Int) then ((subchannel_unnumber.f (bt a0 2)).bind fun bt423 => ((address_Decode.f a0 3).bind fun bt425 => ((address_Decode.f a0 7).bind fun bt430 => ((subchannel_Encode.f (wrap64 ((bt a0 0) / 16)) t421 bt423.1 bt425.1 bt425.2.1 bt425.2.2.1 bt430.1 bt430.2.1 bt430.2.2.1).bind fun bt435 => (if t422 = true then (if bt423.2 = true then (if bt425.2.2.2 = 0 then (if bt430.2.2.2 = 0 then (if bt435.2 = 0 then (subchannel_Decode.j0 k (bt435.1.toList != a0.toList) (wrap64 ((bt a0 0) / 16)) t421 bt423.1 bt425.1 bt425.2.1 bt425.2.2.1 bt430.1 bt430.2.1 bt430.2.2.1) else (subchannel_Decode.j0 k true (wrap64 ((bt a0 0) / 16)) t421 bt423.1 bt425.1 bt425.2.1 bt425.2.2.1 bt430.1 bt430.2.1 bt430.2.2.1)) else (subchannel_Decode.j0 k true (wrap64 ((bt a0 0) / 16)) t421 bt423.1 bt425.1 bt425.2.1 bt425.2.2.1 bt430.1 bt430.2.1 bt430.2.2.1)) else (subchannel_Decode.j0 k true (wrap64 ((bt a0 0) / 16)) t421 bt423.1 bt425.1 bt425.2.1 bt425.2.2.1 bt430.1 bt430.2.1 bt430.2.2.1)) else (subchannel_Decode.j0 k true (wrap64 ((bt a0 0) / 16)) t421 bt423.1 bt425.1 bt425.2.1 bt425.2.2.1 bt430.1 bt430.2.1 bt430.2.2.1)) else (subchannel_Decode.j0 k true (wrap64 ((bt a0 0) / 16)) t421 bt423.1 bt425.1 bt425.2.1 bt425.2.2.1 bt430.1 bt430.2.1 bt430.2.2.1)))))) else (none)) = some (r1, r2, r3, r4, r5, r6, r7, r8, r9, r10) := H
             have A12 := Aside0.mk A120
             clear A120
             by_cases c13 : 2 < (a0.size : Int)
             · rw [if_pos c13] at H
               have c13b0 : decide (2 < (a0.size : Int)) = true := decide_eq_true c13
               have c13b1 : decide (2 < a0.size) = true := decide_eq_true (by omega)
               clear c13
               replace H := Option.bind_eq_some_iff.mp H
               obtain ⟨⟨t423, t424⟩, A150, H⟩ := H
               replace H : ((address_Decode.f a0 3).bind fun bt425 => ((address_Decode.f a0 7).bind fun bt430 => ((subchannel_Encode.f (wrap64 ((bt a0 0) / 16)) t421 t423 bt425.1 bt425.2.1 bt425.2.2.1 bt430.1 bt430.2.1 bt430.2.2.1).bind fun bt435 => (if t422 = true then (if t424 = true then (if bt425.2.2.2 = 0 then (if bt430.2.2.2 = 0 then (if bt435.2 = 0 then (subchannel_Decode.j0 k (bt435.1.toList != a0.toList) (wrap64 ((bt a0 0) / 16)) t421 t423 bt425.1 bt425.2.1 bt425.2.2.1 bt430.1 bt430.2.1 bt430.2.2.1) else (subchannel_Decode.j0 k true (wrap64 ((bt a0 0) / 16)) t421 t423 bt425.1 bt425.2.1 bt425.2.2.1 bt430.1 bt430.2.1 bt430.2.2.1)) else (subchannel_Decode.j0 k true (wrap64 ((bt a0 0) / 16)) t421 t423 bt425.1 bt425.2.1 bt425.2.2.1 bt430.1 bt430.2.1 bt430.2.2.1)) else (subchannel_Decode.j0 k true (wrap64 ((bt a0 0) / 16)) t421 t423 bt425.1 bt425.2.1 bt425.2.2.1 bt430.1 bt430.2.1 bt430.2.2.1)) else (subchannel_Decode.j0 k true (wrap64 ((bt a0 0) / 16)) t421 t423 bt425.1 bt425.2.1 bt425.2.2.1 bt430.1 bt430.2.1 bt430.2.2.1)) else (subchannel_Decode.j0 k true (wrap64 ((bt a0 0) / 16)) t421 t423 bt425.1 bt425.2.1 bt425.2.2.1 bt430.1 bt430.2.1 bt430.2.2.1))))) = some (r1, r2, r3, r4, r5, r6, r7, r8, r9, r10) := H
               have A15 := Aside0.mk A150
               clear A150
               replace H := Option.bind_eq_some_iff.mp H
               obtain ⟨⟨t425, t426, t427, t428⟩, A160, H⟩ := H
               replace H : ((address_Decode.f a0 7).bind fun bt430 => ((subchannel_Encode.f (wrap64 ((bt a0 0) / 16)) t421 t423 t425 t426 t427 bt430.1 bt430.2.1 bt430.2.2.1).bind fun bt435 => (if t422 = true then (if t424 = true then (if t428 = 0 then (if bt430.2.2.2 = 0 then (if bt435.2 = 0 then (subchannel_Decode.j0 k (bt435.1.toList != a0.toList) (wrap64 ((bt a0 0) / 16)) t421 t423 t425 t426 t427 bt430.1 bt430.2.1 bt430.2.2.1) else (subchannel_Decode.j0 k true (wrap64 ((bt a0 0) / 16)) t421 t423 t425 t426 t427 bt430.1 bt430.2.1 bt430.2.2.1)) else (subchannel_Decode.j0 k true (wrap64 ((bt a0 0) / 16)) t421 t423 t425 t426 t427 bt430.1 bt430.2.1 bt430.2.2.1)) else (subchannel_Decode.j0 k true (wrap64 ((bt a0 0) / 16)) t421 t423 t425 t426 t427 bt430.1 bt430.2.1 bt430.2.2.1)) else (subchannel_Decode.j0 k true (wrap64 ((bt a0 0) / 16)) t421 t423 t425 t426 t427 bt430.1 bt430.2.1 bt430.2.2.1)) else (subchannel_Decode.j0 k true (wrap64 ((bt a0 0) / 16)) t421 t423 t425 t426 t427 bt430.1 bt430.2.1 bt430.2.2.1)))) = some (r1, r2, r3, r4, r5, r6, r7, r8, r9, r10) := H
               have A16 := Aside0.mk A160
               clear A160
               replace H := Option.bind_eq_some_iff.mp H
               obtain ⟨⟨t430, t431, t432, t433⟩, A170, H⟩ := H
               replace H : ((subchannel_Encode.f (wrap64 ((bt a0 0) / 16)) t421 t423 t425 t426 t427 t430 t431 t432).bind fun bt435 => (if t422 = true then (if t424 = true then (if t428 = 0 then (if t433 = 0 then (if bt435.2 = 0 then (subchannel_Decode.j0 k (bt435.1.toList != a0.toList) (wrap64 ((bt a0 0) / 16)) t421 t423 t425 t426 t427 t430 t431 t432) else (subchannel_Decode.j0 k true (wrap64 ((bt a0 0) / 16)) t421 t423 t425 t426 t427 t430 t431 t432)) else (subchannel_Decode.j0 k true (wrap64 ((bt a0 0) / 16)) t421 t423 t425 t426 t427 t430 t431 t432)) else (subchannel_Decode.j0 k true (wrap64 ((bt a0 0) / 16)) t421 t423 t425 t426 t427 t430 t431 t432)) else (subchannel_Decode.j0 k true (wrap64 ((bt a0 0) / 16)) t421 t423 t425 t426 t427 t430 t431 t432)) else (subchannel_Decode.j0 k true (wrap64 ((bt a0 0) / 16)) t421 t423 t425 t426 t427 t430 t431 t432))) = some (r1, r2, r3, r4, r5, r6, r7, r8, r9, r10) := H
               have A17 := Aside0.mk A170
               clear A170
               replace H := Option.bind_eq_some_iff.mp H
               obtain ⟨⟨t435, t436⟩, A180, H⟩ := H
               replace H : (if t422 = true then (if t424 = true then (if t428 = 0 then (if t433 = 0 then (if t436 = 0 then (subchannel_Decode.j0 k (t435.toList != a0.toList) (wrap64 ((bt a0 0) / 16)) t421 t423 t425 t426 t427 t430 t431 t432) else (subchannel_Decode.j0 k true (wrap64 ((bt a0 0) / 16)) t421 t423 t425 t426 t427 t430 t431 t432)) else (subchannel_Decode.j0 k true (wrap64 ((bt a0 0) / 16)) t421 t423 t425 t426 t427 t430 t431 t432)) else (subchannel_Decode.j0 k true (wrap64 ((bt a0 0) / 16)) t421 t423 t425 t426 t427 t430 t431 t432)) else (subchannel_Decode.j0 k true (wrap64 ((bt a0 0) / 16)) t421 t423 t425 t426 t427 t430 t431 t432)) else (subchannel_Decode.j0 k true (wrap64 ((bt a0 0) / 16)) t421 t423 t425 t426 t427 t430 t431 t432)) = some (r1, r2, r3, r4, r5, r6, r7, r8, r9, r10) := H
               have A18 := Aside0.mk A180
               clear A180
               have HC19 := Aside0.mk H
               clear H
               go_enter Try.func23, Try.ntmps23
               try go_wp2_with (first | ((with_reducible refine gate_dst (N := 2) rfl ?_); refine box_event ?hg (N := 2) ?hd (cs := #[.int .i64 0, .int .i64 0, .int .i64 0, .int .i64 0, .int .i64 0, .int .i64 0, .int .i64 0, .int .i64 0, .int .i64 0]) (t := 27) ?hr ?_; (case hd => rfl); (case hg => rfl); (case hr => first | (go_simp; done) | (go_simp; rfl)); intro gb418 hg w20 hbox hb; have n0_ := Aside0.mk (below_step (by repeat (first | (with_reducible first | exact HB.out | apply below_alloc | apply pw_below_drewN | apply below_drew1) | exact HB.out)) hb); have n1_ := Aside0.mk (hbox); have n2_ := Aside0.mk ((by rw [hg]; exact (below_size (by repeat (first | (with_reducible first | exact HB.out | apply below_alloc | apply pw_below_drewN | apply below_drew1) | exact HB.out))) : w.heap.size ≤ gb418)); have n3_ := Aside0.mk ((by rw [hg]; exact (below_size (by repeat (first | (with_reducible first | exact HB.out | apply below_alloc | apply pw_below_drewN | apply below_drew1) | exact HB.out))) : w.heap.size ≤ gb418)); clear HB; have HB := n0_; have BK418 := n1_; have GW418 := n2_; have GE418 := n3_; clear n0_ n1_ n2_ n3_; clear hb hbox hg))
               have n0_ := Aside0.mk (blk_drew BK418.out)
               have n1_ := Aside0.mk (below_drew1 HB.out)
               clear BK418
               clear HB
               have BK418 := n0_
               have HB := n1_
               clear n0_ n1_
               refine start_ (n := 7) (S := fun w' => True) (ds := []) #[false, false, false, false, false, false, false] (by kernel_rfl) rfl rfl trivial (fun hHeld => ?_)
               generalize w20.drew = w21 at BK418 HB hHeld ⊢
               refine pure_ (i := 0) (N := some 19) (v := ?_) (a' := ?_) (mS 7 1) rfl rfl (by kernel_rfl) (fun _ _ _ h => h) (Or.inl ⟨by rfl, ?_⟩) ?_ ?_
               rotate_left
               · intro w'
                 go_simp
                 with_reducible rfl
               rotate_left
               · simp only [Act.put, List.setIfInBounds_toArray, List.set_cons_zero, List.set_cons_succ, i64_w, i32_w]
                 rfl
               refine pure_ (i := 1) (N := some 20) (v := ?_) (a' := ?_) (mS 7 3) rfl rfl (by kernel_rfl) (fun _ _ _ h => h) (Or.inl ⟨by rfl, ?_⟩) ?_ ?_
               rotate_left
               · intro w'
                 go_simp
                 with_reducible rfl
               rotate_left
               · simp only [Act.put, List.setIfInBounds_toArray, List.set_cons_zero, List.set_cons_succ, i64_w, i32_w]
                 rfl
               refine pure_ (i := 3) (N := some 22) (v := ?_) (a' := ?_) (mS 7 11) rfl rfl (by kernel_rfl) (fun _ _ _ h => h) (Or.inl ⟨by rfl, ?_⟩) ?_ ?_
               rotate_left
               · intro w'
                 go_simp
                 with_reducible rfl
               rotate_left
               · simp only [Act.put, List.setIfInBounds_toArray, List.set_cons_zero, List.set_cons_succ, i64_w, i32_w]
                 rfl
               refine pure_ (i := 4) (N := some 23) (v := ?_) (a' := ?_) (mS 7 27) rfl rfl (by kernel_rfl) (fun _ _ _ h => h) (Or.inl ⟨by rfl, ?_⟩) ?_ ?_
               rotate_left
               · intro w'
                 go_simp
                 with_reducible rfl
               rotate_left
               · simp only [Act.put, List.setIfInBounds_toArray, List.set_cons_zero, List.set_cons_succ, i64_w, i32_w]
                 rfl
               refine one_ (i := 2) (N := some 21) (mS 7 31) rfl rfl (by kernel_rfl) (by decide) (fun K hK => ?_)
               refine goes_ Try.func43 (by kernel_rfl) rfl #[.string (a0.extract 0 10)] (by rfl) rfl rfl (by (try simp only [List.map_toArray, List.map_cons, List.map_nil]); first | done | rfl | (simp only [List.length_drop, List.length_take]; rfl)) ?_
               with_reducible refine (subchannel_check.calls (a0.extract 0 10) t419 _ A5.out).mono ?_
               rintro e w22 ⟨rfl, hb⟩
               refine ⟨_, rfl, ?_⟩
               have n0_ := Aside0.mk (blk_below (g := gb418) (o := .cells #[.int .i64 0, .int .i64 0, .int .i64 0, .int .i64 0, .int .i64 0, .int .i64 0, .int .i64 0, .int .i64 0, .int .i64 0] 27 (0, 0)) (by (with_reducible repeat (first | refine blk_drewN ?_ _ | refine blk_drew ?_ | refine blk_alloc ?_ _)); exact BK418.out) hb)
               have n1_ := Aside0.mk (below_step (by repeat (first | (with_reducible first | exact HB.out | apply below_alloc | apply pw_below_drewN | apply below_drew1 | refine below_set ?_ GE418.out) | exact HB.out)) hb)
               clear BK418
               clear HB
               have BK418 := n0_
               have HB := n1_
               clear n0_ n1_
               (try clear hb)
               (try clear hb2)
               (try clear hk)
               (try clear hi)
               refine hK.out _ _ trivial (fun hHeld => ?_)
               clear hK K
               refine norm_ (a' := ?_) ?_ ?_
               rotate_left
               · show Act.put _ (some 21) _ = _
                 simp only [Act.put, List.setIfInBounds_toArray, List.set_cons_zero, List.set_cons_succ, i64_w, i32_w]
                 rfl
               refine pure_ (i := 5) (N := some 24) (v := ?_) (a' := ?_) (mS 7 63) rfl rfl (by kernel_rfl) (fun _ _ _ h => h) (Or.inl ⟨by rfl, ?_⟩) ?_ ?_
               rotate_left
               · intro w'
                 go_simp
                 with_reducible rfl
               rotate_left
               · simp only [Act.put, List.setIfInBounds_toArray, List.set_cons_zero, List.set_cons_succ, i64_w, i32_w]
                 rfl
               refine pure_ (i := 6) (N := some 18) (v := ?_) (a' := ?_) (mS 7 127) rfl rfl (by kernel_rfl) (fun _ _ _ h => h) (Or.inl ⟨by rfl, ?_⟩) ?_ ?_
               rotate_left
               · intro w'
                 go_simp
                 with_reducible rfl
               rotate_left
               · simp only [Act.put, List.setIfInBounds_toArray, List.set_cons_zero, List.set_cons_succ, i64_w, i32_w]
                 rfl
               refine done_ (by kernel_rfl) ?_
               have p9 : 0 ≤ (0 : Int) := (by omega)
               have q9 : 0 < a0.size := (by have : (0 : Int) < (a0.size : Int) := of_decide_eq_true (by first | (with_reducible assumption) | assumption); omega)
               have hx9 : ∀ h : 0 < a0.size, ((a0[0]'h).toNat : Int) = bt a0 0 := bt_at a0 0
               clear p9
               have qi9 : (0 < (a0.size : Int)) = True := eq_true (of_decide_eq_true (by first | (with_reducible assumption) | assumption))
               replace q9 := eq_true q9
               try go_wp2_with (first | ((with_reducible refine gate_dst (N := 4) rfl ?_); refine box_event ?hg (N := 4) ?hd (cs := #[.int .i64 0, .int .i64 0, .int .i64 0, .int .i64 0, .int .i64 0, .int .i64 0, .int .i64 0, .int .i64 0, .int .i64 0]) (t := 27) ?hr ?_; (case hd => rfl); (case hg => rfl); (case hr => first | (go_simp; done) | (go_simp; rfl)); intro gb420 hg w23 hbox hb; have n0_ := Aside0.mk (blk_below (g := gb418) (o := .cells #[.int .i64 0, .int .i64 0, .int .i64 0, .int .i64 0, .int .i64 0, .int .i64 0, .int .i64 0, .int .i64 0, .int .i64 0] 27 (0, 0)) (by (with_reducible repeat (first | refine blk_drewN ?_ _ | refine blk_drew ?_ | refine blk_alloc ?_ _)); exact BK418.out) hb); have n1_ := Aside0.mk (below_step (by repeat (first | (with_reducible first | exact HB.out | apply below_alloc | apply pw_below_drewN | apply below_drew1 | refine below_set ?_ GE418.out) | exact HB.out)) hb); have n2_ := Aside0.mk (hbox); have n3_ := Aside0.mk ((by rw [hg]; exact (below_size (by repeat (first | (with_reducible first | exact HB.out | apply below_alloc | apply pw_below_drewN | apply below_drew1 | refine below_set ?_ GE418.out) | exact HB.out))) : w.heap.size ≤ gb420)); have n4_ := Aside0.mk ((by rw [hg]; exact (below_size (by repeat (first | (with_reducible first | exact HB.out | apply below_alloc | apply pw_below_drewN | apply below_drew1 | refine below_set ?_ GE418.out) | exact HB.out))) : w.heap.size ≤ gb420)); have n5_ := Aside0.mk ((by rw [hg]; exact Nat.ne_of_lt (blk_lt (g := gb418) (o := .cells #[.int .i64 0, .int .i64 0, .int .i64 0, .int .i64 0, .int .i64 0, .int .i64 0, .int .i64 0, .int .i64 0, .int .i64 0] 27 (0, 0)) (by (with_reducible repeat (first | refine blk_drewN ?_ _ | refine blk_drew ?_ | refine blk_alloc ?_ _)); exact BK418.out)) : gb418 ≠ gb420)); have n6_ := Aside0.mk ((by rw [hg]; exact Nat.ne_of_gt (blk_lt (g := gb418) (o := .cells #[.int .i64 0, .int .i64 0, .int .i64 0, .int .i64 0, .int .i64 0, .int .i64 0, .int .i64 0, .int .i64 0, .int .i64 0] 27 (0, 0)) (by (with_reducible repeat (first | refine blk_drewN ?_ _ | refine blk_drew ?_ | refine blk_alloc ?_ _)); exact BK418.out)) : gb420 ≠ gb418)); clear BK418; clear HB; have BK418 := n0_; have HB := n1_; have BK420 := n2_; have GW420 := n3_; have GE420 := n4_; have NB418_420 := n5_; have NB420_418 := n6_; clear n0_ n1_ n2_ n3_ n4_ n5_ n6_; clear hb hbox hg; have hnb24 := NB420_418.out; have hnc24 := NB418_420.out; have hcz25_0 : w23.cell? ⟨gb420, 0, none⟩ = some (.int .i64 0) := (blk_cell BK420.out 0).trans rfl; have hcz25_1 : w23.cell? ⟨gb420, 1, none⟩ = some (.int .i64 0) := (blk_cell BK420.out 1).trans rfl; have hcz25_2 : w23.cell? ⟨gb420, 2, none⟩ = some (.int .i64 0) := (blk_cell BK420.out 2).trans rfl; have hcz25_3 : w23.cell? ⟨gb420, 3, none⟩ = some (.int .i64 0) := (blk_cell BK420.out 3).trans rfl; have hcz25_4 : w23.cell? ⟨gb420, 4, none⟩ = some (.int .i64 0) := (blk_cell BK420.out 4).trans rfl; have hcz25_5 : w23.cell? ⟨gb420, 5, none⟩ = some (.int .i64 0) := (blk_cell BK420.out 5).trans rfl; have hcz25_6 : w23.cell? ⟨gb420, 6, none⟩ = some (.int .i64 0) := (blk_cell BK420.out 6).trans rfl; have hcz25_7 : w23.cell? ⟨gb420, 7, none⟩ = some (.int .i64 0) := (blk_cell BK420.out 7).trans rfl; have hcz25_8 : w23.cell? ⟨gb420, 8, none⟩ = some (.int .i64 0) := (blk_cell BK420.out 8).trans rfl; have hfz25_0 := blk_frozen BK420.out 0; have hfz25_1 := blk_frozen BK420.out 1; have hfz25_2 := blk_frozen BK420.out 2; have hfz25_3 := blk_frozen BK420.out 3; have hfz25_4 := blk_frozen BK420.out 4; have hfz25_5 := blk_frozen BK420.out 5; have hfz25_6 := blk_frozen BK420.out 6; have hfz25_7 := blk_frozen BK420.out 7; have hfz25_8 := blk_frozen BK420.out 8; have p11 : 0 ≤ (1 : Int) := (by omega); have q11 : 1 < a0.size := (by have : (1 : Int) < (a0.size : Int) := of_decide_eq_true (by first | (with_reducible assumption) | assumption); omega); have hx11 : ∀ h : 1 < a0.size, ((a0[1]'h).toNat : Int) = bt a0 1 := bt_at a0 1; clear p11; have qi11 : (1 < (a0.size : Int)) = True := eq_true (of_decide_eq_true (by first | (with_reducible assumption) | assumption)); replace q11 := eq_true q11) | ((with_reducible refine gate_callee (f := 50) rfl ?_); refine goesL_ (some 34) rfl rfl Try.func50 (by kernel_rfl) rfl #[.int .u8 (bt a0 1)] rfl (by (try simp only [List.map_toArray, List.map_cons, List.map_nil]); first | done | rfl | (simp only [List.length_drop, List.length_take]; rfl)) ?_; (with_reducible refine (subchannel_unnumber.calls (bt a0 1) t421 t422 _ A12.out).mono ?_); rintro e w26 ⟨rfl, hb⟩; refine ⟨_, rfl, ?_⟩; have n0_ := Aside0.mk (blk_below (g := gb418) (o := .cells #[.int .i64 0, .int .i64 0, .int .i64 0, .int .i64 0, .int .i64 0, .int .i64 0, .int .i64 0, .int .i64 0, .int .i64 0] 27 (0, 0)) (by (with_reducible repeat (first | refine blk_drewN ?_ _ | refine blk_drew ?_ | refine blk_alloc ?_ _)); refine blk_far ?_ NB418_420.out _; (with_reducible repeat (first | refine blk_drewN ?_ _ | refine blk_drew ?_ | refine blk_alloc ?_ _)); refine blk_far ?_ NB418_420.out _; (with_reducible repeat (first | refine blk_drewN ?_ _ | refine blk_drew ?_ | refine blk_alloc ?_ _)); refine blk_far ?_ NB418_420.out _; (with_reducible repeat (first | refine blk_drewN ?_ _ | refine blk_drew ?_ | refine blk_alloc ?_ _)); refine blk_far ?_ NB418_420.out _; (with_reducible repeat (first | refine blk_drewN ?_ _ | refine blk_drew ?_ | refine blk_alloc ?_ _)); refine blk_far ?_ NB418_420.out _; (with_reducible repeat (first | refine blk_drewN ?_ _ | refine blk_drew ?_ | refine blk_alloc ?_ _)); refine blk_far ?_ NB418_420.out _; (with_reducible repeat (first | refine blk_drewN ?_ _ | refine blk_drew ?_ | refine blk_alloc ?_ _)); refine blk_far ?_ NB418_420.out _; (with_reducible repeat (first | refine blk_drewN ?_ _ | refine blk_drew ?_ | refine blk_alloc ?_ _)); refine blk_far ?_ NB418_420.out _; (with_reducible repeat (first | refine blk_drewN ?_ _ | refine blk_drew ?_ | refine blk_alloc ?_ _)); refine blk_far ?_ NB418_420.out _; (with_reducible repeat (first | refine blk_drewN ?_ _ | refine blk_drew ?_ | refine blk_alloc ?_ _)); exact BK418.out) hb); have n1_ := Aside0.mk (blk_below (g := gb420) (o := .cells #[.int .i64 (wrap64 ((bt a0 0) / 16)), .int .i64 0, .int .i64 0, .int .i64 0, .int .i64 0, .int .i64 0, .int .i64 0, .int .i64 0, .int .i64 0] 27 (0, 0)) (by (with_reducible repeat (first | refine blk_drewN ?_ _ | refine blk_drew ?_ | refine blk_alloc ?_ _)); refine blk_put (cs := #[.int .i64 (wrap64 ((bt a0 0) / 16)), .int .i64 0, .int .i64 0, .int .i64 0, .int .i64 0, .int .i64 0, .int .i64 0, .int .i64 0, .int .i64 0]) ?_ 8 _ rfl; (with_reducible repeat (first | refine blk_drewN ?_ _ | refine blk_drew ?_ | refine blk_alloc ?_ _)); refine blk_put (cs := #[.int .i64 (wrap64 ((bt a0 0) / 16)), .int .i64 0, .int .i64 0, .int .i64 0, .int .i64 0, .int .i64 0, .int .i64 0, .int .i64 0, .int .i64 0]) ?_ 7 _ rfl; (with_reducible repeat (first | refine blk_drewN ?_ _ | refine blk_drew ?_ | refine blk_alloc ?_ _)); refine blk_put (cs := #[.int .i64 (wrap64 ((bt a0 0) / 16)), .int .i64 0, .int .i64 0, .int .i64 0, .int .i64 0, .int .i64 0, .int .i64 0, .int .i64 0, .int .i64 0]) ?_ 6 _ rfl; (with_reducible repeat (first | refine blk_drewN ?_ _ | refine blk_drew ?_ | refine blk_alloc ?_ _)); refine blk_put (cs := #[.int .i64 (wrap64 ((bt a0 0) / 16)), .int .i64 0, .int .i64 0, .int .i64 0, .int .i64 0, .int .i64 0, .int .i64 0, .int .i64 0, .int .i64 0]) ?_ 5 _ rfl; (with_reducible repeat (first | refine blk_drewN ?_ _ | refine blk_drew ?_ | refine blk_alloc ?_ _)); refine blk_put (cs := #[.int .i64 (wrap64 ((bt a0 0) / 16)), .int .i64 0, .int .i64 0, .int .i64 0, .int .i64 0, .int .i64 0, .int .i64 0, .int .i64 0, .int .i64 0]) ?_ 4 _ rfl; (with_reducible repeat (first | refine blk_drewN ?_ _ | refine blk_drew ?_ | refine blk_alloc ?_ _)); refine blk_put (cs := #[.int .i64 (wrap64 ((bt a0 0) / 16)), .int .i64 0, .int .i64 0, .int .i64 0, .int .i64 0, .int .i64 0, .int .i64 0, .int .i64 0, .int .i64 0]) ?_ 3 _ rfl; (with_reducible repeat (first | refine blk_drewN ?_ _ | refine blk_drew ?_ | refine blk_alloc ?_ _)); refine blk_put (cs := #[.int .i64 (wrap64 ((bt a0 0) / 16)), .int .i64 0, .int .i64 0, .int .i64 0, .int .i64 0, .int .i64 0, .int .i64 0, .int .i64 0, .int .i64 0]) ?_ 2 _ rfl; (with_reducible repeat (first | refine blk_drewN ?_ _ | refine blk_drew ?_ | refine blk_alloc ?_ _)); refine blk_put (cs := #[.int .i64 (wrap64 ((bt a0 0) / 16)), .int .i64 0, .int .i64 0, .int .i64 0, .int .i64 0, .int .i64 0, .int .i64 0, .int .i64 0, .int .i64 0]) ?_ 1 _ rfl; (with_reducible repeat (first | refine blk_drewN ?_ _ | refine blk_drew ?_ | refine blk_alloc ?_ _)); refine blk_put (cs := #[.int .i64 0, .int .i64 0, .int .i64 0, .int .i64 0, .int .i64 0, .int .i64 0, .int .i64 0, .int .i64 0, .int .i64 0]) ?_ 0 _ rfl; (with_reducible repeat (first | refine blk_drewN ?_ _ | refine blk_drew ?_ | refine blk_alloc ?_ _)); exact BK420.out) hb); have n2_ := Aside0.mk (below_step (by repeat (first | (with_reducible first | exact HB.out | apply below_alloc | apply pw_below_drewN | apply below_drew1 | refine below_set ?_ GE418.out | refine below_set ?_ GE420.out) | exact HB.out)) hb); clear BK418; clear BK420; clear HB; have BK418 := n0_; have BK420 := n1_; have HB := n2_; clear n0_ n1_ n2_; (try clear hb); (try clear hb2); (try clear hk); (try clear hi); have hcz27_0 : w26.cell? ⟨gb420, 0, none⟩ = some (.int .i64 (wrap64 ((bt a0 0) / 16))) := (blk_cell BK420.out 0).trans rfl; have hcz27_1 : w26.cell? ⟨gb420, 1, none⟩ = some (.int .i64 0) := (blk_cell BK420.out 1).trans rfl; have hcz27_2 : w26.cell? ⟨gb420, 2, none⟩ = some (.int .i64 0) := (blk_cell BK420.out 2).trans rfl; have hcz27_3 : w26.cell? ⟨gb420, 3, none⟩ = some (.int .i64 0) := (blk_cell BK420.out 3).trans rfl; have hcz27_4 : w26.cell? ⟨gb420, 4, none⟩ = some (.int .i64 0) := (blk_cell BK420.out 4).trans rfl; have hcz27_5 : w26.cell? ⟨gb420, 5, none⟩ = some (.int .i64 0) := (blk_cell BK420.out 5).trans rfl; have hcz27_6 : w26.cell? ⟨gb420, 6, none⟩ = some (.int .i64 0) := (blk_cell BK420.out 6).trans rfl; have hcz27_7 : w26.cell? ⟨gb420, 7, none⟩ = some (.int .i64 0) := (blk_cell BK420.out 7).trans rfl; have hcz27_8 : w26.cell? ⟨gb420, 8, none⟩ = some (.int .i64 0) := (blk_cell BK420.out 8).trans rfl; have hfz27_0 := blk_frozen BK420.out 0; have hfz27_1 := blk_frozen BK420.out 1; have hfz27_2 := blk_frozen BK420.out 2; have hfz27_3 := blk_frozen BK420.out 3; have hfz27_4 := blk_frozen BK420.out 4; have hfz27_5 := blk_frozen BK420.out 5; have hfz27_6 := blk_frozen BK420.out 6; have hfz27_7 := blk_frozen BK420.out 7; have hfz27_8 := blk_frozen BK420.out 8; have p14 : 0 ≤ (2 : Int) := (by omega); have q14 : 2 < a0.size := (by have : (2 : Int) < (a0.size : Int) := of_decide_eq_true (by first | (with_reducible assumption) | assumption); omega); have hx14 : ∀ h : 2 < a0.size, ((a0[2]'h).toNat : Int) = bt a0 2 := bt_at a0 2; clear p14; have qi14 : (2 < (a0.size : Int)) = True := eq_true (of_decide_eq_true (by first | (with_reducible assumption) | assumption)); replace q14 := eq_true q14) | ((with_reducible refine gate_callee (f := 50) rfl ?_); refine goesL_ (some 41) rfl rfl Try.func50 (by kernel_rfl) rfl #[.int .u8 (bt a0 2)] rfl (by (try simp only [List.map_toArray, List.map_cons, List.map_nil]); first | done | rfl | (simp only [List.length_drop, List.length_take]; rfl)) ?_; (with_reducible refine (subchannel_unnumber.calls (bt a0 2) t423 t424 _ A15.out).mono ?_); rintro e w28 ⟨rfl, hb⟩; refine ⟨_, rfl, ?_⟩; have n0_ := Aside0.mk (blk_below (g := gb418) (o := .cells #[.int .i64 0, .int .i64 0, .int .i64 0, .int .i64 0, .int .i64 0, .int .i64 0, .int .i64 0, .int .i64 0, .int .i64 0] 27 (0, 0)) (by (with_reducible repeat (first | refine blk_drewN ?_ _ | refine blk_drew ?_ | refine blk_alloc ?_ _)); refine blk_far ?_ NB418_420.out _; (with_reducible repeat (first | refine blk_drewN ?_ _ | refine blk_drew ?_ | refine blk_alloc ?_ _)); exact BK418.out) hb); have n1_ := Aside0.mk (blk_below (g := gb420) (o := .cells #[.int .i64 (wrap64 ((bt a0 0) / 16)), .int .i64 t421, .int .i64 0, .int .i64 0, .int .i64 0, .int .i64 0, .int .i64 0, .int .i64 0, .int .i64 0] 27 (0, 0)) (by (with_reducible repeat (first | refine blk_drewN ?_ _ | refine blk_drew ?_ | refine blk_alloc ?_ _)); refine blk_put (cs := #[.int .i64 (wrap64 ((bt a0 0) / 16)), .int .i64 0, .int .i64 0, .int .i64 0, .int .i64 0, .int .i64 0, .int .i64 0, .int .i64 0, .int .i64 0]) ?_ 1 _ rfl; (with_reducible repeat (first | refine blk_drewN ?_ _ | refine blk_drew ?_ | refine blk_alloc ?_ _)); exact BK420.out) hb); have n2_ := Aside0.mk (below_step (by repeat (first | (with_reducible first | exact HB.out | apply below_alloc | apply pw_below_drewN | apply below_drew1 | refine below_set ?_ GE418.out | refine below_set ?_ GE420.out) | exact HB.out)) hb); clear BK418; clear BK420; clear HB; have BK418 := n0_; have BK420 := n1_; have HB := n2_; clear n0_ n1_ n2_; (try clear hb); (try clear hb2); (try clear hk); (try clear hi); have hcz29_0 : w28.cell? ⟨gb420, 0, none⟩ = some (.int .i64 (wrap64 ((bt a0 0) / 16))) := (blk_cell BK420.out 0).trans rfl; have hcz29_1 : w28.cell? ⟨gb420, 1, none⟩ = some (.int .i64 t421) := (blk_cell BK420.out 1).trans rfl; have hcz29_2 : w28.cell? ⟨gb420, 2, none⟩ = some (.int .i64 0) := (blk_cell BK420.out 2).trans rfl; have hcz29_3 : w28.cell? ⟨gb420, 3, none⟩ = some (.int .i64 0) := (blk_cell BK420.out 3).trans rfl; have hcz29_4 : w28.cell? ⟨gb420, 4, none⟩ = some (.int .i64 0) := (blk_cell BK420.out 4).trans rfl; have hcz29_5 : w28.cell? ⟨gb420, 5, none⟩ = some (.int .i64 0) := (blk_cell BK420.out 5).trans rfl; have hcz29_6 : w28.cell? ⟨gb420, 6, none⟩ = some (.int .i64 0) := (blk_cell BK420.out 6).trans rfl; have hcz29_7 : w28.cell? ⟨gb420, 7, none⟩ = some (.int .i64 0) := (blk_cell BK420.out 7).trans rfl; have hcz29_8 : w28.cell? ⟨gb420, 8, none⟩ = some (.int .i64 0) := (blk_cell BK420.out 8).trans rfl; have hfz29_0 := blk_frozen BK420.out 0; have hfz29_1 := blk_frozen BK420.out 1; have hfz29_2 := blk_frozen BK420.out 2; have hfz29_3 := blk_frozen BK420.out 3; have hfz29_4 := blk_frozen BK420.out 4; have hfz29_5 := blk_frozen BK420.out 5; have hfz29_6 := blk_frozen BK420.out 6; have hfz29_7 := blk_frozen BK420.out 7; have hfz29_8 := blk_frozen BK420.out 8) | ((with_reducible refine gate_callee (f := 51) rfl ?_); refine goesL_ (some 47) rfl rfl Try.func51 (by kernel_rfl) rfl #[.string a0, .int .i64 3] rfl (by (try simp only [List.map_toArray, List.map_cons, List.map_nil]); first | done | rfl | (simp only [List.length_drop, List.length_take]; rfl)) ?_; (with_reducible refine (address_Decode.calls a0 3 t425 t426 t427 t428 _ A16.out).mono ?_); rintro e w30 ⟨rfl, hb⟩; refine ⟨_, rfl, ?_⟩; have n0_ := Aside0.mk (blk_below (g := gb418) (o := .cells #[.int .i64 0, .int .i64 0, .int .i64 0, .int .i64 0, .int .i64 0, .int .i64 0, .int .i64 0, .int .i64 0, .int .i64 0] 27 (0, 0)) (by (with_reducible repeat (first | refine blk_drewN ?_ _ | refine blk_drew ?_ | refine blk_alloc ?_ _)); refine blk_far ?_ NB418_420.out _; (with_reducible repeat (first | refine blk_drewN ?_ _ | refine blk_drew ?_ | refine blk_alloc ?_ _)); exact BK418.out) hb); have n1_ := Aside0.mk (blk_below (g := gb420) (o := .cells #[.int .i64 (wrap64 ((bt a0 0) / 16)), .int .i64 t421, .int .i64 t423, .int .i64 0, .int .i64 0, .int .i64 0, .int .i64 0, .int .i64 0, .int .i64 0] 27 (0, 0)) (by (with_reducible repeat (first | refine blk_drewN ?_ _ | refine blk_drew ?_ | refine blk_alloc ?_ _)); refine blk_put (cs := #[.int .i64 (wrap64 ((bt a0 0) / 16)), .int .i64 t421, .int .i64 0, .int .i64 0, .int .i64 0, .int .i64 0, .int .i64 0, .int .i64 0, .int .i64 0]) ?_ 2 _ rfl; (with_reducible repeat (first | refine blk_drewN ?_ _ | refine blk_drew ?_ | refine blk_alloc ?_ _)); exact BK420.out) hb); have n2_ := Aside0.mk (below_step (by repeat (first | (with_reducible first | exact HB.out | apply below_alloc | apply pw_below_drewN | apply below_drew1 | refine below_set ?_ GE418.out | refine below_set ?_ GE420.out) | exact HB.out)) hb); clear BK418; clear BK420; clear HB; have BK418 := n0_; have BK420 := n1_; have HB := n2_; clear n0_ n1_ n2_; (try clear hb); (try clear hb2); (try clear hk); (try clear hi)) | ((with_reducible refine gate_dst (N := 7) rfl ?_); refine box_event ?hg (N := 7) ?hd (cs := #[.int .i64 0, .int .i64 0, .int .i64 0]) (t := 25) ?hr ?_; (case hd => rfl); (case hg => rfl); (case hr => first | (go_simp; done) | (go_simp; rfl)); intro gb429 hg w31 hbox hb; have n0_ := Aside0.mk (blk_below (g := gb418) (o := .cells #[.int .i64 0, .int .i64 0, .int .i64 0, .int .i64 0, .int .i64 0, .int .i64 0, .int .i64 0, .int .i64 0, .int .i64 0] 27 (0, 0)) (by (with_reducible repeat (first | refine blk_drewN ?_ _ | refine blk_drew ?_ | refine blk_alloc ?_ _)); exact BK418.out) hb); have n1_ := Aside0.mk (blk_below (g := gb420) (o := .cells #[.int .i64 (wrap64 ((bt a0 0) / 16)), .int .i64 t421, .int .i64 t423, .int .i64 0, .int .i64 0, .int .i64 0, .int .i64 0, .int .i64 0, .int .i64 0] 27 (0, 0)) (by (with_reducible repeat (first | refine blk_drewN ?_ _ | refine blk_drew ?_ | refine blk_alloc ?_ _)); exact BK420.out) hb); have n2_ := Aside0.mk (below_step (by repeat (first | (with_reducible first | exact HB.out | apply below_alloc | apply pw_below_drewN | apply below_drew1 | refine below_set ?_ GE418.out | refine below_set ?_ GE420.out) | exact HB.out)) hb); have n3_ := Aside0.mk (hbox); have n4_ := Aside0.mk ((by rw [hg]; exact (below_size (by repeat (first | (with_reducible first | exact HB.out | apply below_alloc | apply pw_below_drewN | apply below_drew1 | refine below_set ?_ GE418.out | refine below_set ?_ GE420.out) | exact HB.out))) : w.heap.size ≤ gb429)); have n5_ := Aside0.mk ((by rw [hg]; exact (below_size (by repeat (first | (with_reducible first | exact HB.out | apply below_alloc | apply pw_below_drewN | apply below_drew1 | refine below_set ?_ GE418.out | refine below_set ?_ GE420.out) | exact HB.out))) : w.heap.size ≤ gb429)); have n6_ := Aside0.mk ((by rw [hg]; exact Nat.ne_of_lt (blk_lt (g := gb418) (o := .cells #[.int .i64 0, .int .i64 0, .int .i64 0, .int .i64 0, .int .i64 0, .int .i64 0, .int .i64 0, .int .i64 0, .int .i64 0] 27 (0, 0)) (by (with_reducible repeat (first | refine blk_drewN ?_ _ | refine blk_drew ?_ | refine blk_alloc ?_ _)); exact BK418.out)) : gb418 ≠ gb429)); have n7_ := Aside0.mk ((by rw [hg]; exact Nat.ne_of_gt (blk_lt (g := gb418) (o := .cells #[.int .i64 0, .int .i64 0, .int .i64 0, .int .i64 0, .int .i64 0, .int .i64 0, .int .i64 0, .int .i64 0, .int .i64 0] 27 (0, 0)) (by (with_reducible repeat (first | refine blk_drewN ?_ _ | refine blk_drew ?_ | refine blk_alloc ?_ _)); exact BK418.out)) : gb429 ≠ gb418)); have n8_ := Aside0.mk ((by rw [hg]; exact Nat.ne_of_lt (blk_lt (g := gb420) (o := .cells #[.int .i64 (wrap64 ((bt a0 0) / 16)), .int .i64 t421, .int .i64 t423, .int .i64 0, .int .i64 0, .int .i64 0, .int .i64 0, .int .i64 0, .int .i64 0] 27 (0, 0)) (by (with_reducible repeat (first | refine blk_drewN ?_ _ | refine blk_drew ?_ | refine blk_alloc ?_ _)); exact BK420.out)) : gb420 ≠ gb429)); have n9_ := Aside0.mk ((by rw [hg]; exact Nat.ne_of_gt (blk_lt (g := gb420) (o := .cells #[.int .i64 (wrap64 ((bt a0 0) / 16)), .int .i64 t421, .int .i64 t423, .int .i64 0, .int .i64 0, .int .i64 0, .int .i64 0, .int .i64 0, .int .i64 0] 27 (0, 0)) (by (with_reducible repeat (first | refine blk_drewN ?_ _ | refine blk_drew ?_ | refine blk_alloc ?_ _)); exact BK420.out)) : gb429 ≠ gb420)); clear BK418; clear BK420; clear HB; have BK418 := n0_; have BK420 := n1_; have HB := n2_; have BK429 := n3_; have GW429 := n4_; have GE429 := n5_; have NB418_429 := n6_; have NB429_418 := n7_; have NB420_429 := n8_; have NB429_420 := n9_; clear n0_ n1_ n2_ n3_ n4_ n5_ n6_ n7_ n8_ n9_; clear hb hbox hg; have hnb32 := NB429_418.out; have hnc32 := NB418_429.out; have hnb33 := NB429_420.out; have hnc33 := NB420_429.out; obtain ⟨hcz34_0, hcz34_1, hcz34_2⟩ := cel3 BK429.out; obtain ⟨hfz34_0, hfz34_1, hfz34_2⟩ := frz3 BK429.out) | ((with_reducible refine gate_callee (f := 51) rfl ?_); refine goesL_ (some 52) rfl rfl Try.func51 (by kernel_rfl) rfl #[.string a0, .int .i64 7] rfl (by (try simp only [List.map_toArray, List.map_cons, List.map_nil]); first | done | rfl | (simp only [List.length_drop, List.length_take]; rfl)) ?_; (with_reducible refine (address_Decode.calls a0 7 t430 t431 t432 t433 _ A17.out).mono ?_); rintro e w35 ⟨rfl, hb⟩; refine ⟨_, rfl, ?_⟩; have n0_ := Aside0.mk (blk_below (g := gb418) (o := .cells #[.int .i64 0, .int .i64 0, .int .i64 0, .int .i64 0, .int .i64 0, .int .i64 0, .int .i64 0, .int .i64 0, .int .i64 0] 27 (0, 0)) (by (with_reducible repeat (first | refine blk_drewN ?_ _ | refine blk_drew ?_ | refine blk_alloc ?_ _)); refine blk_far ?_ NB418_429.out _; (with_reducible repeat (first | refine blk_drewN ?_ _ | refine blk_drew ?_ | refine blk_alloc ?_ _)); refine blk_far ?_ NB418_429.out _; (with_reducible repeat (first | refine blk_drewN ?_ _ | refine blk_drew ?_ | refine blk_alloc ?_ _)); refine blk_far ?_ NB418_429.out _; (with_reducible repeat (first | refine blk_drewN ?_ _ | refine blk_drew ?_ | refine blk_alloc ?_ _)); exact BK418.out) hb); have n1_ := Aside0.mk (blk_below (g := gb420) (o := .cells #[.int .i64 (wrap64 ((bt a0 0) / 16)), .int .i64 t421, .int .i64 t423, .int .i64 0, .int .i64 0, .int .i64 0, .int .i64 0, .int .i64 0, .int .i64 0] 27 (0, 0)) (by (with_reducible repeat (first | refine blk_drewN ?_ _ | refine blk_drew ?_ | refine blk_alloc ?_ _)); refine blk_far ?_ NB420_429.out _; (with_reducible repeat (first | refine blk_drewN ?_ _ | refine blk_drew ?_ | refine blk_alloc ?_ _)); refine blk_far ?_ NB420_429.out _; (with_reducible repeat (first | refine blk_drewN ?_ _ | refine blk_drew ?_ | refine blk_alloc ?_ _)); refine blk_far ?_ NB420_429.out _; (with_reducible repeat (first | refine blk_drewN ?_ _ | refine blk_drew ?_ | refine blk_alloc ?_ _)); exact BK420.out) hb); have n2_ := Aside0.mk (blk_below (g := gb429) (o := .cells #[.int .i64 t425, .int .i64 t426, .int .i64 t427] 25 (0, 0)) (by (with_reducible repeat (first | refine blk_drewN ?_ _ | refine blk_drew ?_ | refine blk_alloc ?_ _)); refine blk_put (cs := #[.int .i64 t425, .int .i64 t426, .int .i64 0]) ?_ 2 _ rfl; (with_reducible repeat (first | refine blk_drewN ?_ _ | refine blk_drew ?_ | refine blk_alloc ?_ _)); refine blk_put (cs := #[.int .i64 t425, .int .i64 0, .int .i64 0]) ?_ 1 _ rfl; (with_reducible repeat (first | refine blk_drewN ?_ _ | refine blk_drew ?_ | refine blk_alloc ?_ _)); refine blk_put (cs := #[.int .i64 0, .int .i64 0, .int .i64 0]) ?_ 0 _ rfl; (with_reducible repeat (first | refine blk_drewN ?_ _ | refine blk_drew ?_ | refine blk_alloc ?_ _)); exact BK429.out) hb); have n3_ := Aside0.mk (below_step (by repeat (first | (with_reducible first | exact HB.out | apply below_alloc | apply pw_below_drewN | apply below_drew1 | refine below_set ?_ GE418.out | refine below_set ?_ GE420.out | refine below_set ?_ GE429.out) | exact HB.out)) hb); clear BK418; clear BK420; clear BK429; clear HB; have BK418 := n0_; have BK420 := n1_; have BK429 := n2_; have HB := n3_; clear n0_ n1_ n2_ n3_; (try clear hb); (try clear hb2); (try clear hk); (try clear hi)) | ((with_reducible refine gate_dst (N := 9) rfl ?_); refine box_event ?hg (N := 9) ?hd (cs := #[.int .i64 0, .int .i64 0, .int .i64 0]) (t := 25) ?hr ?_; (case hd => rfl); (case hg => rfl); (case hr => first | (go_simp; done) | (go_simp; rfl)); intro gb434 hg w36 hbox hb; have n0_ := Aside0.mk (blk_below (g := gb418) (o := .cells #[.int .i64 0, .int .i64 0, .int .i64 0, .int .i64 0, .int .i64 0, .int .i64 0, .int .i64 0, .int .i64 0, .int .i64 0] 27 (0, 0)) (by (with_reducible repeat (first | refine blk_drewN ?_ _ | refine blk_drew ?_ | refine blk_alloc ?_ _)); exact BK418.out) hb); have n1_ := Aside0.mk (blk_below (g := gb420) (o := .cells #[.int .i64 (wrap64 ((bt a0 0) / 16)), .int .i64 t421, .int .i64 t423, .int .i64 0, .int .i64 0, .int .i64 0, .int .i64 0, .int .i64 0, .int .i64 0] 27 (0, 0)) (by (with_reducible repeat (first | refine blk_drewN ?_ _ | refine blk_drew ?_ | refine blk_alloc ?_ _)); exact BK420.out) hb); have n2_ := Aside0.mk (blk_below (g := gb429) (o := .cells #[.int .i64 t425, .int .i64 t426, .int .i64 t427] 25 (0, 0)) (by (with_reducible repeat (first | refine blk_drewN ?_ _ | refine blk_drew ?_ | refine blk_alloc ?_ _)); exact BK429.out) hb); have n3_ := Aside0.mk (below_step (by repeat (first | (with_reducible first | exact HB.out | apply below_alloc | apply pw_below_drewN | apply below_drew1 | refine below_set ?_ GE418.out | refine below_set ?_ GE420.out | refine below_set ?_ GE429.out) | exact HB.out)) hb); have n4_ := Aside0.mk (hbox); have n5_ := Aside0.mk ((by rw [hg]; exact (below_size (by repeat (first | (with_reducible first | exact HB.out | apply below_alloc | apply pw_below_drewN | apply below_drew1 | refine below_set ?_ GE418.out | refine below_set ?_ GE420.out | refine below_set ?_ GE429.out) | exact HB.out))) : w.heap.size ≤ gb434)); have n6_ := Aside0.mk ((by rw [hg]; exact (below_size (by repeat (first | (with_reducible first | exact HB.out | apply below_alloc | apply pw_below_drewN | apply below_drew1 | refine below_set ?_ GE418.out | refine below_set ?_ GE420.out | refine below_set ?_ GE429.out) | exact HB.out))) : w.heap.size ≤ gb434)); have n7_ := Aside0.mk ((by rw [hg]; exact Nat.ne_of_lt (blk_lt (g := gb418) (o := .cells #[.int .i64 0, .int .i64 0, .int .i64 0, .int .i64 0, .int .i64 0, .int .i64 0, .int .i64 0, .int .i64 0, .int .i64 0] 27 (0, 0)) (by (with_reducible repeat (first | refine blk_drewN ?_ _ | refine blk_drew ?_ | refine blk_alloc ?_ _)); exact BK418.out)) : gb418 ≠ gb434)); have n8_ := Aside0.mk ((by rw [hg]; exact Nat.ne_of_gt (blk_lt (g := gb418) (o := .cells #[.int .i64 0, .int .i64 0, .int .i64 0, .int .i64 0, .int .i64 0, .int .i64 0, .int .i64 0, .int .i64 0, .int .i64 0] 27 (0, 0)) (by (with_reducible repeat (first | refine blk_drewN ?_ _ | refine blk_drew ?_ | refine blk_alloc ?_ _)); exact BK418.out)) : gb434 ≠ gb418)); have n9_ := Aside0.mk ((by rw [hg]; exact Nat.ne_of_lt (blk_lt (g := gb420) (o := .cells #[.int .i64 (wrap64 ((bt a0 0) / 16)), .int .i64 t421, .int .i64 t423, .int .i64 0, .int .i64 0, .int .i64 0, .int .i64 0, .int .i64 0, .int .i64 0] 27 (0, 0)) (by (with_reducible repeat (first | refine blk_drewN ?_ _ | refine blk_drew ?_ | refine blk_alloc ?_ _)); exact BK420.out)) : gb420 ≠ gb434)); have n10_ := Aside0.mk ((by rw [hg]; exact Nat.ne_of_gt (blk_lt (g := gb420) (o := .cells #[.int .i64 (wrap64 ((bt a0 0) / 16)), .int .i64 t421, .int .i64 t423, .int .i64 0, .int .i64 0, .int .i64 0, .int .i64 0, .int .i64 0, .int .i64 0] 27 (0, 0)) (by (with_reducible repeat (first | refine blk_drewN ?_ _ | refine blk_drew ?_ | refine blk_alloc ?_ _)); exact BK420.out)) : gb434 ≠ gb420)); have n11_ := Aside0.mk ((by rw [hg]; exact Nat.ne_of_lt (blk_lt (g := gb429) (o := .cells #[.int .i64 t425, .int .i64 t426, .int .i64 t427] 25 (0, 0)) (by (with_reducible repeat (first | refine blk_drewN ?_ _ | refine blk_drew ?_ | refine blk_alloc ?_ _)); exact BK429.out)) : gb429 ≠ gb434)); have n12_ := Aside0.mk ((by rw [hg]; exact Nat.ne_of_gt (blk_lt (g := gb429) (o := .cells #[.int .i64 t425, .int .i64 t426, .int .i64 t427] 25 (0, 0)) (by (with_reducible repeat (first | refine blk_drewN ?_ _ | refine blk_drew ?_ | refine blk_alloc ?_ _)); exact BK429.out)) : gb434 ≠ gb429)); clear BK418; clear BK420; clear BK429; clear HB; have BK418 := n0_; have BK420 := n1_; have BK429 := n2_; have HB := n3_; have BK434 := n4_; have GW434 := n5_; have GE434 := n6_; have NB418_434 := n7_; have NB434_418 := n8_; have NB420_434 := n9_; have NB434_420 := n10_; have NB429_434 := n11_; have NB434_429 := n12_; clear n0_ n1_ n2_ n3_ n4_ n5_ n6_ n7_ n8_ n9_ n10_ n11_ n12_; clear hb hbox hg; have hnb37 := NB434_418.out; have hnc37 := NB418_434.out; have hnb38 := NB434_420.out; have hnc38 := NB420_434.out; have hnb39 := NB434_429.out; have hnc39 := NB429_434.out; obtain ⟨hcz40_0, hcz40_1, hcz40_2⟩ := cel3 BK434.out; obtain ⟨hfz40_0, hfz40_1, hfz40_2⟩ := frz3 BK434.out))
               have n0_ : Aside0 ((((w36.setCell ⟨gb434, 0, none⟩ (.int .i64 t430)).setCell ⟨gb434, 1, none⟩ (.int .i64 t431)).setCell ⟨gb434, 2, none⟩ (.int .i64 t432)).heap[gb418]? = some (.cells #[.int .i64 0, .int .i64 0, .int .i64 0, .int .i64 0, .int .i64 0, .int .i64 0, .int .i64 0, .int .i64 0, .int .i64 0] 27 (0, 0))) := ⟨by (with_reducible repeat (first | refine blk_drewN ?_ _ | refine blk_drew ?_ | refine blk_alloc ?_ _)); refine blk_far ?_ NB418_434.out _; (with_reducible repeat (first | refine blk_drewN ?_ _ | refine blk_drew ?_ | refine blk_alloc ?_ _)); refine blk_far ?_ NB418_434.out _; (with_reducible repeat (first | refine blk_drewN ?_ _ | refine blk_drew ?_ | refine blk_alloc ?_ _)); refine blk_far ?_ NB418_434.out _; (with_reducible repeat (first | refine blk_drewN ?_ _ | refine blk_drew ?_ | refine blk_alloc ?_ _)); exact BK418.out⟩
               have n1_ : Aside0 ((((w36.setCell ⟨gb434, 0, none⟩ (.int .i64 t430)).setCell ⟨gb434, 1, none⟩ (.int .i64 t431)).setCell ⟨gb434, 2, none⟩ (.int .i64 t432)).heap[gb420]? = some (.cells #[.int .i64 (wrap64 ((bt a0 0) / 16)), .int .i64 t421, .int .i64 t423, .int .i64 0, .int .i64 0, .int .i64 0, .int .i64 0, .int .i64 0, .int .i64 0] 27 (0, 0))) := ⟨by (with_reducible repeat (first | refine blk_drewN ?_ _ | refine blk_drew ?_ | refine blk_alloc ?_ _)); refine blk_far ?_ NB420_434.out _; (with_reducible repeat (first | refine blk_drewN ?_ _ | refine blk_drew ?_ | refine blk_alloc ?_ _)); refine blk_far ?_ NB420_434.out _; (with_reducible repeat (first | refine blk_drewN ?_ _ | refine blk_drew ?_ | refine blk_alloc ?_ _)); refine blk_far ?_ NB420_434.out _; (with_reducible repeat (first | refine blk_drewN ?_ _ | refine blk_drew ?_ | refine blk_alloc ?_ _)); exact BK420.out⟩
               have n2_ : Aside0 ((((w36.setCell ⟨gb434, 0, none⟩ (.int .i64 t430)).setCell ⟨gb434, 1, none⟩ (.int .i64 t431)).setCell ⟨gb434, 2, none⟩ (.int .i64 t432)).heap[gb429]? = some (.cells #[.int .i64 t425, .int .i64 t426, .int .i64 t427] 25 (0, 0))) := ⟨by (with_reducible repeat (first | refine blk_drewN ?_ _ | refine blk_drew ?_ | refine blk_alloc ?_ _)); refine blk_far ?_ NB429_434.out _; (with_reducible repeat (first | refine blk_drewN ?_ _ | refine blk_drew ?_ | refine blk_alloc ?_ _)); refine blk_far ?_ NB429_434.out _; (with_reducible repeat (first | refine blk_drewN ?_ _ | refine blk_drew ?_ | refine blk_alloc ?_ _)); refine blk_far ?_ NB429_434.out _; (with_reducible repeat (first | refine blk_drewN ?_ _ | refine blk_drew ?_ | refine blk_alloc ?_ _)); exact BK429.out⟩
               have n3_ : Aside0 ((((w36.setCell ⟨gb434, 0, none⟩ (.int .i64 t430)).setCell ⟨gb434, 1, none⟩ (.int .i64 t431)).setCell ⟨gb434, 2, none⟩ (.int .i64 t432)).heap[gb434]? = some (.cells #[.int .i64 t430, .int .i64 t431, .int .i64 t432] 25 (0, 0))) := ⟨by (with_reducible repeat (first | refine blk_drewN ?_ _ | refine blk_drew ?_ | refine blk_alloc ?_ _)); refine blk_put (cs := #[.int .i64 t430, .int .i64 t431, .int .i64 0]) ?_ 2 _ rfl; (with_reducible repeat (first | refine blk_drewN ?_ _ | refine blk_drew ?_ | refine blk_alloc ?_ _)); refine blk_put (cs := #[.int .i64 t430, .int .i64 0, .int .i64 0]) ?_ 1 _ rfl; (with_reducible repeat (first | refine blk_drewN ?_ _ | refine blk_drew ?_ | refine blk_alloc ?_ _)); refine blk_put (cs := #[.int .i64 0, .int .i64 0, .int .i64 0]) ?_ 0 _ rfl; (with_reducible repeat (first | refine blk_drewN ?_ _ | refine blk_drew ?_ | refine blk_alloc ?_ _)); exact BK434.out⟩
               have n4_ : Aside0 (Below w.heap.size w (((w36.setCell ⟨gb434, 0, none⟩ (.int .i64 t430)).setCell ⟨gb434, 1, none⟩ (.int .i64 t431)).setCell ⟨gb434, 2, none⟩ (.int .i64 t432))) := ⟨by repeat (first | (with_reducible first | exact HB.out | apply below_alloc | apply pw_below_drewN | apply below_drew1 | refine below_set ?_ GE418.out | refine below_set ?_ GE420.out | refine below_set ?_ GE429.out | refine below_set ?_ GE434.out) | exact HB.out)⟩
               (try clear BK418)
               (try clear BK420)
               (try clear BK429)
               (try clear BK434)
               (try clear HB)
               generalize (((w36.setCell ⟨gb434, 0, none⟩ (.int .i64 t430)).setCell ⟨gb434, 1, none⟩ (.int .i64 t431)).setCell ⟨gb434, 2, none⟩ (.int .i64 t432)) = w41 at n0_ n1_ n2_ n3_ n4_ ⊢
               have BK418 := n0_
               have BK420 := n1_
               have BK429 := n2_
               have BK434 := n3_
               have HB := n4_
               clear n0_ n1_ n2_ n3_ n4_
               have n0_ := Aside0.mk (blk_drew BK418.out)
               have n1_ := Aside0.mk (blk_drew BK420.out)
               have n2_ := Aside0.mk (blk_drew BK429.out)
               have n3_ := Aside0.mk (blk_drew BK434.out)
               have n4_ := Aside0.mk (below_drew1 HB.out)
               clear BK418
               clear BK420
               clear BK429
               clear BK434
               clear HB
               have BK418 := n0_
               have BK420 := n1_
               have BK429 := n2_
               have BK434 := n3_
               have HB := n4_
               clear n0_ n1_ n2_ n3_ n4_
               refine start_ (n := 6) (S := fun w' => w'.cell? ⟨gb429, 0, none⟩ = some (.int .i64 t425) ∧ w'.cell? ⟨gb429, 1, none⟩ = some (.int .i64 t426) ∧ w'.cell? ⟨gb429, 2, none⟩ = some (.int .i64 t427) ∧ w'.cell? ⟨gb434, 0, none⟩ = some (.int .i64 t430) ∧ w'.cell? ⟨gb434, 1, none⟩ = some (.int .i64 t431) ∧ w'.cell? ⟨gb434, 2, none⟩ = some (.int .i64 t432)) (ds := []) #[false, false, false, false, false, false] (by kernel_rfl) rfl rfl ⟨(blk_cell BK429.out 0).trans rfl, (blk_cell BK429.out 1).trans rfl, (blk_cell BK429.out 2).trans rfl, (blk_cell BK434.out 0).trans rfl, (blk_cell BK434.out 1).trans rfl, (blk_cell BK434.out 2).trans rfl⟩ (fun hHeld => ?_)
               generalize w41.drew = w42 at BK418 BK420 BK429 BK434 HB hHeld ⊢
               refine take_ (i := 0) (N := some 55) (v := ?_) (a' := ?_) (mS 6 1) rfl rfl (by kernel_rfl) (fun _ _ _ h => h) (Or.inl ⟨by rfl, ?_⟩) hHeld ?_ ?_
               rotate_left
               · rintro w' ⟨s0, s1, s2, s3, s4, s5⟩
                 go_simp
                 with_reducible rfl
               rotate_left
               · simp only [Act.put, List.setIfInBounds_toArray, List.set_cons_zero, List.set_cons_succ, i64_w, i32_w]
                 rfl
               refine pure_ (i := 2) (N := some 57) (v := ?_) (a' := ?_) (mS 6 5) rfl rfl (by kernel_rfl) (fun _ _ _ h => h) (Or.inl ⟨by rfl, ?_⟩) ?_ ?_
               rotate_left
               · intro w'
                 go_simp
                 with_reducible rfl
               rotate_left
               · simp only [Act.put, List.setIfInBounds_toArray, List.set_cons_zero, List.set_cons_succ, i64_w, i32_w]
                 rfl
               refine take_ (i := 1) (N := some 56) (v := ?_) (a' := ?_) (mS 6 7) rfl rfl (by kernel_rfl) (fun _ _ _ h => h) (Or.inl ⟨by rfl, ?_⟩) hHeld ?_ ?_
               rotate_left
               · rintro w' ⟨s0, s1, s2, s3, s4, s5⟩
                 go_simp
                 with_reducible rfl
               rotate_left
               · simp only [Act.put, List.setIfInBounds_toArray, List.set_cons_zero, List.set_cons_succ, i64_w, i32_w]
                 rfl
               refine one_ (i := 3) (N := none) (mS 6 15) rfl rfl (by kernel_rfl) (by decide) (fun K hK => ?_)
               have hs43 : w42.cell? ⟨gb420, 3, none⟩ = some (.int .i64 0) := (blk_cell BK420.out 3).trans rfl
               have hfs43 := blk_frozen BK420.out 3
               have hns43_0 := NB418_420.out
               have hns43_2 := NB429_420.out
               have hns43_3 := NB434_420.out
               have hms43_0 := NB420_418.out
               have hms43_2 := NB420_429.out
               have hms43_3 := NB420_434.out
               have hs44 : w42.cell? ⟨gb420, 4, none⟩ = some (.int .i64 0) := (blk_cell BK420.out 4).trans rfl
               have hfs44 := blk_frozen BK420.out 4
               have hns44_0 := NB418_420.out
               have hns44_2 := NB429_420.out
               have hns44_3 := NB434_420.out
               have hms44_0 := NB420_418.out
               have hms44_2 := NB420_429.out
               have hms44_3 := NB420_434.out
               have hs45 : w42.cell? ⟨gb420, 5, none⟩ = some (.int .i64 0) := (blk_cell BK420.out 5).trans rfl
               have hfs45 := blk_frozen BK420.out 5
               have hns45_0 := NB418_420.out
               have hns45_2 := NB429_420.out
               have hns45_3 := NB434_420.out
               have hms45_0 := NB420_418.out
               have hms45_2 := NB420_429.out
               have hms45_3 := NB420_434.out
               refine skip_ (w1 := ?_) (by rfl) rfl ?_ ?_
               rotate_left
               · go_simp
                 rfl
               refine hK.out _ _ ⟨((cell_far (p := ⟨gb420, _, none⟩) NB429_420.out _).trans (((cell_far (p := ⟨gb420, _, none⟩) NB429_420.out _).trans (((cell_far (p := ⟨gb420, _, none⟩) NB429_420.out _).trans (hHeld.1)))))), ((cell_far (p := ⟨gb420, _, none⟩) NB429_420.out _).trans (((cell_far (p := ⟨gb420, _, none⟩) NB429_420.out _).trans (((cell_far (p := ⟨gb420, _, none⟩) NB429_420.out _).trans (hHeld.2.1)))))), ((cell_far (p := ⟨gb420, _, none⟩) NB429_420.out _).trans (((cell_far (p := ⟨gb420, _, none⟩) NB429_420.out _).trans (((cell_far (p := ⟨gb420, _, none⟩) NB429_420.out _).trans (hHeld.2.2.1)))))), ((cell_far (p := ⟨gb420, _, none⟩) NB434_420.out _).trans (((cell_far (p := ⟨gb420, _, none⟩) NB434_420.out _).trans (((cell_far (p := ⟨gb420, _, none⟩) NB434_420.out _).trans (hHeld.2.2.2.1)))))), ((cell_far (p := ⟨gb420, _, none⟩) NB434_420.out _).trans (((cell_far (p := ⟨gb420, _, none⟩) NB434_420.out _).trans (((cell_far (p := ⟨gb420, _, none⟩) NB434_420.out _).trans (hHeld.2.2.2.2.1)))))), ((cell_far (p := ⟨gb420, _, none⟩) NB434_420.out _).trans (((cell_far (p := ⟨gb420, _, none⟩) NB434_420.out _).trans (((cell_far (p := ⟨gb420, _, none⟩) NB434_420.out _).trans (hHeld.2.2.2.2.2))))))⟩ (fun hHeld => ?_)
               clear hK K
               refine pure_ (i := 4) (N := some 58) (v := ?_) (a' := ?_) (mS 6 31) rfl rfl (by kernel_rfl) (fun _ _ _ h => h) (Or.inl ⟨by rfl, ?_⟩) ?_ ?_
               rotate_left
               · intro w'
                 go_simp
                 with_reducible rfl
               rotate_left
               · simp only [Act.put, List.setIfInBounds_toArray, List.set_cons_zero, List.set_cons_succ, i64_w, i32_w]
                 rfl
               refine one_ (i := 5) (N := none) (mS 6 63) rfl rfl (by kernel_rfl) (by decide) (fun K hK => ?_)
               have hs46 : w42.cell? ⟨gb420, 6, none⟩ = some (.int .i64 0) := (blk_cell BK420.out 6).trans rfl
               have hfs46 := blk_frozen BK420.out 6
               have hns46_0 := NB418_420.out
               have hns46_2 := NB429_420.out
               have hns46_3 := NB434_420.out
               have hms46_0 := NB420_418.out
               have hms46_2 := NB420_429.out
               have hms46_3 := NB420_434.out
               have hs47 : w42.cell? ⟨gb420, 7, none⟩ = some (.int .i64 0) := (blk_cell BK420.out 7).trans rfl
               have hfs47 := blk_frozen BK420.out 7
               have hns47_0 := NB418_420.out
               have hns47_2 := NB429_420.out
               have hns47_3 := NB434_420.out
               have hms47_0 := NB420_418.out
               have hms47_2 := NB420_429.out
               have hms47_3 := NB420_434.out
               have hs48 : w42.cell? ⟨gb420, 8, none⟩ = some (.int .i64 0) := (blk_cell BK420.out 8).trans rfl
               have hfs48 := blk_frozen BK420.out 8
               have hns48_0 := NB418_420.out
               have hns48_2 := NB429_420.out
               have hns48_3 := NB434_420.out
               have hms48_0 := NB420_418.out
               have hms48_2 := NB420_429.out
               have hms48_3 := NB420_434.out
               refine skip_ (w1 := ?_) (by rfl) rfl ?_ ?_
               rotate_left
               · go_simp
                 rfl
               refine hK.out _ _ ⟨((cell_far (p := ⟨gb420, _, none⟩) NB429_420.out _).trans (((cell_far (p := ⟨gb420, _, none⟩) NB429_420.out _).trans (((cell_far (p := ⟨gb420, _, none⟩) NB429_420.out _).trans (hHeld.1)))))), ((cell_far (p := ⟨gb420, _, none⟩) NB429_420.out _).trans (((cell_far (p := ⟨gb420, _, none⟩) NB429_420.out _).trans (((cell_far (p := ⟨gb420, _, none⟩) NB429_420.out _).trans (hHeld.2.1)))))), ((cell_far (p := ⟨gb420, _, none⟩) NB429_420.out _).trans (((cell_far (p := ⟨gb420, _, none⟩) NB429_420.out _).trans (((cell_far (p := ⟨gb420, _, none⟩) NB429_420.out _).trans (hHeld.2.2.1)))))), ((cell_far (p := ⟨gb420, _, none⟩) NB434_420.out _).trans (((cell_far (p := ⟨gb420, _, none⟩) NB434_420.out _).trans (((cell_far (p := ⟨gb420, _, none⟩) NB434_420.out _).trans (hHeld.2.2.2.1)))))), ((cell_far (p := ⟨gb420, _, none⟩) NB434_420.out _).trans (((cell_far (p := ⟨gb420, _, none⟩) NB434_420.out _).trans (((cell_far (p := ⟨gb420, _, none⟩) NB434_420.out _).trans (hHeld.2.2.2.2.1)))))), ((cell_far (p := ⟨gb420, _, none⟩) NB434_420.out _).trans (((cell_far (p := ⟨gb420, _, none⟩) NB434_420.out _).trans (((cell_far (p := ⟨gb420, _, none⟩) NB434_420.out _).trans (hHeld.2.2.2.2.2))))))⟩ (fun hHeld => ?_)
               clear hK K
               refine done_ (by kernel_rfl) ?_
               have hcz49_0 : w42.cell? ⟨gb420, 0, none⟩ = some (.int .i64 (wrap64 ((bt a0 0) / 16))) := (blk_cell BK420.out 0).trans rfl
               have hcz49_1 : w42.cell? ⟨gb420, 1, none⟩ = some (.int .i64 t421) := (blk_cell BK420.out 1).trans rfl
               have hcz49_2 : w42.cell? ⟨gb420, 2, none⟩ = some (.int .i64 t423) := (blk_cell BK420.out 2).trans rfl
               have hcz49_3 : w42.cell? ⟨gb420, 3, none⟩ = some (.int .i64 0) := (blk_cell BK420.out 3).trans rfl
               have hcz49_4 : w42.cell? ⟨gb420, 4, none⟩ = some (.int .i64 0) := (blk_cell BK420.out 4).trans rfl
               have hcz49_5 : w42.cell? ⟨gb420, 5, none⟩ = some (.int .i64 0) := (blk_cell BK420.out 5).trans rfl
               have hcz49_6 : w42.cell? ⟨gb420, 6, none⟩ = some (.int .i64 0) := (blk_cell BK420.out 6).trans rfl
               have hcz49_7 : w42.cell? ⟨gb420, 7, none⟩ = some (.int .i64 0) := (blk_cell BK420.out 7).trans rfl
               have hcz49_8 : w42.cell? ⟨gb420, 8, none⟩ = some (.int .i64 0) := (blk_cell BK420.out 8).trans rfl
               have hfz49_0 := blk_frozen BK420.out 0
               have hfz49_1 := blk_frozen BK420.out 1
               have hfz49_2 := blk_frozen BK420.out 2
               have hfz49_3 := blk_frozen BK420.out 3
               have hfz49_4 := blk_frozen BK420.out 4
               have hfz49_5 := blk_frozen BK420.out 5
               have hfz49_6 := blk_frozen BK420.out 6
               have hfz49_7 := blk_frozen BK420.out 7
               have hfz49_8 := blk_frozen BK420.out 8
               go_upto_region 13 with (first | ((with_reducible refine gate_callee (f := 18) rfl ?_); refine goesL_ (some 61) rfl rfl Try.func18 (by kernel_rfl) rfl #[.agg #[.int .i64 (wrap64 ((bt a0 0) / 16)), .int .i64 t421, .int .i64 t423, .int .i64 t425, .int .i64 t426, .int .i64 t427, .int .i64 t430, .int .i64 t431, .int .i64 t432]] rfl (by (try simp only [List.map_toArray, List.map_cons, List.map_nil]); first | done | rfl | (simp only [List.length_drop, List.length_take]; rfl)) ?_; (with_reducible refine (subchannel_Encode.calls (wrap64 ((bt a0 0) / 16)) t421 t423 t425 t426 t427 t430 t431 t432 t435 t436 _ A18.out).mono ?_); rintro e w50 ⟨rfl, hb⟩; refine ⟨_, rfl, ?_⟩; have n0_ := Aside0.mk (blk_below (g := gb418) (o := .cells #[.int .i64 0, .int .i64 0, .int .i64 0, .int .i64 0, .int .i64 0, .int .i64 0, .int .i64 0, .int .i64 0, .int .i64 0] 27 (0, 0)) (by (with_reducible repeat (first | refine blk_drewN ?_ _ | refine blk_drew ?_ | refine blk_alloc ?_ _)); refine blk_far ?_ NB418_420.out _; (with_reducible repeat (first | refine blk_drewN ?_ _ | refine blk_drew ?_ | refine blk_alloc ?_ _)); refine blk_far ?_ NB418_420.out _; (with_reducible repeat (first | refine blk_drewN ?_ _ | refine blk_drew ?_ | refine blk_alloc ?_ _)); refine blk_far ?_ NB418_420.out _; (with_reducible repeat (first | refine blk_drewN ?_ _ | refine blk_drew ?_ | refine blk_alloc ?_ _)); refine blk_far ?_ NB418_420.out _; (with_reducible repeat (first | refine blk_drewN ?_ _ | refine blk_drew ?_ | refine blk_alloc ?_ _)); refine blk_far ?_ NB418_420.out _; (with_reducible repeat (first | refine blk_drewN ?_ _ | refine blk_drew ?_ | refine blk_alloc ?_ _)); refine blk_far ?_ NB418_420.out _; (with_reducible repeat (first | refine blk_drewN ?_ _ | refine blk_drew ?_ | refine blk_alloc ?_ _)); exact BK418.out) hb); have n1_ := Aside0.mk (blk_below (g := gb420) (o := .cells #[.int .i64 (wrap64 ((bt a0 0) / 16)), .int .i64 t421, .int .i64 t423, .int .i64 t425, .int .i64 t426, .int .i64 t427, .int .i64 t430, .int .i64 t431, .int .i64 t432] 27 (0, 0)) (by (with_reducible repeat (first | refine blk_drewN ?_ _ | refine blk_drew ?_ | refine blk_alloc ?_ _)); refine blk_put (cs := #[.int .i64 (wrap64 ((bt a0 0) / 16)), .int .i64 t421, .int .i64 t423, .int .i64 t425, .int .i64 t426, .int .i64 t427, .int .i64 t430, .int .i64 t431, .int .i64 0]) ?_ 8 _ rfl; (with_reducible repeat (first | refine blk_drewN ?_ _ | refine blk_drew ?_ | refine blk_alloc ?_ _)); refine blk_put (cs := #[.int .i64 (wrap64 ((bt a0 0) / 16)), .int .i64 t421, .int .i64 t423, .int .i64 t425, .int .i64 t426, .int .i64 t427, .int .i64 t430, .int .i64 0, .int .i64 0]) ?_ 7 _ rfl; (with_reducible repeat (first | refine blk_drewN ?_ _ | refine blk_drew ?_ | refine blk_alloc ?_ _)); refine blk_put (cs := #[.int .i64 (wrap64 ((bt a0 0) / 16)), .int .i64 t421, .int .i64 t423, .int .i64 t425, .int .i64 t426, .int .i64 t427, .int .i64 0, .int .i64 0, .int .i64 0]) ?_ 6 _ rfl; (with_reducible repeat (first | refine blk_drewN ?_ _ | refine blk_drew ?_ | refine blk_alloc ?_ _)); refine blk_put (cs := #[.int .i64 (wrap64 ((bt a0 0) / 16)), .int .i64 t421, .int .i64 t423, .int .i64 t425, .int .i64 t426, .int .i64 0, .int .i64 0, .int .i64 0, .int .i64 0]) ?_ 5 _ rfl; (with_reducible repeat (first | refine blk_drewN ?_ _ | refine blk_drew ?_ | refine blk_alloc ?_ _)); refine blk_put (cs := #[.int .i64 (wrap64 ((bt a0 0) / 16)), .int .i64 t421, .int .i64 t423, .int .i64 t425, .int .i64 0, .int .i64 0, .int .i64 0, .int .i64 0, .int .i64 0]) ?_ 4 _ rfl; (with_reducible repeat (first | refine blk_drewN ?_ _ | refine blk_drew ?_ | refine blk_alloc ?_ _)); refine blk_put (cs := #[.int .i64 (wrap64 ((bt a0 0) / 16)), .int .i64 t421, .int .i64 t423, .int .i64 0, .int .i64 0, .int .i64 0, .int .i64 0, .int .i64 0, .int .i64 0]) ?_ 3 _ rfl; (with_reducible repeat (first | refine blk_drewN ?_ _ | refine blk_drew ?_ | refine blk_alloc ?_ _)); exact BK420.out) hb); have n2_ := Aside0.mk (blk_below (g := gb429) (o := .cells #[.int .i64 t425, .int .i64 t426, .int .i64 t427] 25 (0, 0)) (by (with_reducible repeat (first | refine blk_drewN ?_ _ | refine blk_drew ?_ | refine blk_alloc ?_ _)); refine blk_far ?_ NB429_420.out _; (with_reducible repeat (first | refine blk_drewN ?_ _ | refine blk_drew ?_ | refine blk_alloc ?_ _)); refine blk_far ?_ NB429_420.out _; (with_reducible repeat (first | refine blk_drewN ?_ _ | refine blk_drew ?_ | refine blk_alloc ?_ _)); refine blk_far ?_ NB429_420.out _; (with_reducible repeat (first | refine blk_drewN ?_ _ | refine blk_drew ?_ | refine blk_alloc ?_ _)); refine blk_far ?_ NB429_420.out _; (with_reducible repeat (first | refine blk_drewN ?_ _ | refine blk_drew ?_ | refine blk_alloc ?_ _)); refine blk_far ?_ NB429_420.out _; (with_reducible repeat (first | refine blk_drewN ?_ _ | refine blk_drew ?_ | refine blk_alloc ?_ _)); refine blk_far ?_ NB429_420.out _; (with_reducible repeat (first | refine blk_drewN ?_ _ | refine blk_drew ?_ | refine blk_alloc ?_ _)); exact BK429.out) hb); have n3_ := Aside0.mk (blk_below (g := gb434) (o := .cells #[.int .i64 t430, .int .i64 t431, .int .i64 t432] 25 (0, 0)) (by (with_reducible repeat (first | refine blk_drewN ?_ _ | refine blk_drew ?_ | refine blk_alloc ?_ _)); refine blk_far ?_ NB434_420.out _; (with_reducible repeat (first | refine blk_drewN ?_ _ | refine blk_drew ?_ | refine blk_alloc ?_ _)); refine blk_far ?_ NB434_420.out _; (with_reducible repeat (first | refine blk_drewN ?_ _ | refine blk_drew ?_ | refine blk_alloc ?_ _)); refine blk_far ?_ NB434_420.out _; (with_reducible repeat (first | refine blk_drewN ?_ _ | refine blk_drew ?_ | refine blk_alloc ?_ _)); refine blk_far ?_ NB434_420.out _; (with_reducible repeat (first | refine blk_drewN ?_ _ | refine blk_drew ?_ | refine blk_alloc ?_ _)); refine blk_far ?_ NB434_420.out _; (with_reducible repeat (first | refine blk_drewN ?_ _ | refine blk_drew ?_ | refine blk_alloc ?_ _)); refine blk_far ?_ NB434_420.out _; (with_reducible repeat (first | refine blk_drewN ?_ _ | refine blk_drew ?_ | refine blk_alloc ?_ _)); exact BK434.out) hb); have n4_ := Aside0.mk (below_step (by repeat (first | (with_reducible first | exact HB.out | apply below_alloc | apply pw_below_drewN | apply below_drew1 | refine below_set ?_ GE418.out | refine below_set ?_ GE420.out | refine below_set ?_ GE429.out | refine below_set ?_ GE434.out) | exact HB.out)) hb); clear BK418; clear BK420; clear BK429; clear BK434; clear HB; have BK418 := n0_; have BK420 := n1_; have BK429 := n2_; have BK434 := n3_; have HB := n4_; clear n0_ n1_ n2_ n3_ n4_; (try clear hb); (try clear hb2); (try clear hk); (try clear hi)))
               (try simp only [Act.put, List.setIfInBounds_toArray, List.set_cons_zero, List.set_cons_succ])
               go_cut [86] (fun v86 wc => ∃ (kq : Nat) (x86_18 : Bool), v86 = .bool x86_18 ∧ Aside0 (subchannel_Decode.j0 kq x86_18 (wrap64 ((bt a0 0) / 16)) t421 t423 t425 t426 t427 t430 t431 t432 = some (r1, r2, r3, r4, r5, r6, r7, r8, r9, r10)) ∧ Aside0 (kq ≤ k) ∧ Aside0 (wc.heap[gb418]? = some (.cells #[.int .i64 0, .int .i64 0, .int .i64 0, .int .i64 0, .int .i64 0, .int .i64 0, .int .i64 0, .int .i64 0, .int .i64 0] 27 (0, 0))) ∧ Aside0 (wc.heap[gb420]? = some (.cells #[.int .i64 (wrap64 ((bt a0 0) / 16)), .int .i64 t421, .int .i64 t423, .int .i64 t425, .int .i64 t426, .int .i64 t427, .int .i64 t430, .int .i64 t431, .int .i64 t432] 27 (0, 0))) ∧ Aside0 (wc.heap[gb429]? = some (.cells #[.int .i64 t425, .int .i64 t426, .int .i64 t427] 25 (0, 0))) ∧ Aside0 (wc.heap[gb434]? = some (.cells #[.int .i64 t430, .int .i64 t431, .int .i64 t432] 25 (0, 0))) ∧ Aside0 (Below w.heap.size w wc))
               case first =>
                have H := HC19.out
                clear HC19
                by_cases c51 : t422 = true
                · subst c51
                  have H1 : (if t424 = true then (if t428 = 0 then (if t433 = 0 then (if t436 = 0 then (subchannel_Decode.j0 k (t435.toList != a0.toList) (wrap64 ((bt a0 0) / 16)) t421 t423 t425 t426 t427 t430 t431 t432) else (subchannel_Decode.j0 k true (wrap64 ((bt a0 0) / 16)) t421 t423 t425 t426 t427 t430 t431 t432)) else (subchannel_Decode.j0 k true (wrap64 ((bt a0 0) / 16)) t421 t423 t425 t426 t427 t430 t431 t432)) else (subchannel_Decode.j0 k true (wrap64 ((bt a0 0) / 16)) t421 t423 t425 t426 t427 t430 t431 t432)) else (subchannel_Decode.j0 k true (wrap64 ((bt a0 0) / 16)) t421 t423 t425 t426 t427 t430 t431 t432)) = some (r1, r2, r3, r4, r5, r6, r7, r8, r9, r10) := by rw [if_pos rfl] at H; exact H
                  clear H
                  have H := H1
                  clear H1
                  by_cases c52 : t424 = true
                  · subst c52
                    have H1 : (if t428 = 0 then (if t433 = 0 then (if t436 = 0 then (subchannel_Decode.j0 k (t435.toList != a0.toList) (wrap64 ((bt a0 0) / 16)) t421 t423 t425 t426 t427 t430 t431 t432) else (subchannel_Decode.j0 k true (wrap64 ((bt a0 0) / 16)) t421 t423 t425 t426 t427 t430 t431 t432)) else (subchannel_Decode.j0 k true (wrap64 ((bt a0 0) / 16)) t421 t423 t425 t426 t427 t430 t431 t432)) else (subchannel_Decode.j0 k true (wrap64 ((bt a0 0) / 16)) t421 t423 t425 t426 t427 t430 t431 t432)) = some (r1, r2, r3, r4, r5, r6, r7, r8, r9, r10) := by rw [if_pos rfl] at H; exact H
                    clear H
                    have H := H1
                    clear H1
                    by_cases c53 : t428 = 0
                    · rw [if_pos c53] at H
                      have c53b0 : (t428 == 0) = true := beq_iff_eq.mpr c53
                      have c53b1 : (t428 != 0) = false := bne_eq_false_iff_eq.mpr c53
                      clear c53
                      (first | rw [c53b0] | (simp only [i64_w, i32_w]; rw [c53b0]) | skip)
                      by_cases c54 : t433 = 0
                      · rw [if_pos c54] at H
                        have c54b0 : (t433 == 0) = true := beq_iff_eq.mpr c54
                        have c54b1 : (t433 != 0) = false := bne_eq_false_iff_eq.mpr c54
                        clear c54
                        by_cases c55 : t436 = 0
                        · rw [if_pos c55] at H
                          have c55b0 : (t436 == 0) = true := beq_iff_eq.mpr c55
                          have c55b1 : (t436 != 0) = false := bne_eq_false_iff_eq.mpr c55
                          clear c55
                          have H' := Aside0.mk H
                          clear H
                          go_wp2
                          go_meet
                          case rel => exact ⟨_, ((t435.toList != a0.toList)), (by first | rfl | (simp; done) | (simp [*]; done)), H', ⟨by first | omega | exact Nat.le_refl _⟩, ⟨by (with_reducible repeat (first | refine blk_drewN ?_ _ | refine blk_drew ?_ | refine blk_alloc ?_ _)); exact BK418.out⟩, ⟨by (with_reducible repeat (first | refine blk_drewN ?_ _ | refine blk_drew ?_ | refine blk_alloc ?_ _)); exact BK420.out⟩, ⟨by (with_reducible repeat (first | refine blk_drewN ?_ _ | refine blk_drew ?_ | refine blk_alloc ?_ _)); exact BK429.out⟩, ⟨by (with_reducible repeat (first | refine blk_drewN ?_ _ | refine blk_drew ?_ | refine blk_alloc ?_ _)); exact BK434.out⟩, ⟨by repeat (first | (with_reducible first | exact HB.out | apply below_alloc | apply pw_below_drewN | apply below_drew1 | refine below_set ?_ GE418.out | refine below_set ?_ GE420.out | refine below_set ?_ GE429.out | refine below_set ?_ GE434.out) | exact HB.out)⟩⟩
                        · rw [if_neg c55] at H
                          have c55b0 : (t436 == 0) = false := beq_eq_false_iff_ne.mpr c55
                          have c55b1 : (t436 != 0) = true := bne_iff_ne.mpr c55
                          have H' := Aside0.mk H
                          clear H
                          go_wp2
                          go_meet
                          case rel => exact ⟨_, (true), (by first | rfl | (simp; done) | (simp [*]; done)), H', ⟨by first | omega | exact Nat.le_refl _⟩, ⟨by (with_reducible repeat (first | refine blk_drewN ?_ _ | refine blk_drew ?_ | refine blk_alloc ?_ _)); exact BK418.out⟩, ⟨by (with_reducible repeat (first | refine blk_drewN ?_ _ | refine blk_drew ?_ | refine blk_alloc ?_ _)); exact BK420.out⟩, ⟨by (with_reducible repeat (first | refine blk_drewN ?_ _ | refine blk_drew ?_ | refine blk_alloc ?_ _)); exact BK429.out⟩, ⟨by (with_reducible repeat (first | refine blk_drewN ?_ _ | refine blk_drew ?_ | refine blk_alloc ?_ _)); exact BK434.out⟩, ⟨by repeat (first | (with_reducible first | exact HB.out | apply below_alloc | apply pw_below_drewN | apply below_drew1 | refine below_set ?_ GE418.out | refine below_set ?_ GE420.out | refine below_set ?_ GE429.out | refine below_set ?_ GE434.out) | exact HB.out)⟩⟩
                      · rw [if_neg c54] at H
                        have c54b0 : (t433 == 0) = false := beq_eq_false_iff_ne.mpr c54
                        have c54b1 : (t433 != 0) = true := bne_iff_ne.mpr c54
                        have H' := Aside0.mk H
                        clear H
                        go_wp2
                        go_meet
                        case rel => exact ⟨_, (true), (by first | rfl | (simp; done) | (simp [*]; done)), H', ⟨by first | omega | exact Nat.le_refl _⟩, ⟨by (with_reducible repeat (first | refine blk_drewN ?_ _ | refine blk_drew ?_ | refine blk_alloc ?_ _)); exact BK418.out⟩, ⟨by (with_reducible repeat (first | refine blk_drewN ?_ _ | refine blk_drew ?_ | refine blk_alloc ?_ _)); exact BK420.out⟩, ⟨by (with_reducible repeat (first | refine blk_drewN ?_ _ | refine blk_drew ?_ | refine blk_alloc ?_ _)); exact BK429.out⟩, ⟨by (with_reducible repeat (first | refine blk_drewN ?_ _ | refine blk_drew ?_ | refine blk_alloc ?_ _)); exact BK434.out⟩, ⟨by repeat (first | (with_reducible first | exact HB.out | apply below_alloc | apply pw_below_drewN | apply below_drew1 | refine below_set ?_ GE418.out | refine below_set ?_ GE420.out | refine below_set ?_ GE429.out | refine below_set ?_ GE434.out) | exact HB.out)⟩⟩
                    · rw [if_neg c53] at H
                      have c53b0 : (t428 == 0) = false := beq_eq_false_iff_ne.mpr c53
                      have c53b1 : (t428 != 0) = true := bne_iff_ne.mpr c53
                      (first | rw [c53b0] | (simp only [i64_w, i32_w]; rw [c53b0]) | skip)
                      have H' := Aside0.mk H
                      clear H
                      go_wp2
                      go_meet
                      case rel => exact ⟨_, (true), (by first | rfl | (simp; done) | (simp [*]; done)), H', ⟨by first | omega | exact Nat.le_refl _⟩, ⟨by (with_reducible repeat (first | refine blk_drewN ?_ _ | refine blk_drew ?_ | refine blk_alloc ?_ _)); exact BK418.out⟩, ⟨by (with_reducible repeat (first | refine blk_drewN ?_ _ | refine blk_drew ?_ | refine blk_alloc ?_ _)); exact BK420.out⟩, ⟨by (with_reducible repeat (first | refine blk_drewN ?_ _ | refine blk_drew ?_ | refine blk_alloc ?_ _)); exact BK429.out⟩, ⟨by (with_reducible repeat (first | refine blk_drewN ?_ _ | refine blk_drew ?_ | refine blk_alloc ?_ _)); exact BK434.out⟩, ⟨by repeat (first | (with_reducible first | exact HB.out | apply below_alloc | apply pw_below_drewN | apply below_drew1 | refine below_set ?_ GE418.out | refine below_set ?_ GE420.out | refine below_set ?_ GE429.out | refine below_set ?_ GE434.out) | exact HB.out)⟩⟩
                  · replace c52 := Bool.eq_false_iff.mpr c52
                    subst c52
                    have H1 : (subchannel_Decode.j0 k true (wrap64 ((bt a0 0) / 16)) t421 t423 t425 t426 t427 t430 t431 t432) = some (r1, r2, r3, r4, r5, r6, r7, r8, r9, r10) := by rw [if_neg (show ¬ (false = true) by decide)] at H; exact H
                    clear H
                    have H := H1
                    clear H1
                    have H' := Aside0.mk H
                    clear H
                    go_wp2
                    go_meet
                    case rel => exact ⟨_, (true), (by first | rfl | (simp; done) | (simp [*]; done)), H', ⟨by first | omega | exact Nat.le_refl _⟩, ⟨by (with_reducible repeat (first | refine blk_drewN ?_ _ | refine blk_drew ?_ | refine blk_alloc ?_ _)); exact BK418.out⟩, ⟨by (with_reducible repeat (first | refine blk_drewN ?_ _ | refine blk_drew ?_ | refine blk_alloc ?_ _)); exact BK420.out⟩, ⟨by (with_reducible repeat (first | refine blk_drewN ?_ _ | refine blk_drew ?_ | refine blk_alloc ?_ _)); exact BK429.out⟩, ⟨by (with_reducible repeat (first | refine blk_drewN ?_ _ | refine blk_drew ?_ | refine blk_alloc ?_ _)); exact BK434.out⟩, ⟨by repeat (first | (with_reducible first | exact HB.out | apply below_alloc | apply pw_below_drewN | apply below_drew1 | refine below_set ?_ GE418.out | refine below_set ?_ GE420.out | refine below_set ?_ GE429.out | refine below_set ?_ GE434.out) | exact HB.out)⟩⟩
                · replace c51 := Bool.eq_false_iff.mpr c51
                  subst c51
                  have H1 : (subchannel_Decode.j0 k true (wrap64 ((bt a0 0) / 16)) t421 t423 t425 t426 t427 t430 t431 t432) = some (r1, r2, r3, r4, r5, r6, r7, r8, r9, r10) := by rw [if_neg (show ¬ (false = true) by decide)] at H; exact H
                  clear H
                  have H := H1
                  clear H1
                  have H' := Aside0.mk H
                  clear H
                  go_wp2
                  go_meet
                  case rel => exact ⟨_, (true), (by first | rfl | (simp; done) | (simp [*]; done)), H', ⟨by first | omega | exact Nat.le_refl _⟩, ⟨by (with_reducible repeat (first | refine blk_drewN ?_ _ | refine blk_drew ?_ | refine blk_alloc ?_ _)); exact BK418.out⟩, ⟨by (with_reducible repeat (first | refine blk_drewN ?_ _ | refine blk_drew ?_ | refine blk_alloc ?_ _)); exact BK420.out⟩, ⟨by (with_reducible repeat (first | refine blk_drewN ?_ _ | refine blk_drew ?_ | refine blk_alloc ?_ _)); exact BK429.out⟩, ⟨by (with_reducible repeat (first | refine blk_drewN ?_ _ | refine blk_drew ?_ | refine blk_alloc ?_ _)); exact BK434.out⟩, ⟨by repeat (first | (with_reducible first | exact HB.out | apply below_alloc | apply pw_below_drewN | apply below_drew1 | refine below_set ?_ GE418.out | refine below_set ?_ GE420.out | refine below_set ?_ GE429.out | refine below_set ?_ GE434.out) | exact HB.out)⟩⟩
               case rest =>
                clear HC19
                try clear c1
                try clear p1
                try clear q1
                try clear hx1
                try clear qi1
                try clear c2
                try clear c2b0
                try clear c2b1
                try clear p2
                try clear c3
                try clear c3b0
                try clear c3b1
                try clear c4
                try clear c4b0
                try clear c4b1
                try clear c5
                try clear c6
                try clear c6b0
                try clear p6
                try clear c7
                try clear c7b0
                try clear c7b1
                try clear c8
                try clear c8b0
                try clear c8b1
                try clear p9
                try clear q9
                try clear hx9
                try clear qi9
                try clear c10
                try clear c10b0
                try clear c10b1
                try clear p11
                try clear q11
                try clear hx11
                try clear qi11
                try clear c13
                try clear c13b0
                try clear c13b1
                try clear p14
                try clear q14
                try clear hx14
                try clear qi14
                try clear c18
                try clear c23
                try clear c24
                try clear c32
                try clear c33
                try clear c37
                try clear c38
                try clear c39
                try clear c43
                try clear c50
                try clear c51
                try clear c52
                try clear c53
                try clear c53b0
                try clear c53b1
                try clear c54
                try clear c54b0
                try clear c54b1
                try clear c55
                try clear c55b0
                try clear c55b1
                try clear hcz25_0
                try clear hcz25_1
                try clear hcz25_2
                try clear hcz25_3
                try clear hcz25_4
                try clear hcz25_5
                try clear hcz25_6
                try clear hcz25_7
                try clear hcz25_8
                try clear hcz27_0
                try clear hcz27_1
                try clear hcz27_2
                try clear hcz27_3
                try clear hcz27_4
                try clear hcz27_5
                try clear hcz27_6
                try clear hcz27_7
                try clear hcz27_8
                try clear hcz29_0
                try clear hcz29_1
                try clear hcz29_2
                try clear hcz29_3
                try clear hcz29_4
                try clear hcz29_5
                try clear hcz29_6
                try clear hcz29_7
                try clear hcz29_8
                try clear hcz34_0
                try clear hcz34_1
                try clear hcz34_2
                try clear hcz40_0
                try clear hcz40_1
                try clear hcz40_2
                try clear hcz49_0
                try clear hcz49_1
                try clear hcz49_2
                try clear hcz49_3
                try clear hcz49_4
                try clear hcz49_5
                try clear hcz49_6
                try clear hcz49_7
                try clear hcz49_8
                try clear hfz25_0
                try clear hfz25_1
                try clear hfz25_2
                try clear hfz25_3
                try clear hfz25_4
                try clear hfz25_5
                try clear hfz25_6
                try clear hfz25_7
                try clear hfz25_8
                try clear hfz27_0
                try clear hfz27_1
                try clear hfz27_2
                try clear hfz27_3
                try clear hfz27_4
                try clear hfz27_5
                try clear hfz27_6
                try clear hfz27_7
                try clear hfz27_8
                try clear hfz29_0
                try clear hfz29_1
                try clear hfz29_2
                try clear hfz29_3
                try clear hfz29_4
                try clear hfz29_5
                try clear hfz29_6
                try clear hfz29_7
                try clear hfz29_8
                try clear hfz34_0
                try clear hfz34_1
                try clear hfz34_2
                try clear hfz40_0
                try clear hfz40_1
                try clear hfz40_2
                try clear hfz49_0
                try clear hfz49_1
                try clear hfz49_2
                try clear hfz49_3
                try clear hfz49_4
                try clear hfz49_5
                try clear hfz49_6
                try clear hfz49_7
                try clear hfz49_8
                try clear p11
                try clear p14
                try clear p9
                try clear q11
                try clear q14
                try clear q9
                obtain ⟨kq, x86_18, rfl, HA, HJ18, BK418, BK420, BK429, BK434, HB⟩ := hcut
                cases kq with
                | zero => exact absurd HA.out (by simp [subchannel_Decode.j0])
                | succ kj18 =>
                 have H := HA.out
                 clear HA
                 simp only [subchannel_Decode.j0] at H
                 by_cases c56 : x86_18 = true
                 · subst c56
                   have H1 : (some (0, 0, 0, 0, 0, 0, 0, 0, 0, 10)) = some (r1, r2, r3, r4, r5, r6, r7, r8, r9, r10) := by rw [if_pos rfl] at H; exact H
                   clear H
                   have H := H1
                   clear H1
                   simp only [Option.some.injEq, Prod.mk.injEq] at H
                   obtain ⟨rfl, rfl, rfl, rfl, rfl, rfl, rfl, rfl, rfl, rfl⟩ := H
                   have hnb57 := NB418_420.out
                   have hnc57 := NB420_418.out
                   have hnb58 := NB418_429.out
                   have hnc58 := NB429_418.out
                   have hnb59 := NB418_434.out
                   have hnc59 := NB434_418.out
                   have hcz60_0 : wc.cell? ⟨gb418, 0, none⟩ = some (.int .i64 0) := (blk_cell BK418.out 0).trans rfl
                   have hcz60_1 : wc.cell? ⟨gb418, 1, none⟩ = some (.int .i64 0) := (blk_cell BK418.out 1).trans rfl
                   have hcz60_2 : wc.cell? ⟨gb418, 2, none⟩ = some (.int .i64 0) := (blk_cell BK418.out 2).trans rfl
                   have hcz60_3 : wc.cell? ⟨gb418, 3, none⟩ = some (.int .i64 0) := (blk_cell BK418.out 3).trans rfl
                   have hcz60_4 : wc.cell? ⟨gb418, 4, none⟩ = some (.int .i64 0) := (blk_cell BK418.out 4).trans rfl
                   have hcz60_5 : wc.cell? ⟨gb418, 5, none⟩ = some (.int .i64 0) := (blk_cell BK418.out 5).trans rfl
                   have hcz60_6 : wc.cell? ⟨gb418, 6, none⟩ = some (.int .i64 0) := (blk_cell BK418.out 6).trans rfl
                   have hcz60_7 : wc.cell? ⟨gb418, 7, none⟩ = some (.int .i64 0) := (blk_cell BK418.out 7).trans rfl
                   have hcz60_8 : wc.cell? ⟨gb418, 8, none⟩ = some (.int .i64 0) := (blk_cell BK418.out 8).trans rfl
                   have hfz60_0 := blk_frozen BK418.out 0
                   have hfz60_1 := blk_frozen BK418.out 1
                   have hfz60_2 := blk_frozen BK418.out 2
                   have hfz60_3 := blk_frozen BK418.out 3
                   have hfz60_4 := blk_frozen BK418.out 4
                   have hfz60_5 := blk_frozen BK418.out 5
                   have hfz60_6 := blk_frozen BK418.out 6
                   have hfz60_7 := blk_frozen BK418.out 7
                   have hfz60_8 := blk_frozen BK418.out 8
                   go_wp2
                   refine bodyPost_ret (results_ct rfl _ _ gb418 27 #[.int .i64 0, .int .i64 0, .int .i64 0, .int .i64 0, .int .i64 0, .int .i64 0, .int .i64 0, .int .i64 0, .int .i64 0] (0, 0) _ rfl (by (with_reducible repeat (first | refine blk_drewN ?_ _ | refine blk_drew ?_ | refine blk_alloc ?_ _)); refine blk_put (cs := #[.int .i64 0, .int .i64 0, .int .i64 0, .int .i64 0, .int .i64 0, .int .i64 0, .int .i64 0, .int .i64 0, .int .i64 0]) ?_ 8 _ rfl; (with_reducible repeat (first | refine blk_drewN ?_ _ | refine blk_drew ?_ | refine blk_alloc ?_ _)); refine blk_put (cs := #[.int .i64 0, .int .i64 0, .int .i64 0, .int .i64 0, .int .i64 0, .int .i64 0, .int .i64 0, .int .i64 0, .int .i64 0]) ?_ 7 _ rfl; (with_reducible repeat (first | refine blk_drewN ?_ _ | refine blk_drew ?_ | refine blk_alloc ?_ _)); refine blk_put (cs := #[.int .i64 0, .int .i64 0, .int .i64 0, .int .i64 0, .int .i64 0, .int .i64 0, .int .i64 0, .int .i64 0, .int .i64 0]) ?_ 6 _ rfl; (with_reducible repeat (first | refine blk_drewN ?_ _ | refine blk_drew ?_ | refine blk_alloc ?_ _)); refine blk_put (cs := #[.int .i64 0, .int .i64 0, .int .i64 0, .int .i64 0, .int .i64 0, .int .i64 0, .int .i64 0, .int .i64 0, .int .i64 0]) ?_ 5 _ rfl; (with_reducible repeat (first | refine blk_drewN ?_ _ | refine blk_drew ?_ | refine blk_alloc ?_ _)); refine blk_put (cs := #[.int .i64 0, .int .i64 0, .int .i64 0, .int .i64 0, .int .i64 0, .int .i64 0, .int .i64 0, .int .i64 0, .int .i64 0]) ?_ 4 _ rfl; (with_reducible repeat (first | refine blk_drewN ?_ _ | refine blk_drew ?_ | refine blk_alloc ?_ _)); refine blk_put (cs := #[.int .i64 0, .int .i64 0, .int .i64 0, .int .i64 0, .int .i64 0, .int .i64 0, .int .i64 0, .int .i64 0, .int .i64 0]) ?_ 3 _ rfl; (with_reducible repeat (first | refine blk_drewN ?_ _ | refine blk_drew ?_ | refine blk_alloc ?_ _)); refine blk_put (cs := #[.int .i64 0, .int .i64 0, .int .i64 0, .int .i64 0, .int .i64 0, .int .i64 0, .int .i64 0, .int .i64 0, .int .i64 0]) ?_ 2 _ rfl; (with_reducible repeat (first | refine blk_drewN ?_ _ | refine blk_drew ?_ | refine blk_alloc ?_ _)); refine blk_put (cs := #[.int .i64 0, .int .i64 0, .int .i64 0, .int .i64 0, .int .i64 0, .int .i64 0, .int .i64 0, .int .i64 0, .int .i64 0]) ?_ 1 _ rfl; (with_reducible repeat (first | refine blk_drewN ?_ _ | refine blk_drew ?_ | refine blk_alloc ?_ _)); refine blk_put (cs := #[.int .i64 0, .int .i64 0, .int .i64 0, .int .i64 0, .int .i64 0, .int .i64 0, .int .i64 0, .int .i64 0, .int .i64 0]) ?_ 0 _ rfl; (with_reducible repeat (first | refine blk_drewN ?_ _ | refine blk_drew ?_ | refine blk_alloc ?_ _)); exact BK418.out) Try.underlying27 rfl (by kernel_rfl)) rfl ?_
                   exact ⟨by first | rfl | (simp [errW_none, errW_some] <;> rfl) | (simp [*, errW_none, errW_some] <;> rfl), by repeat (first | (with_reducible first | exact HB.out | apply below_alloc | apply pw_below_drewN | apply below_drew1 | refine below_set ?_ GE418.out | refine below_set ?_ GE420.out | refine below_set ?_ GE429.out | refine below_set ?_ GE434.out) | exact HB.out)⟩
                 · replace c56 := Bool.eq_false_iff.mpr c56
                   subst c56
                   have H1 : (some ((wrap64 ((bt a0 0) / 16)), t421, t423, t425, t426, t427, t430, t431, t432, 0)) = some (r1, r2, r3, r4, r5, r6, r7, r8, r9, r10) := by rw [if_neg (show ¬ (false = true) by decide)] at H; exact H
                   clear H
                   have H := H1
                   clear H1
                   simp only [Option.some.injEq, Prod.mk.injEq] at H
                   obtain ⟨rfl, rfl, rfl, rfl, rfl, rfl, rfl, rfl, rfl, rfl⟩ := H
                   have hnb61 := NB420_418.out
                   have hnc61 := NB418_420.out
                   have hnb62 := NB420_429.out
                   have hnc62 := NB429_420.out
                   have hnb63 := NB420_434.out
                   have hnc63 := NB434_420.out
                   have hcz64_0 : wc.cell? ⟨gb420, 0, none⟩ = some (.int .i64 (wrap64 ((bt a0 0) / 16))) := (blk_cell BK420.out 0).trans rfl
                   have hcz64_1 : wc.cell? ⟨gb420, 1, none⟩ = some (.int .i64 t421) := (blk_cell BK420.out 1).trans rfl
                   have hcz64_2 : wc.cell? ⟨gb420, 2, none⟩ = some (.int .i64 t423) := (blk_cell BK420.out 2).trans rfl
                   have hcz64_3 : wc.cell? ⟨gb420, 3, none⟩ = some (.int .i64 t425) := (blk_cell BK420.out 3).trans rfl
                   have hcz64_4 : wc.cell? ⟨gb420, 4, none⟩ = some (.int .i64 t426) := (blk_cell BK420.out 4).trans rfl
                   have hcz64_5 : wc.cell? ⟨gb420, 5, none⟩ = some (.int .i64 t427) := (blk_cell BK420.out 5).trans rfl
                   have hcz64_6 : wc.cell? ⟨gb420, 6, none⟩ = some (.int .i64 t430) := (blk_cell BK420.out 6).trans rfl
                   have hcz64_7 : wc.cell? ⟨gb420, 7, none⟩ = some (.int .i64 t431) := (blk_cell BK420.out 7).trans rfl
                   have hcz64_8 : wc.cell? ⟨gb420, 8, none⟩ = some (.int .i64 t432) := (blk_cell BK420.out 8).trans rfl
                   have hfz64_0 := blk_frozen BK420.out 0
                   have hfz64_1 := blk_frozen BK420.out 1
                   have hfz64_2 := blk_frozen BK420.out 2
                   have hfz64_3 := blk_frozen BK420.out 3
                   have hfz64_4 := blk_frozen BK420.out 4
                   have hfz64_5 := blk_frozen BK420.out 5
                   have hfz64_6 := blk_frozen BK420.out 6
                   have hfz64_7 := blk_frozen BK420.out 7
                   have hfz64_8 := blk_frozen BK420.out 8
                   have hnb65 := NB418_429.out
                   have hnc65 := NB429_418.out
                   have hnb66 := NB418_434.out
                   have hnc66 := NB434_418.out
                   have hcz67_0 : wc.cell? ⟨gb418, 0, none⟩ = some (.int .i64 0) := (blk_cell BK418.out 0).trans rfl
                   have hcz67_1 : wc.cell? ⟨gb418, 1, none⟩ = some (.int .i64 0) := (blk_cell BK418.out 1).trans rfl
                   have hcz67_2 : wc.cell? ⟨gb418, 2, none⟩ = some (.int .i64 0) := (blk_cell BK418.out 2).trans rfl
                   have hcz67_3 : wc.cell? ⟨gb418, 3, none⟩ = some (.int .i64 0) := (blk_cell BK418.out 3).trans rfl
                   have hcz67_4 : wc.cell? ⟨gb418, 4, none⟩ = some (.int .i64 0) := (blk_cell BK418.out 4).trans rfl
                   have hcz67_5 : wc.cell? ⟨gb418, 5, none⟩ = some (.int .i64 0) := (blk_cell BK418.out 5).trans rfl
                   have hcz67_6 : wc.cell? ⟨gb418, 6, none⟩ = some (.int .i64 0) := (blk_cell BK418.out 6).trans rfl
                   have hcz67_7 : wc.cell? ⟨gb418, 7, none⟩ = some (.int .i64 0) := (blk_cell BK418.out 7).trans rfl
                   have hcz67_8 : wc.cell? ⟨gb418, 8, none⟩ = some (.int .i64 0) := (blk_cell BK418.out 8).trans rfl
                   have hfz67_0 := blk_frozen BK418.out 0
                   have hfz67_1 := blk_frozen BK418.out 1
                   have hfz67_2 := blk_frozen BK418.out 2
                   have hfz67_3 := blk_frozen BK418.out 3
                   have hfz67_4 := blk_frozen BK418.out 4
                   have hfz67_5 := blk_frozen BK418.out 5
                   have hfz67_6 := blk_frozen BK418.out 6
                   have hfz67_7 := blk_frozen BK418.out 7
                   have hfz67_8 := blk_frozen BK418.out 8
                   go_wp2
                   refine bodyPost_ret (results_ct rfl _ _ gb418 27 #[.int .i64 (wrap64 ((bt a0 0) / 16)), .int .i64 t421, .int .i64 t423, .int .i64 t425, .int .i64 t426, .int .i64 t427, .int .i64 t430, .int .i64 t431, .int .i64 t432] (0, 0) _ rfl (by (with_reducible repeat (first | refine blk_drewN ?_ _ | refine blk_drew ?_ | refine blk_alloc ?_ _)); refine blk_put (cs := #[.int .i64 (wrap64 ((bt a0 0) / 16)), .int .i64 t421, .int .i64 t423, .int .i64 t425, .int .i64 t426, .int .i64 t427, .int .i64 t430, .int .i64 t431, .int .i64 0]) ?_ 8 _ rfl; (with_reducible repeat (first | refine blk_drewN ?_ _ | refine blk_drew ?_ | refine blk_alloc ?_ _)); refine blk_put (cs := #[.int .i64 (wrap64 ((bt a0 0) / 16)), .int .i64 t421, .int .i64 t423, .int .i64 t425, .int .i64 t426, .int .i64 t427, .int .i64 t430, .int .i64 0, .int .i64 0]) ?_ 7 _ rfl; (with_reducible repeat (first | refine blk_drewN ?_ _ | refine blk_drew ?_ | refine blk_alloc ?_ _)); refine blk_put (cs := #[.int .i64 (wrap64 ((bt a0 0) / 16)), .int .i64 t421, .int .i64 t423, .int .i64 t425, .int .i64 t426, .int .i64 t427, .int .i64 0, .int .i64 0, .int .i64 0]) ?_ 6 _ rfl; (with_reducible repeat (first | refine blk_drewN ?_ _ | refine blk_drew ?_ | refine blk_alloc ?_ _)); refine blk_put (cs := #[.int .i64 (wrap64 ((bt a0 0) / 16)), .int .i64 t421, .int .i64 t423, .int .i64 t425, .int .i64 t426, .int .i64 0, .int .i64 0, .int .i64 0, .int .i64 0]) ?_ 5 _ rfl; (with_reducible repeat (first | refine blk_drewN ?_ _ | refine blk_drew ?_ | refine blk_alloc ?_ _)); refine blk_put (cs := #[.int .i64 (wrap64 ((bt a0 0) / 16)), .int .i64 t421, .int .i64 t423, .int .i64 t425, .int .i64 0, .int .i64 0, .int .i64 0, .int .i64 0, .int .i64 0]) ?_ 4 _ rfl; (with_reducible repeat (first | refine blk_drewN ?_ _ | refine blk_drew ?_ | refine blk_alloc ?_ _)); refine blk_put (cs := #[.int .i64 (wrap64 ((bt a0 0) / 16)), .int .i64 t421, .int .i64 t423, .int .i64 0, .int .i64 0, .int .i64 0, .int .i64 0, .int .i64 0, .int .i64 0]) ?_ 3 _ rfl; (with_reducible repeat (first | refine blk_drewN ?_ _ | refine blk_drew ?_ | refine blk_alloc ?_ _)); refine blk_put (cs := #[.int .i64 (wrap64 ((bt a0 0) / 16)), .int .i64 t421, .int .i64 0, .int .i64 0, .int .i64 0, .int .i64 0, .int .i64 0, .int .i64 0, .int .i64 0]) ?_ 2 _ rfl; (with_reducible repeat (first | refine blk_drewN ?_ _ | refine blk_drew ?_ | refine blk_alloc ?_ _)); refine blk_put (cs := #[.int .i64 (wrap64 ((bt a0 0) / 16)), .int .i64 0, .int .i64 0, .int .i64 0, .int .i64 0, .int .i64 0, .int .i64 0, .int .i64 0, .int .i64 0]) ?_ 1 _ rfl; (with_reducible repeat (first | refine blk_drewN ?_ _ | refine blk_drew ?_ | refine blk_alloc ?_ _)); refine blk_put (cs := #[.int .i64 0, .int .i64 0, .int .i64 0, .int .i64 0, .int .i64 0, .int .i64 0, .int .i64 0, .int .i64 0, .int .i64 0]) ?_ 0 _ rfl; (with_reducible repeat (first | refine blk_drewN ?_ _ | refine blk_drew ?_ | refine blk_alloc ?_ _)); exact BK418.out) Try.underlying27 rfl (by kernel_rfl)) rfl ?_
                   exact ⟨by first | rfl | (simp [errW_none, errW_some] <;> rfl) | (simp [*, errW_none, errW_some] <;> rfl), by repeat (first | (with_reducible first | exact HB.out | apply below_alloc | apply pw_below_drewN | apply below_drew1 | refine below_set ?_ GE418.out | refine below_set ?_ GE420.out | refine below_set ?_ GE429.out | refine below_set ?_ GE434.out) | exact HB.out)⟩
             · rw [if_neg c13] at H
               exact absurd H (by simp)
           · rw [if_neg c10] at H
             exact absurd H (by simp)
         · rw [if_neg c8] at H
           exact absurd H (by simp)
       · rw [if_neg c7] at H
         have c7b0 : (t419.toList == (a0.extract 10 a0.size).toList) = false := beq_eq_false_iff_ne.mpr c7
         have c7b1 : (t419.toList != (a0.extract 10 a0.size).toList) = true := bne_iff_ne.mpr c7
         simp only [Option.some.injEq, Prod.mk.injEq] at H
         obtain ⟨rfl, rfl, rfl, rfl, rfl, rfl, rfl, rfl, rfl, rfl⟩ := H
         go_enter Try.func23, Try.ntmps23
         try go_wp2_with (first | ((with_reducible refine gate_dst (N := 2) rfl ?_); refine box_event ?hg (N := 2) ?hd (cs := #[.int .i64 0, .int .i64 0, .int .i64 0, .int .i64 0, .int .i64 0, .int .i64 0, .int .i64 0, .int .i64 0, .int .i64 0]) (t := 27) ?hr ?_; (case hd => rfl); (case hg => rfl); (case hr => first | (go_simp; done) | (go_simp; rfl)); intro gb418 hg w68 hbox hb; have n0_ := Aside0.mk (below_step (by repeat (first | (with_reducible first | exact HB.out | apply below_alloc | apply pw_below_drewN | apply below_drew1) | exact HB.out)) hb); have n1_ := Aside0.mk (hbox); have n2_ := Aside0.mk ((by rw [hg]; exact (below_size (by repeat (first | (with_reducible first | exact HB.out | apply below_alloc | apply pw_below_drewN | apply below_drew1) | exact HB.out))) : w.heap.size ≤ gb418)); have n3_ := Aside0.mk ((by rw [hg]; exact (below_size (by repeat (first | (with_reducible first | exact HB.out | apply below_alloc | apply pw_below_drewN | apply below_drew1) | exact HB.out))) : w.heap.size ≤ gb418)); clear HB; have HB := n0_; have BK418 := n1_; have GW418 := n2_; have GE418 := n3_; clear n0_ n1_ n2_ n3_; clear hb hbox hg))
         have n0_ := Aside0.mk (blk_drew BK418.out)
         have n1_ := Aside0.mk (below_drew1 HB.out)
         clear BK418
         clear HB
         have BK418 := n0_
         have HB := n1_
         clear n0_ n1_
         refine start_ (n := 7) (S := fun w' => True) (ds := []) #[false, false, false, false, false, false, false] (by kernel_rfl) rfl rfl trivial (fun hHeld => ?_)
         generalize w68.drew = w69 at BK418 HB hHeld ⊢
         refine pure_ (i := 0) (N := some 19) (v := ?_) (a' := ?_) (mS 7 1) rfl rfl (by kernel_rfl) (fun _ _ _ h => h) (Or.inl ⟨by rfl, ?_⟩) ?_ ?_
         rotate_left
         · intro w'
           go_simp
           with_reducible rfl
         rotate_left
         · simp only [Act.put, List.setIfInBounds_toArray, List.set_cons_zero, List.set_cons_succ, i64_w, i32_w]
           rfl
         refine pure_ (i := 1) (N := some 20) (v := ?_) (a' := ?_) (mS 7 3) rfl rfl (by kernel_rfl) (fun _ _ _ h => h) (Or.inl ⟨by rfl, ?_⟩) ?_ ?_
         rotate_left
         · intro w'
           go_simp
           with_reducible rfl
         rotate_left
         · simp only [Act.put, List.setIfInBounds_toArray, List.set_cons_zero, List.set_cons_succ, i64_w, i32_w]
           rfl
         refine pure_ (i := 3) (N := some 22) (v := ?_) (a' := ?_) (mS 7 11) rfl rfl (by kernel_rfl) (fun _ _ _ h => h) (Or.inl ⟨by rfl, ?_⟩) ?_ ?_
         rotate_left
         · intro w'
           go_simp
           with_reducible rfl
         rotate_left
         · simp only [Act.put, List.setIfInBounds_toArray, List.set_cons_zero, List.set_cons_succ, i64_w, i32_w]
           rfl
         refine pure_ (i := 4) (N := some 23) (v := ?_) (a' := ?_) (mS 7 27) rfl rfl (by kernel_rfl) (fun _ _ _ h => h) (Or.inl ⟨by rfl, ?_⟩) ?_ ?_
         rotate_left
         · intro w'
           go_simp
           with_reducible rfl
         rotate_left
         · simp only [Act.put, List.setIfInBounds_toArray, List.set_cons_zero, List.set_cons_succ, i64_w, i32_w]
           rfl
         refine one_ (i := 2) (N := some 21) (mS 7 31) rfl rfl (by kernel_rfl) (by decide) (fun K hK => ?_)
         refine goes_ Try.func43 (by kernel_rfl) rfl #[.string (a0.extract 0 10)] (by rfl) rfl rfl (by (try simp only [List.map_toArray, List.map_cons, List.map_nil]); first | done | rfl | (simp only [List.length_drop, List.length_take]; rfl)) ?_
         with_reducible refine (subchannel_check.calls (a0.extract 0 10) t419 _ A5.out).mono ?_
         rintro e w70 ⟨rfl, hb⟩
         refine ⟨_, rfl, ?_⟩
         have n0_ := Aside0.mk (blk_below (g := gb418) (o := .cells #[.int .i64 0, .int .i64 0, .int .i64 0, .int .i64 0, .int .i64 0, .int .i64 0, .int .i64 0, .int .i64 0, .int .i64 0] 27 (0, 0)) (by (with_reducible repeat (first | refine blk_drewN ?_ _ | refine blk_drew ?_ | refine blk_alloc ?_ _)); exact BK418.out) hb)
         have n1_ := Aside0.mk (below_step (by repeat (first | (with_reducible first | exact HB.out | apply below_alloc | apply pw_below_drewN | apply below_drew1 | refine below_set ?_ GE418.out) | exact HB.out)) hb)
         clear BK418
         clear HB
         have BK418 := n0_
         have HB := n1_
         clear n0_ n1_
         (try clear hb)
         (try clear hb2)
         (try clear hk)
         (try clear hi)
         refine hK.out _ _ trivial (fun hHeld => ?_)
         clear hK K
         refine norm_ (a' := ?_) ?_ ?_
         rotate_left
         · show Act.put _ (some 21) _ = _
           simp only [Act.put, List.setIfInBounds_toArray, List.set_cons_zero, List.set_cons_succ, i64_w, i32_w]
           rfl
         refine pure_ (i := 5) (N := some 24) (v := ?_) (a' := ?_) (mS 7 63) rfl rfl (by kernel_rfl) (fun _ _ _ h => h) (Or.inl ⟨by rfl, ?_⟩) ?_ ?_
         rotate_left
         · intro w'
           go_simp
           with_reducible rfl
         rotate_left
         · simp only [Act.put, List.setIfInBounds_toArray, List.set_cons_zero, List.set_cons_succ, i64_w, i32_w]
           rfl
         refine pure_ (i := 6) (N := some 18) (v := ?_) (a' := ?_) (mS 7 127) rfl rfl (by kernel_rfl) (fun _ _ _ h => h) (Or.inl ⟨by rfl, ?_⟩) ?_ ?_
         rotate_left
         · intro w'
           go_simp
           with_reducible rfl
         rotate_left
         · simp only [Act.put, List.setIfInBounds_toArray, List.set_cons_zero, List.set_cons_succ, i64_w, i32_w]
           rfl
         refine done_ (by kernel_rfl) ?_
         have hcz71_0 : w70.cell? ⟨gb418, 0, none⟩ = some (.int .i64 0) := (blk_cell BK418.out 0).trans rfl
         have hcz71_1 : w70.cell? ⟨gb418, 1, none⟩ = some (.int .i64 0) := (blk_cell BK418.out 1).trans rfl
         have hcz71_2 : w70.cell? ⟨gb418, 2, none⟩ = some (.int .i64 0) := (blk_cell BK418.out 2).trans rfl
         have hcz71_3 : w70.cell? ⟨gb418, 3, none⟩ = some (.int .i64 0) := (blk_cell BK418.out 3).trans rfl
         have hcz71_4 : w70.cell? ⟨gb418, 4, none⟩ = some (.int .i64 0) := (blk_cell BK418.out 4).trans rfl
         have hcz71_5 : w70.cell? ⟨gb418, 5, none⟩ = some (.int .i64 0) := (blk_cell BK418.out 5).trans rfl
         have hcz71_6 : w70.cell? ⟨gb418, 6, none⟩ = some (.int .i64 0) := (blk_cell BK418.out 6).trans rfl
         have hcz71_7 : w70.cell? ⟨gb418, 7, none⟩ = some (.int .i64 0) := (blk_cell BK418.out 7).trans rfl
         have hcz71_8 : w70.cell? ⟨gb418, 8, none⟩ = some (.int .i64 0) := (blk_cell BK418.out 8).trans rfl
         have hfz71_0 := blk_frozen BK418.out 0
         have hfz71_1 := blk_frozen BK418.out 1
         have hfz71_2 := blk_frozen BK418.out 2
         have hfz71_3 := blk_frozen BK418.out 3
         have hfz71_4 := blk_frozen BK418.out 4
         have hfz71_5 := blk_frozen BK418.out 5
         have hfz71_6 := blk_frozen BK418.out 6
         have hfz71_7 := blk_frozen BK418.out 7
         have hfz71_8 := blk_frozen BK418.out 8
         try go_wp2
         refine bodyPost_ret (results_ct rfl _ _ gb418 27 #[.int .i64 0, .int .i64 0, .int .i64 0, .int .i64 0, .int .i64 0, .int .i64 0, .int .i64 0, .int .i64 0, .int .i64 0] (0, 0) _ rfl (by (with_reducible repeat (first | refine blk_drewN ?_ _ | refine blk_drew ?_ | refine blk_alloc ?_ _)); refine blk_put (cs := #[.int .i64 0, .int .i64 0, .int .i64 0, .int .i64 0, .int .i64 0, .int .i64 0, .int .i64 0, .int .i64 0, .int .i64 0]) ?_ 8 _ rfl; (with_reducible repeat (first | refine blk_drewN ?_ _ | refine blk_drew ?_ | refine blk_alloc ?_ _)); refine blk_put (cs := #[.int .i64 0, .int .i64 0, .int .i64 0, .int .i64 0, .int .i64 0, .int .i64 0, .int .i64 0, .int .i64 0, .int .i64 0]) ?_ 7 _ rfl; (with_reducible repeat (first | refine blk_drewN ?_ _ | refine blk_drew ?_ | refine blk_alloc ?_ _)); refine blk_put (cs := #[.int .i64 0, .int .i64 0, .int .i64 0, .int .i64 0, .int .i64 0, .int .i64 0, .int .i64 0, .int .i64 0, .int .i64 0]) ?_ 6 _ rfl; (with_reducible repeat (first | refine blk_drewN ?_ _ | refine blk_drew ?_ | refine blk_alloc ?_ _)); refine blk_put (cs := #[.int .i64 0, .int .i64 0, .int .i64 0, .int .i64 0, .int .i64 0, .int .i64 0, .int .i64 0, .int .i64 0, .int .i64 0]) ?_ 5 _ rfl; (with_reducible repeat (first | refine blk_drewN ?_ _ | refine blk_drew ?_ | refine blk_alloc ?_ _)); refine blk_put (cs := #[.int .i64 0, .int .i64 0, .int .i64 0, .int .i64 0, .int .i64 0, .int .i64 0, .int .i64 0, .int .i64 0, .int .i64 0]) ?_ 4 _ rfl; (with_reducible repeat (first | refine blk_drewN ?_ _ | refine blk_drew ?_ | refine blk_alloc ?_ _)); refine blk_put (cs := #[.int .i64 0, .int .i64 0, .int .i64 0, .int .i64 0, .int .i64 0, .int .i64 0, .int .i64 0, .int .i64 0, .int .i64 0]) ?_ 3 _ rfl; (with_reducible repeat (first | refine blk_drewN ?_ _ | refine blk_drew ?_ | refine blk_alloc ?_ _)); refine blk_put (cs := #[.int .i64 0, .int .i64 0, .int .i64 0, .int .i64 0, .int .i64 0, .int .i64 0, .int .i64 0, .int .i64 0, .int .i64 0]) ?_ 2 _ rfl; (with_reducible repeat (first | refine blk_drewN ?_ _ | refine blk_drew ?_ | refine blk_alloc ?_ _)); refine blk_put (cs := #[.int .i64 0, .int .i64 0, .int .i64 0, .int .i64 0, .int .i64 0, .int .i64 0, .int .i64 0, .int .i64 0, .int .i64 0]) ?_ 1 _ rfl; (with_reducible repeat (first | refine blk_drewN ?_ _ | refine blk_drew ?_ | refine blk_alloc ?_ _)); refine blk_put (cs := #[.int .i64 0, .int .i64 0, .int .i64 0, .int .i64 0, .int .i64 0, .int .i64 0, .int .i64 0, .int .i64 0, .int .i64 0]) ?_ 0 _ rfl; (with_reducible repeat (first | refine blk_drewN ?_ _ | refine blk_drew ?_ | refine blk_alloc ?_ _)); exact BK418.out) Try.underlying27 rfl (by kernel_rfl)) rfl ?_
         exact ⟨by first | rfl | (simp [errW_none, errW_some] <;> rfl) | (simp [*, errW_none, errW_some] <;> rfl), by repeat (first | (with_reducible first | exact HB.out | apply below_alloc | apply pw_below_drewN | apply below_drew1 | refine below_set ?_ GE418.out) | exact HB.out)⟩
     · rw [if_neg c4] at H
       exact absurd H (by simp)
   · rw [if_neg c3] at H
     exact absurd H (by simp)
 · rw [if_neg c2] at H
   have c2b0 : ((a0.size : Int) == 12) = false := beq_eq_false_iff_ne.mpr c2
   have c2b1 : ((a0.size : Int) != 12) = true := bne_iff_ne.mpr c2
   simp only [Option.some.injEq, Prod.mk.injEq] at H
   obtain ⟨rfl, rfl, rfl, rfl, rfl, rfl, rfl, rfl, rfl, rfl⟩ := H
   go_enter Try.func23, Try.ntmps23
   go_wp2_with (first | ((with_reducible refine gate_dst (N := 2) rfl ?_); refine box_event ?hg (N := 2) ?hd (cs := #[.int .i64 0, .int .i64 0, .int .i64 0, .int .i64 0, .int .i64 0, .int .i64 0, .int .i64 0, .int .i64 0, .int .i64 0]) (t := 27) ?hr ?_; (case hd => rfl); (case hg => rfl); (case hr => first | (go_simp; done) | (go_simp; rfl)); intro gb418 hg w72 hbox hb; have n0_ := Aside0.mk (below_step (by repeat (first | (with_reducible first | exact HB.out | apply below_alloc | apply pw_below_drewN | apply below_drew1) | exact HB.out)) hb); have n1_ := Aside0.mk (hbox); have n2_ := Aside0.mk ((by rw [hg]; exact (below_size (by repeat (first | (with_reducible first | exact HB.out | apply below_alloc | apply pw_below_drewN | apply below_drew1) | exact HB.out))) : w.heap.size ≤ gb418)); have n3_ := Aside0.mk ((by rw [hg]; exact (below_size (by repeat (first | (with_reducible first | exact HB.out | apply below_alloc | apply pw_below_drewN | apply below_drew1) | exact HB.out))) : w.heap.size ≤ gb418)); clear HB; have HB := n0_; have BK418 := n1_; have GW418 := n2_; have GE418 := n3_; clear n0_ n1_ n2_ n3_; clear hb hbox hg; have hcz73_0 : w72.cell? ⟨gb418, 0, none⟩ = some (.int .i64 0) := (blk_cell BK418.out 0).trans rfl; have hcz73_1 : w72.cell? ⟨gb418, 1, none⟩ = some (.int .i64 0) := (blk_cell BK418.out 1).trans rfl; have hcz73_2 : w72.cell? ⟨gb418, 2, none⟩ = some (.int .i64 0) := (blk_cell BK418.out 2).trans rfl; have hcz73_3 : w72.cell? ⟨gb418, 3, none⟩ = some (.int .i64 0) := (blk_cell BK418.out 3).trans rfl; have hcz73_4 : w72.cell? ⟨gb418, 4, none⟩ = some (.int .i64 0) := (blk_cell BK418.out 4).trans rfl; have hcz73_5 : w72.cell? ⟨gb418, 5, none⟩ = some (.int .i64 0) := (blk_cell BK418.out 5).trans rfl; have hcz73_6 : w72.cell? ⟨gb418, 6, none⟩ = some (.int .i64 0) := (blk_cell BK418.out 6).trans rfl; have hcz73_7 : w72.cell? ⟨gb418, 7, none⟩ = some (.int .i64 0) := (blk_cell BK418.out 7).trans rfl; have hcz73_8 : w72.cell? ⟨gb418, 8, none⟩ = some (.int .i64 0) := (blk_cell BK418.out 8).trans rfl; have hfz73_0 := blk_frozen BK418.out 0; have hfz73_1 := blk_frozen BK418.out 1; have hfz73_2 := blk_frozen BK418.out 2; have hfz73_3 := blk_frozen BK418.out 3; have hfz73_4 := blk_frozen BK418.out 4; have hfz73_5 := blk_frozen BK418.out 5; have hfz73_6 := blk_frozen BK418.out 6; have hfz73_7 := blk_frozen BK418.out 7; have hfz73_8 := blk_frozen BK418.out 8))
   refine bodyPost_ret (results_ct rfl _ _ gb418 27 #[.int .i64 0, .int .i64 0, .int .i64 0, .int .i64 0, .int .i64 0, .int .i64 0, .int .i64 0, .int .i64 0, .int .i64 0] (0, 0) _ rfl (by (with_reducible repeat (first | refine blk_drewN ?_ _ | refine blk_drew ?_ | refine blk_alloc ?_ _)); refine blk_put (cs := #[.int .i64 0, .int .i64 0, .int .i64 0, .int .i64 0, .int .i64 0, .int .i64 0, .int .i64 0, .int .i64 0, .int .i64 0]) ?_ 8 _ rfl; (with_reducible repeat (first | refine blk_drewN ?_ _ | refine blk_drew ?_ | refine blk_alloc ?_ _)); refine blk_put (cs := #[.int .i64 0, .int .i64 0, .int .i64 0, .int .i64 0, .int .i64 0, .int .i64 0, .int .i64 0, .int .i64 0, .int .i64 0]) ?_ 7 _ rfl; (with_reducible repeat (first | refine blk_drewN ?_ _ | refine blk_drew ?_ | refine blk_alloc ?_ _)); refine blk_put (cs := #[.int .i64 0, .int .i64 0, .int .i64 0, .int .i64 0, .int .i64 0, .int .i64 0, .int .i64 0, .int .i64 0, .int .i64 0]) ?_ 6 _ rfl; (with_reducible repeat (first | refine blk_drewN ?_ _ | refine blk_drew ?_ | refine blk_alloc ?_ _)); refine blk_put (cs := #[.int .i64 0, .int .i64 0, .int .i64 0, .int .i64 0, .int .i64 0, .int .i64 0, .int .i64 0, .int .i64 0, .int .i64 0]) ?_ 5 _ rfl; (with_reducible repeat (first | refine blk_drewN ?_ _ | refine blk_drew ?_ | refine blk_alloc ?_ _)); refine blk_put (cs := #[.int .i64 0, .int .i64 0, .int .i64 0, .int .i64 0, .int .i64 0, .int .i64 0, .int .i64 0, .int .i64 0, .int .i64 0]) ?_ 4 _ rfl; (with_reducible repeat (first | refine blk_drewN ?_ _ | refine blk_drew ?_ | refine blk_alloc ?_ _)); refine blk_put (cs := #[.int .i64 0, .int .i64 0, .int .i64 0, .int .i64 0, .int .i64 0, .int .i64 0, .int .i64 0, .int .i64 0, .int .i64 0]) ?_ 3 _ rfl; (with_reducible repeat (first | refine blk_drewN ?_ _ | refine blk_drew ?_ | refine blk_alloc ?_ _)); refine blk_put (cs := #[.int .i64 0, .int .i64 0, .int .i64 0, .int .i64 0, .int .i64 0, .int .i64 0, .int .i64 0, .int .i64 0, .int .i64 0]) ?_ 2 _ rfl; (with_reducible repeat (first | refine blk_drewN ?_ _ | refine blk_drew ?_ | refine blk_alloc ?_ _)); refine blk_put (cs := #[.int .i64 0, .int .i64 0, .int .i64 0, .int .i64 0, .int .i64 0, .int .i64 0, .int .i64 0, .int .i64 0, .int .i64 0]) ?_ 1 _ rfl; (with_reducible repeat (first | refine blk_drewN ?_ _ | refine blk_drew ?_ | refine blk_alloc ?_ _)); refine blk_put (cs := #[.int .i64 0, .int .i64 0, .int .i64 0, .int .i64 0, .int .i64 0, .int .i64 0, .int .i64 0, .int .i64 0, .int .i64 0]) ?_ 0 _ rfl; (with_reducible repeat (first | refine blk_drewN ?_ _ | refine blk_drew ?_ | refine blk_alloc ?_ _)); exact BK418.out) Try.underlying27 rfl (by kernel_rfl)) rfl ?_
   exact ⟨by first | rfl | (simp [errW_none, errW_some] <;> rfl) | (simp [*, errW_none, errW_some] <;> rfl), by repeat (first | (with_reducible first | exact HB.out | apply below_alloc | apply pw_below_drewN | apply below_drew1 | refine below_set ?_ GE418.out) | exact HB.out)⟩
end Go.Proofs.Ytpmkibggmkibeaa.G
namespace Go.Proofs.Ytpmkibggmkibeaa.G
open Go.RowKit Go.Proofs.YtpmkibggmkibeaaW.PrintWords Go.Proofs.YtpmkibggmkibeaaW.PrintLast Go.Proofs.YtpmkibggmkibeaaW.PrintMore
attribute [local go_sem] max2_int min2_int max_two min_two max_three min_three max_four min_four   -- for this text's walks alone
set_option linter.unusedVariables false
set_option linter.unusedSimpArgs false
attribute [local go_sem high] eqA27
def masterdisclaw10_SubchannelFrames.f (k : Nat) (a0_0 : Int) (a0_1 : Int) (a0_2 : Int) (a0_3 : Int) (a0_4 : Int) (a0_5 : Int) (a0_6 : Int) (a0_7 : Int) (a0_8 : Int) (a1 : ByteArray) : Option (Bool) := (masterdisclaw10_awake.f).bind fun t466 => (if t466 = true then (if (a1.size : Int) > 40 then (some true) else ((subchannel_Encode.f a0_0 a0_1 a0_2 a0_3 a0_4 a0_5 a0_6 a0_7 a0_8).bind fun bt467 => ((masterdiscref10_Encode.f k a0_0 a0_1 a0_2 a0_3 a0_4 a0_5 a0_6 a0_7 a0_8).bind fun bt469 => ((subchannel_Decode.f k a1).bind fun bt471 => ((masterdiscref10_Decode.f k a1).bind fun bt482 => (if bt467.1.toList = bt469.1.toList then (if bt467.2 = bt469.2 then (if (bt471.1 == bt482.1 && (bt471.2.1 == bt482.2.1 && (bt471.2.2.1 == bt482.2.2.1 && ((bt471.2.2.2.1 == bt482.2.2.2.1 && (bt471.2.2.2.2.1 == bt482.2.2.2.2.1 && (bt471.2.2.2.2.2.1 == bt482.2.2.2.2.2.1))) && ((bt471.2.2.2.2.2.2.1 == bt482.2.2.2.2.2.2.1 && (bt471.2.2.2.2.2.2.2.1 == bt482.2.2.2.2.2.2.2.1 && (bt471.2.2.2.2.2.2.2.2.1 == bt482.2.2.2.2.2.2.2.2.1)))))))) = true then (some (bt471.2.2.2.2.2.2.2.2.2 == bt482.2.2.2.2.2.2.2.2.2)) else (none)) else (none)) else (none))))))) else (none))
theorem masterdisclaw10_SubchannelFrames.mono : ∀ a0 a1 a2 a3 a4 a5 a6 a7 a8 a9 k, LeO (masterdisclaw10_SubchannelFrames.f k a0 a1 a2 a3 a4 a5 a6 a7 a8 a9) (masterdisclaw10_SubchannelFrames.f (k + 1) a0 a1 a2 a3 a4 a5 a6 a7 a8 a9) := by
 intro a0 a1 a2 a3 a4 a5 a6 a7 a8 a9 k
 unfold masterdisclaw10_SubchannelFrames.f
 repeat' first
  | (with_reducible exact masterdiscref10_Decode.mono _ _)
  | (with_reducible exact masterdiscref10_Encode.mono _ _ _ _ _ _ _ _ _ _)
  | (with_reducible exact subchannel_Decode.mono _ _)
  | (with_reducible exact LeO.refl _)
  | (with_reducible exact LeO.none _)
  | (with_reducible refine LeO.ite ?_ ?_)
  | (with_reducible refine LeO.bind ?_ (fun _ => ?_))
  | exact masterdiscref10_Decode.mono _ _
  | exact masterdiscref10_Encode.mono _ _ _ _ _ _ _ _ _ _
  | exact subchannel_Decode.mono _ _
  | exact LeO.none _
  | refine LeO.ite ?_ ?_
  | refine LeO.bind ?_ (fun _ => ?_)
set_option maxHeartbeats 8000000 in
set_option maxRecDepth 100000 in
theorem masterdisclaw10_SubchannelFrames.calls (k : Nat) (a0_0 : Int) (a0_1 : Int) (a0_2 : Int) (a0_3 : Int) (a0_4 : Int) (a0_5 : Int) (a0_6 : Int) (a0_7 : Int) (a0_8 : Int) (a1 : ByteArray) (r : Bool) (w : World) (h : masterdisclaw10_SubchannelFrames.f k a0_0 a0_1 a0_2 a0_3 a0_4 a0_5 a0_6 a0_7 a0_8 a1 = some r) :
 Calls Try.prog 6 #[.agg #[.int .i64 a0_0, .int .i64 a0_1, .int .i64 a0_2, .int .i64 a0_3, .int .i64 a0_4, .int .i64 a0_5, .int .i64 a0_6, .int .i64 a0_7, .int .i64 a0_8], .string a1] w fun e w' => e = .returned (.bool r) ∧ Below w.heap.size w w' := by
 have hu27 := Try.underlying27
 have HB := Aside0.mk (Below.refl w.heap.size w)
 have H : ((masterdisclaw10_awake.f).bind fun t466 => (if t466 = true then (if (a1.size : Int) > 40 then (some true) else ((subchannel_Encode.f a0_0 a0_1 a0_2 a0_3 a0_4 a0_5 a0_6 a0_7 a0_8).bind fun bt467 => ((masterdiscref10_Encode.f k a0_0 a0_1 a0_2 a0_3 a0_4 a0_5 a0_6 a0_7 a0_8).bind fun bt469 => ((subchannel_Decode.f k a1).bind fun bt471 => ((masterdiscref10_Decode.f k a1).bind fun bt482 => (if bt467.1.toList = bt469.1.toList then (if bt467.2 = bt469.2 then (if (bt471.1 == bt482.1 && (bt471.2.1 == bt482.2.1 && (bt471.2.2.1 == bt482.2.2.1 && ((bt471.2.2.2.1 == bt482.2.2.2.1 && (bt471.2.2.2.2.1 == bt482.2.2.2.2.1 && (bt471.2.2.2.2.2.1 == bt482.2.2.2.2.2.1))) && ((bt471.2.2.2.2.2.2.1 == bt482.2.2.2.2.2.2.1 && (bt471.2.2.2.2.2.2.2.1 == bt482.2.2.2.2.2.2.2.1 && (bt471.2.2.2.2.2.2.2.2.1 == bt482.2.2.2.2.2.2.2.2.1)))))))) = true then (some (bt471.2.2.2.2.2.2.2.2.2 == bt482.2.2.2.2.2.2.2.2.2)) else (none)) else (none)) else (none))))))) else (none))) = some r := h
 clear h
 replace H := Option.bind_eq_some_iff.mp H
 obtain ⟨t466, A30, H⟩ := H
 replace H : (if t466 = true then (if (a1.size : Int) > 40 then (some true) else ((subchannel_Encode.f a0_0 a0_1 a0_2 a0_3 a0_4 a0_5 a0_6 a0_7 a0_8).bind fun bt467 => ((masterdiscref10_Encode.f k a0_0 a0_1 a0_2 a0_3 a0_4 a0_5 a0_6 a0_7 a0_8).bind fun bt469 => ((subchannel_Decode.f k a1).bind fun bt471 => ((masterdiscref10_Decode.f k a1).bind fun bt482 => (if bt467.1.toList = bt469.1.toList then (if bt467.2 = bt469.2 then (if (bt471.1 == bt482.1 && (bt471.2.1 == bt482.2.1 && (bt471.2.2.1 == bt482.2.2.1 && ((bt471.2.2.2.1 == bt482.2.2.2.1 && (bt471.2.2.2.2.1 == bt482.2.2.2.2.1 && (bt471.2.2.2.2.2.1 == bt482.2.2.2.2.2.1))) && ((bt471.2.2.2.2.2.2.1 == bt482.2.2.2.2.2.2.1 && (bt471.2.2.2.2.2.2.2.1 == bt482.2.2.2.2.2.2.2.1 && (bt471.2.2.2.2.2.2.2.2.1 == bt482.2.2.2.2.2.2.2.2.1)))))))) = true then (some (bt471.2.2.2.2.2.2.2.2.2 == bt482.2.2.2.2.2.2.2.2.2)) else (none)) else (none)) else (none))))))) else (none)) = some r := H
 have A3 := Aside0.mk A30
 clear A30
 by_cases c4 : t466 = true
 · subst c4
   have H1 : (if (a1.size : Int) > 40 then (some true) else ((subchannel_Encode.f a0_0 a0_1 a0_2 a0_3 a0_4 a0_5 a0_6 a0_7 a0_8).bind fun bt467 => ((masterdiscref10_Encode.f k a0_0 a0_1 a0_2 a0_3 a0_4 a0_5 a0_6 a0_7 a0_8).bind fun bt469 => ((subchannel_Decode.f k a1).bind fun bt471 => ((masterdiscref10_Decode.f k a1).bind fun bt482 => (if bt467.1.toList = bt469.1.toList then (if bt467.2 = bt469.2 then (if (bt471.1 == bt482.1 && (bt471.2.1 == bt482.2.1 && (bt471.2.2.1 == bt482.2.2.1 && ((bt471.2.2.2.1 == bt482.2.2.2.1 && (bt471.2.2.2.2.1 == bt482.2.2.2.2.1 && (bt471.2.2.2.2.2.1 == bt482.2.2.2.2.2.1))) && ((bt471.2.2.2.2.2.2.1 == bt482.2.2.2.2.2.2.1 && (bt471.2.2.2.2.2.2.2.1 == bt482.2.2.2.2.2.2.2.1 && (bt471.2.2.2.2.2.2.2.2.1 == bt482.2.2.2.2.2.2.2.2.1)))))))) = true then (some (bt471.2.2.2.2.2.2.2.2.2 == bt482.2.2.2.2.2.2.2.2.2)) else (none)) else (none)) else (none))))))) = some r := by rw [if_pos rfl] at H; exact H
   clear H
   have H := H1
   clear H1
   by_cases c5 : (a1.size : Int) > 40
   · rw [if_pos c5] at H
     have c5b0 : decide (40 < (a1.size : Int)) = true := decide_eq_true c5
     have c5b1 : decide (40 < a1.size) = true := decide_eq_true (by omega)
     clear c5
     obtain rfl := Option.some.inj H
     go_enter Try.func6, Try.ntmps6
     go_wp2_with (first | ((with_reducible refine gate_dst (N := 2) rfl ?_); refine box_event ?hg (N := 2) ?hd (cs := #[.int .i64 a0_0, .int .i64 a0_1, .int .i64 a0_2, .int .i64 a0_3, .int .i64 a0_4, .int .i64 a0_5, .int .i64 a0_6, .int .i64 a0_7, .int .i64 a0_8]) (t := 27) ?hr ?_; (case hd => rfl); (case hg => rfl); (case hr => first | (go_simp; done) | (go_simp; rfl)); intro gb465 hg w6 hbox hb; have n0_ := Aside0.mk (below_step (by repeat (first | (with_reducible first | exact HB.out | apply below_alloc | apply pw_below_drewN | apply below_drew1) | exact HB.out)) hb); have n1_ := Aside0.mk (hbox); have n2_ := Aside0.mk ((by rw [hg]; exact (below_size (by repeat (first | (with_reducible first | exact HB.out | apply below_alloc | apply pw_below_drewN | apply below_drew1) | exact HB.out))) : w.heap.size ≤ gb465)); have n3_ := Aside0.mk ((by rw [hg]; exact (below_size (by repeat (first | (with_reducible first | exact HB.out | apply below_alloc | apply pw_below_drewN | apply below_drew1) | exact HB.out))) : w.heap.size ≤ gb465)); clear HB; have HB := n0_; have BK465 := n1_; have GW465 := n2_; have GE465 := n3_; clear n0_ n1_ n2_ n3_; clear hb hbox hg) | ((with_reducible refine gate_callee (f := 10) rfl ?_); refine goesL_ (some 13) rfl rfl Try.func10 (by kernel_rfl) rfl #[] rfl (by (try simp only [List.map_toArray, List.map_cons, List.map_nil]); first | done | rfl | (simp only [List.length_drop, List.length_take]; rfl)) ?_; (with_reducible refine (masterdisclaw10_awake.calls  true _ A3.out).mono ?_); rintro e w7 ⟨rfl, hb⟩; refine ⟨_, rfl, ?_⟩; have n0_ := Aside0.mk (blk_below (g := gb465) (o := .cells #[.int .i64 a0_0, .int .i64 a0_1, .int .i64 a0_2, .int .i64 a0_3, .int .i64 a0_4, .int .i64 a0_5, .int .i64 a0_6, .int .i64 a0_7, .int .i64 a0_8] 27 (0, 0)) (by (with_reducible repeat (first | refine blk_drewN ?_ _ | refine blk_drew ?_ | refine blk_alloc ?_ _)); exact BK465.out) hb); have n1_ := Aside0.mk (below_step (by repeat (first | (with_reducible first | exact HB.out | apply below_alloc | apply pw_below_drewN | apply below_drew1 | refine below_set ?_ GE465.out) | exact HB.out)) hb); clear BK465; clear HB; have BK465 := n0_; have HB := n1_; clear n0_ n1_; (try clear hb); (try clear hb2); (try clear hk); (try clear hi)))
     go_ret
     exact ⟨by first | rfl | (simp [errW_none, errW_some] <;> rfl) | (simp [*, errW_none, errW_some] <;> rfl), by repeat (first | (with_reducible first | exact HB.out | apply below_alloc | apply pw_below_drewN | apply below_drew1 | refine below_set ?_ GE465.out) | exact HB.out)⟩
   · rw [if_neg c5] at H
     have c5b0 : decide (40 < (a1.size : Int)) = false := decide_eq_false c5
     have c5b1 : decide (40 < a1.size) = false := decide_eq_false (by omega)
     clear c5
     replace H := Option.bind_eq_some_iff.mp H
     obtain ⟨⟨t467, t468⟩, A80, H⟩ := H
     replace H : ((masterdiscref10_Encode.f k a0_0 a0_1 a0_2 a0_3 a0_4 a0_5 a0_6 a0_7 a0_8).bind fun bt469 => ((subchannel_Decode.f k a1).bind fun bt471 => ((masterdiscref10_Decode.f k a1).bind fun bt482 => (if t467.toList = bt469.1.toList then (if t468 = bt469.2 then (if (bt471.1 == bt482.1 && (bt471.2.1 == bt482.2.1 && (bt471.2.2.1 == bt482.2.2.1 && ((bt471.2.2.2.1 == bt482.2.2.2.1 && (bt471.2.2.2.2.1 == bt482.2.2.2.2.1 && (bt471.2.2.2.2.2.1 == bt482.2.2.2.2.2.1))) && ((bt471.2.2.2.2.2.2.1 == bt482.2.2.2.2.2.2.1 && (bt471.2.2.2.2.2.2.2.1 == bt482.2.2.2.2.2.2.2.1 && (bt471.2.2.2.2.2.2.2.2.1 == bt482.2.2.2.2.2.2.2.2.1)))))))) = true then (some (bt471.2.2.2.2.2.2.2.2.2 == bt482.2.2.2.2.2.2.2.2.2)) else (none)) else (none)) else (none))))) = some r := H
     have A8 := Aside0.mk A80
     clear A80
     replace H := Option.bind_eq_some_iff.mp H
     obtain ⟨⟨t469, t470⟩, A90, H⟩ := H
     replace H : ((subchannel_Decode.f k a1).bind fun bt471 => ((masterdiscref10_Decode.f k a1).bind fun bt482 => (if t467.toList = t469.toList then (if t468 = t470 then (if (bt471.1 == bt482.1 && (bt471.2.1 == bt482.2.1 && (bt471.2.2.1 == bt482.2.2.1 && ((bt471.2.2.2.1 == bt482.2.2.2.1 && (bt471.2.2.2.2.1 == bt482.2.2.2.2.1 && (bt471.2.2.2.2.2.1 == bt482.2.2.2.2.2.1))) && ((bt471.2.2.2.2.2.2.1 == bt482.2.2.2.2.2.2.1 && (bt471.2.2.2.2.2.2.2.1 == bt482.2.2.2.2.2.2.2.1 && (bt471.2.2.2.2.2.2.2.2.1 == bt482.2.2.2.2.2.2.2.2.1)))))))) = true then (some (bt471.2.2.2.2.2.2.2.2.2 == bt482.2.2.2.2.2.2.2.2.2)) else (none)) else (none)) else (none)))) = some r := H
     have A9 := Aside0.mk A90
     clear A90
     replace H := Option.bind_eq_some_iff.mp H
     obtain ⟨⟨t471, t472, t473, t474, t475, t476, t477, t478, t479, t480⟩, A100, H⟩ := H
     replace H : ((masterdiscref10_Decode.f k a1).bind fun bt482 => (if t467.toList = t469.toList then (if t468 = t470 then (if (t471 == bt482.1 && (t472 == bt482.2.1 && (t473 == bt482.2.2.1 && ((t474 == bt482.2.2.2.1 && (t475 == bt482.2.2.2.2.1 && (t476 == bt482.2.2.2.2.2.1))) && ((t477 == bt482.2.2.2.2.2.2.1 && (t478 == bt482.2.2.2.2.2.2.2.1 && (t479 == bt482.2.2.2.2.2.2.2.2.1)))))))) = true then (some (t480 == bt482.2.2.2.2.2.2.2.2.2)) else (none)) else (none)) else (none))) = some r := H
     have A10 := Aside0.mk A100
     clear A100
     replace H := Option.bind_eq_some_iff.mp H
     obtain ⟨⟨t482, t483, t484, t485, t486, t487, t488, t489, t490, t491⟩, A110, H⟩ := H
     replace H : (if t467.toList = t469.toList then (if t468 = t470 then (if (t471 == t482 && (t472 == t483 && (t473 == t484 && ((t474 == t485 && (t475 == t486 && (t476 == t487))) && ((t477 == t488 && (t478 == t489 && (t479 == t490)))))))) = true then (some (t480 == t491)) else (none)) else (none)) else (none)) = some r := H
     have A11 := Aside0.mk A110
     clear A110
     by_cases c12 : t467.toList = t469.toList
     · rw [if_pos c12] at H
       have c12b0 : (t467.toList == t469.toList) = true := beq_iff_eq.mpr c12
       have c12b1 : (t467.toList != t469.toList) = false := bne_eq_false_iff_eq.mpr c12
       clear c12
       by_cases c13 : t468 = t470
       · rw [if_pos c13] at H
         have c13b0 : (t468 == t470) = true := beq_iff_eq.mpr c13
         have c13b1 : (t468 != t470) = false := bne_eq_false_iff_eq.mpr c13
         clear c13
         by_cases c14 : (t471 == t482 && (t472 == t483 && (t473 == t484 && ((t474 == t485 && (t475 == t486 && (t476 == t487))) && ((t477 == t488 && (t478 == t489 && (t479 == t490)))))))) = true
         · rw [if_pos c14] at H
           have c14b0 : (t471 == t482 && (t472 == t483 && (t473 == t484 && ((t474 == t485 && (t475 == t486 && (t476 == t487))) && ((t477 == t488 && (t478 == t489 && (t479 == t490)))))))) = true := c14
           (try (have c14b1 : decide (t471 = t482 && (t472 == t483 && (t473 == t484 && ((t474 == t485 && (t475 == t486 && (t476 == t487))) && ((t477 == t488 && (t478 == t489 && (t479 == t490)))))))) = true := by simpa using c14))
           (try (have c14b2 : (t471 == t482 && (t472 == t483 && (t473 == t484 && ((t474 == t485 && (t475 == t486 && (t476 == t487))) && ((t477 == t488 && (t478 == t489 && (t479 == t490)))))))) = true := by simpa using c14))
           clear c14
           obtain rfl := Option.some.inj H
           go_enter Try.func6, Try.ntmps6
           go_wp2_with (first | ((with_reducible refine gate_dst (N := 2) rfl ?_); refine box_event ?hg (N := 2) ?hd (cs := #[.int .i64 a0_0, .int .i64 a0_1, .int .i64 a0_2, .int .i64 a0_3, .int .i64 a0_4, .int .i64 a0_5, .int .i64 a0_6, .int .i64 a0_7, .int .i64 a0_8]) (t := 27) ?hr ?_; (case hd => rfl); (case hg => rfl); (case hr => first | (go_simp; done) | (go_simp; rfl)); intro gb465 hg w15 hbox hb; have n0_ := Aside0.mk (below_step (by repeat (first | (with_reducible first | exact HB.out | apply below_alloc | apply pw_below_drewN | apply below_drew1) | exact HB.out)) hb); have n1_ := Aside0.mk (hbox); have n2_ := Aside0.mk ((by rw [hg]; exact (below_size (by repeat (first | (with_reducible first | exact HB.out | apply below_alloc | apply pw_below_drewN | apply below_drew1) | exact HB.out))) : w.heap.size ≤ gb465)); have n3_ := Aside0.mk ((by rw [hg]; exact (below_size (by repeat (first | (with_reducible first | exact HB.out | apply below_alloc | apply pw_below_drewN | apply below_drew1) | exact HB.out))) : w.heap.size ≤ gb465)); clear HB; have HB := n0_; have BK465 := n1_; have GW465 := n2_; have GE465 := n3_; clear n0_ n1_ n2_ n3_; clear hb hbox hg) | ((with_reducible refine gate_callee (f := 10) rfl ?_); refine goesL_ (some 13) rfl rfl Try.func10 (by kernel_rfl) rfl #[] rfl (by (try simp only [List.map_toArray, List.map_cons, List.map_nil]); first | done | rfl | (simp only [List.length_drop, List.length_take]; rfl)) ?_; (with_reducible refine (masterdisclaw10_awake.calls  true _ A3.out).mono ?_); rintro e w16 ⟨rfl, hb⟩; refine ⟨_, rfl, ?_⟩; have n0_ := Aside0.mk (blk_below (g := gb465) (o := .cells #[.int .i64 a0_0, .int .i64 a0_1, .int .i64 a0_2, .int .i64 a0_3, .int .i64 a0_4, .int .i64 a0_5, .int .i64 a0_6, .int .i64 a0_7, .int .i64 a0_8] 27 (0, 0)) (by (with_reducible repeat (first | refine blk_drewN ?_ _ | refine blk_drew ?_ | refine blk_alloc ?_ _)); exact BK465.out) hb); have n1_ := Aside0.mk (below_step (by repeat (first | (with_reducible first | exact HB.out | apply below_alloc | apply pw_below_drewN | apply below_drew1 | refine below_set ?_ GE465.out) | exact HB.out)) hb); clear BK465; clear HB; have BK465 := n0_; have HB := n1_; clear n0_ n1_; (try clear hb); (try clear hb2); (try clear hk); (try clear hi); have hcz17_0 : w16.cell? ⟨gb465, 0, none⟩ = some (.int .i64 a0_0) := (blk_cell BK465.out 0).trans rfl; have hcz17_1 : w16.cell? ⟨gb465, 1, none⟩ = some (.int .i64 a0_1) := (blk_cell BK465.out 1).trans rfl; have hcz17_2 : w16.cell? ⟨gb465, 2, none⟩ = some (.int .i64 a0_2) := (blk_cell BK465.out 2).trans rfl; have hcz17_3 : w16.cell? ⟨gb465, 3, none⟩ = some (.int .i64 a0_3) := (blk_cell BK465.out 3).trans rfl; have hcz17_4 : w16.cell? ⟨gb465, 4, none⟩ = some (.int .i64 a0_4) := (blk_cell BK465.out 4).trans rfl; have hcz17_5 : w16.cell? ⟨gb465, 5, none⟩ = some (.int .i64 a0_5) := (blk_cell BK465.out 5).trans rfl; have hcz17_6 : w16.cell? ⟨gb465, 6, none⟩ = some (.int .i64 a0_6) := (blk_cell BK465.out 6).trans rfl; have hcz17_7 : w16.cell? ⟨gb465, 7, none⟩ = some (.int .i64 a0_7) := (blk_cell BK465.out 7).trans rfl; have hcz17_8 : w16.cell? ⟨gb465, 8, none⟩ = some (.int .i64 a0_8) := (blk_cell BK465.out 8).trans rfl; have hfz17_0 := blk_frozen BK465.out 0; have hfz17_1 := blk_frozen BK465.out 1; have hfz17_2 := blk_frozen BK465.out 2; have hfz17_3 := blk_frozen BK465.out 3; have hfz17_4 := blk_frozen BK465.out 4; have hfz17_5 := blk_frozen BK465.out 5; have hfz17_6 := blk_frozen BK465.out 6; have hfz17_7 := blk_frozen BK465.out 7; have hfz17_8 := blk_frozen BK465.out 8) | ((with_reducible refine gate_callee (f := 18) rfl ?_); refine goesL_ (some 20) rfl rfl Try.func18 (by kernel_rfl) rfl #[.agg #[.int .i64 a0_0, .int .i64 a0_1, .int .i64 a0_2, .int .i64 a0_3, .int .i64 a0_4, .int .i64 a0_5, .int .i64 a0_6, .int .i64 a0_7, .int .i64 a0_8]] rfl (by (try simp only [List.map_toArray, List.map_cons, List.map_nil]); first | done | rfl | (simp only [List.length_drop, List.length_take]; rfl)) ?_; (with_reducible refine (subchannel_Encode.calls a0_0 a0_1 a0_2 a0_3 a0_4 a0_5 a0_6 a0_7 a0_8 t467 t468 _ A8.out).mono ?_); rintro e w18 ⟨rfl, hb⟩; refine ⟨_, rfl, ?_⟩; have n0_ := Aside0.mk (blk_below (g := gb465) (o := .cells #[.int .i64 a0_0, .int .i64 a0_1, .int .i64 a0_2, .int .i64 a0_3, .int .i64 a0_4, .int .i64 a0_5, .int .i64 a0_6, .int .i64 a0_7, .int .i64 a0_8] 27 (0, 0)) (by (with_reducible repeat (first | refine blk_drewN ?_ _ | refine blk_drew ?_ | refine blk_alloc ?_ _)); exact BK465.out) hb); have n1_ := Aside0.mk (below_step (by repeat (first | (with_reducible first | exact HB.out | apply below_alloc | apply pw_below_drewN | apply below_drew1 | refine below_set ?_ GE465.out) | exact HB.out)) hb); clear BK465; clear HB; have BK465 := n0_; have HB := n1_; clear n0_ n1_; (try clear hb); (try clear hb2); (try clear hk); (try clear hi); have hcz19_0 : w18.cell? ⟨gb465, 0, none⟩ = some (.int .i64 a0_0) := (blk_cell BK465.out 0).trans rfl; have hcz19_1 : w18.cell? ⟨gb465, 1, none⟩ = some (.int .i64 a0_1) := (blk_cell BK465.out 1).trans rfl; have hcz19_2 : w18.cell? ⟨gb465, 2, none⟩ = some (.int .i64 a0_2) := (blk_cell BK465.out 2).trans rfl; have hcz19_3 : w18.cell? ⟨gb465, 3, none⟩ = some (.int .i64 a0_3) := (blk_cell BK465.out 3).trans rfl; have hcz19_4 : w18.cell? ⟨gb465, 4, none⟩ = some (.int .i64 a0_4) := (blk_cell BK465.out 4).trans rfl; have hcz19_5 : w18.cell? ⟨gb465, 5, none⟩ = some (.int .i64 a0_5) := (blk_cell BK465.out 5).trans rfl; have hcz19_6 : w18.cell? ⟨gb465, 6, none⟩ = some (.int .i64 a0_6) := (blk_cell BK465.out 6).trans rfl; have hcz19_7 : w18.cell? ⟨gb465, 7, none⟩ = some (.int .i64 a0_7) := (blk_cell BK465.out 7).trans rfl; have hcz19_8 : w18.cell? ⟨gb465, 8, none⟩ = some (.int .i64 a0_8) := (blk_cell BK465.out 8).trans rfl; have hfz19_0 := blk_frozen BK465.out 0; have hfz19_1 := blk_frozen BK465.out 1; have hfz19_2 := blk_frozen BK465.out 2; have hfz19_3 := blk_frozen BK465.out 3; have hfz19_4 := blk_frozen BK465.out 4; have hfz19_5 := blk_frozen BK465.out 5; have hfz19_6 := blk_frozen BK465.out 6; have hfz19_7 := blk_frozen BK465.out 7; have hfz19_8 := blk_frozen BK465.out 8) | ((with_reducible refine gate_callee (f := 22) rfl ?_); refine goesL_ (some 25) rfl rfl Try.func22 (by kernel_rfl) rfl #[.agg #[.int .i64 a0_0, .int .i64 a0_1, .int .i64 a0_2, .int .i64 a0_3, .int .i64 a0_4, .int .i64 a0_5, .int .i64 a0_6, .int .i64 a0_7, .int .i64 a0_8]] rfl (by (try simp only [List.map_toArray, List.map_cons, List.map_nil]); first | done | rfl | (simp only [List.length_drop, List.length_take]; rfl)) ?_; (with_reducible refine (masterdiscref10_Encode.calls k a0_0 a0_1 a0_2 a0_3 a0_4 a0_5 a0_6 a0_7 a0_8 t469 t470 _ A9.out).mono ?_); rintro e w20 ⟨rfl, hb⟩; refine ⟨_, rfl, ?_⟩; have n0_ := Aside0.mk (blk_below (g := gb465) (o := .cells #[.int .i64 a0_0, .int .i64 a0_1, .int .i64 a0_2, .int .i64 a0_3, .int .i64 a0_4, .int .i64 a0_5, .int .i64 a0_6, .int .i64 a0_7, .int .i64 a0_8] 27 (0, 0)) (by (with_reducible repeat (first | refine blk_drewN ?_ _ | refine blk_drew ?_ | refine blk_alloc ?_ _)); exact BK465.out) hb); have n1_ := Aside0.mk (below_step (by repeat (first | (with_reducible first | exact HB.out | apply below_alloc | apply pw_below_drewN | apply below_drew1 | refine below_set ?_ GE465.out) | exact HB.out)) hb); clear BK465; clear HB; have BK465 := n0_; have HB := n1_; clear n0_ n1_; (try clear hb); (try clear hb2); (try clear hk); (try clear hi)) | ((with_reducible refine gate_callee (f := 23) rfl ?_); refine goesL_ (some 30) rfl rfl Try.func23 (by kernel_rfl) rfl #[.string a1] rfl (by (try simp only [List.map_toArray, List.map_cons, List.map_nil]); first | done | rfl | (simp only [List.length_drop, List.length_take]; rfl)) ?_; (with_reducible refine (subchannel_Decode.calls k a1 t471 t472 t473 t474 t475 t476 t477 t478 t479 t480 _ A10.out).mono ?_); rintro e w21 ⟨rfl, hb⟩; refine ⟨_, rfl, ?_⟩; have n0_ := Aside0.mk (blk_below (g := gb465) (o := .cells #[.int .i64 a0_0, .int .i64 a0_1, .int .i64 a0_2, .int .i64 a0_3, .int .i64 a0_4, .int .i64 a0_5, .int .i64 a0_6, .int .i64 a0_7, .int .i64 a0_8] 27 (0, 0)) (by (with_reducible repeat (first | refine blk_drewN ?_ _ | refine blk_drew ?_ | refine blk_alloc ?_ _)); exact BK465.out) hb); have n1_ := Aside0.mk (below_step (by repeat (first | (with_reducible first | exact HB.out | apply below_alloc | apply pw_below_drewN | apply below_drew1 | refine below_set ?_ GE465.out) | exact HB.out)) hb); clear BK465; clear HB; have BK465 := n0_; have HB := n1_; clear n0_ n1_; (try clear hb); (try clear hb2); (try clear hk); (try clear hi)) | ((with_reducible refine gate_dst (N := 9) rfl ?_); refine box_event ?hg (N := 9) ?hd (cs := #[.int .i64 0, .int .i64 0, .int .i64 0, .int .i64 0, .int .i64 0, .int .i64 0, .int .i64 0, .int .i64 0, .int .i64 0]) (t := 27) ?hr ?_; (case hd => rfl); (case hg => rfl); (case hr => first | (go_simp; done) | (go_simp; rfl)); intro gb481 hg w22 hbox hb; have n0_ := Aside0.mk (blk_below (g := gb465) (o := .cells #[.int .i64 a0_0, .int .i64 a0_1, .int .i64 a0_2, .int .i64 a0_3, .int .i64 a0_4, .int .i64 a0_5, .int .i64 a0_6, .int .i64 a0_7, .int .i64 a0_8] 27 (0, 0)) (by (with_reducible repeat (first | refine blk_drewN ?_ _ | refine blk_drew ?_ | refine blk_alloc ?_ _)); exact BK465.out) hb); have n1_ := Aside0.mk (below_step (by repeat (first | (with_reducible first | exact HB.out | apply below_alloc | apply pw_below_drewN | apply below_drew1 | refine below_set ?_ GE465.out) | exact HB.out)) hb); have n2_ := Aside0.mk (hbox); have n3_ := Aside0.mk ((by rw [hg]; exact (below_size (by repeat (first | (with_reducible first | exact HB.out | apply below_alloc | apply pw_below_drewN | apply below_drew1 | refine below_set ?_ GE465.out) | exact HB.out))) : w.heap.size ≤ gb481)); have n4_ := Aside0.mk ((by rw [hg]; exact (below_size (by repeat (first | (with_reducible first | exact HB.out | apply below_alloc | apply pw_below_drewN | apply below_drew1 | refine below_set ?_ GE465.out) | exact HB.out))) : w.heap.size ≤ gb481)); have n5_ := Aside0.mk ((by rw [hg]; exact Nat.ne_of_lt (blk_lt (g := gb465) (o := .cells #[.int .i64 a0_0, .int .i64 a0_1, .int .i64 a0_2, .int .i64 a0_3, .int .i64 a0_4, .int .i64 a0_5, .int .i64 a0_6, .int .i64 a0_7, .int .i64 a0_8] 27 (0, 0)) (by (with_reducible repeat (first | refine blk_drewN ?_ _ | refine blk_drew ?_ | refine blk_alloc ?_ _)); exact BK465.out)) : gb465 ≠ gb481)); have n6_ := Aside0.mk ((by rw [hg]; exact Nat.ne_of_gt (blk_lt (g := gb465) (o := .cells #[.int .i64 a0_0, .int .i64 a0_1, .int .i64 a0_2, .int .i64 a0_3, .int .i64 a0_4, .int .i64 a0_5, .int .i64 a0_6, .int .i64 a0_7, .int .i64 a0_8] 27 (0, 0)) (by (with_reducible repeat (first | refine blk_drewN ?_ _ | refine blk_drew ?_ | refine blk_alloc ?_ _)); exact BK465.out)) : gb481 ≠ gb465)); clear BK465; clear HB; have BK465 := n0_; have HB := n1_; have BK481 := n2_; have GW481 := n3_; have GE481 := n4_; have NB465_481 := n5_; have NB481_465 := n6_; clear n0_ n1_ n2_ n3_ n4_ n5_ n6_; clear hb hbox hg; have hnb23 := NB481_465.out; have hnc23 := NB465_481.out; have hcz24_0 : w22.cell? ⟨gb481, 0, none⟩ = some (.int .i64 0) := (blk_cell BK481.out 0).trans rfl; have hcz24_1 : w22.cell? ⟨gb481, 1, none⟩ = some (.int .i64 0) := (blk_cell BK481.out 1).trans rfl; have hcz24_2 : w22.cell? ⟨gb481, 2, none⟩ = some (.int .i64 0) := (blk_cell BK481.out 2).trans rfl; have hcz24_3 : w22.cell? ⟨gb481, 3, none⟩ = some (.int .i64 0) := (blk_cell BK481.out 3).trans rfl; have hcz24_4 : w22.cell? ⟨gb481, 4, none⟩ = some (.int .i64 0) := (blk_cell BK481.out 4).trans rfl; have hcz24_5 : w22.cell? ⟨gb481, 5, none⟩ = some (.int .i64 0) := (blk_cell BK481.out 5).trans rfl; have hcz24_6 : w22.cell? ⟨gb481, 6, none⟩ = some (.int .i64 0) := (blk_cell BK481.out 6).trans rfl; have hcz24_7 : w22.cell? ⟨gb481, 7, none⟩ = some (.int .i64 0) := (blk_cell BK481.out 7).trans rfl; have hcz24_8 : w22.cell? ⟨gb481, 8, none⟩ = some (.int .i64 0) := (blk_cell BK481.out 8).trans rfl; have hfz24_0 := blk_frozen BK481.out 0; have hfz24_1 := blk_frozen BK481.out 1; have hfz24_2 := blk_frozen BK481.out 2; have hfz24_3 := blk_frozen BK481.out 3; have hfz24_4 := blk_frozen BK481.out 4; have hfz24_5 := blk_frozen BK481.out 5; have hfz24_6 := blk_frozen BK481.out 6; have hfz24_7 := blk_frozen BK481.out 7; have hfz24_8 := blk_frozen BK481.out 8) | ((with_reducible refine gate_callee (f := 24) rfl ?_); refine goesL_ (some 35) rfl rfl Try.func24 (by kernel_rfl) rfl #[.string a1] rfl (by (try simp only [List.map_toArray, List.map_cons, List.map_nil]); first | done | rfl | (simp only [List.length_drop, List.length_take]; rfl)) ?_; (with_reducible refine (masterdiscref10_Decode.calls k a1 t482 t483 t484 t485 t486 t487 t488 t489 t490 t491 _ A11.out).mono ?_); rintro e w25 ⟨rfl, hb⟩; refine ⟨_, rfl, ?_⟩; have n0_ := Aside0.mk (blk_below (g := gb465) (o := .cells #[.int .i64 a0_0, .int .i64 a0_1, .int .i64 a0_2, .int .i64 a0_3, .int .i64 a0_4, .int .i64 a0_5, .int .i64 a0_6, .int .i64 a0_7, .int .i64 a0_8] 27 (0, 0)) (by (with_reducible repeat (first | refine blk_drewN ?_ _ | refine blk_drew ?_ | refine blk_alloc ?_ _)); refine blk_far ?_ NB465_481.out _; (with_reducible repeat (first | refine blk_drewN ?_ _ | refine blk_drew ?_ | refine blk_alloc ?_ _)); refine blk_far ?_ NB465_481.out _; (with_reducible repeat (first | refine blk_drewN ?_ _ | refine blk_drew ?_ | refine blk_alloc ?_ _)); refine blk_far ?_ NB465_481.out _; (with_reducible repeat (first | refine blk_drewN ?_ _ | refine blk_drew ?_ | refine blk_alloc ?_ _)); refine blk_far ?_ NB465_481.out _; (with_reducible repeat (first | refine blk_drewN ?_ _ | refine blk_drew ?_ | refine blk_alloc ?_ _)); refine blk_far ?_ NB465_481.out _; (with_reducible repeat (first | refine blk_drewN ?_ _ | refine blk_drew ?_ | refine blk_alloc ?_ _)); refine blk_far ?_ NB465_481.out _; (with_reducible repeat (first | refine blk_drewN ?_ _ | refine blk_drew ?_ | refine blk_alloc ?_ _)); refine blk_far ?_ NB465_481.out _; (with_reducible repeat (first | refine blk_drewN ?_ _ | refine blk_drew ?_ | refine blk_alloc ?_ _)); refine blk_far ?_ NB465_481.out _; (with_reducible repeat (first | refine blk_drewN ?_ _ | refine blk_drew ?_ | refine blk_alloc ?_ _)); refine blk_far ?_ NB465_481.out _; (with_reducible repeat (first | refine blk_drewN ?_ _ | refine blk_drew ?_ | refine blk_alloc ?_ _)); exact BK465.out) hb); have n1_ := Aside0.mk (blk_below (g := gb481) (o := .cells #[.int .i64 t471, .int .i64 t472, .int .i64 t473, .int .i64 t474, .int .i64 t475, .int .i64 t476, .int .i64 t477, .int .i64 t478, .int .i64 t479] 27 (0, 0)) (by (with_reducible repeat (first | refine blk_drewN ?_ _ | refine blk_drew ?_ | refine blk_alloc ?_ _)); refine blk_put (cs := #[.int .i64 t471, .int .i64 t472, .int .i64 t473, .int .i64 t474, .int .i64 t475, .int .i64 t476, .int .i64 t477, .int .i64 t478, .int .i64 0]) ?_ 8 _ rfl; (with_reducible repeat (first | refine blk_drewN ?_ _ | refine blk_drew ?_ | refine blk_alloc ?_ _)); refine blk_put (cs := #[.int .i64 t471, .int .i64 t472, .int .i64 t473, .int .i64 t474, .int .i64 t475, .int .i64 t476, .int .i64 t477, .int .i64 0, .int .i64 0]) ?_ 7 _ rfl; (with_reducible repeat (first | refine blk_drewN ?_ _ | refine blk_drew ?_ | refine blk_alloc ?_ _)); refine blk_put (cs := #[.int .i64 t471, .int .i64 t472, .int .i64 t473, .int .i64 t474, .int .i64 t475, .int .i64 t476, .int .i64 0, .int .i64 0, .int .i64 0]) ?_ 6 _ rfl; (with_reducible repeat (first | refine blk_drewN ?_ _ | refine blk_drew ?_ | refine blk_alloc ?_ _)); refine blk_put (cs := #[.int .i64 t471, .int .i64 t472, .int .i64 t473, .int .i64 t474, .int .i64 t475, .int .i64 0, .int .i64 0, .int .i64 0, .int .i64 0]) ?_ 5 _ rfl; (with_reducible repeat (first | refine blk_drewN ?_ _ | refine blk_drew ?_ | refine blk_alloc ?_ _)); refine blk_put (cs := #[.int .i64 t471, .int .i64 t472, .int .i64 t473, .int .i64 t474, .int .i64 0, .int .i64 0, .int .i64 0, .int .i64 0, .int .i64 0]) ?_ 4 _ rfl; (with_reducible repeat (first | refine blk_drewN ?_ _ | refine blk_drew ?_ | refine blk_alloc ?_ _)); refine blk_put (cs := #[.int .i64 t471, .int .i64 t472, .int .i64 t473, .int .i64 0, .int .i64 0, .int .i64 0, .int .i64 0, .int .i64 0, .int .i64 0]) ?_ 3 _ rfl; (with_reducible repeat (first | refine blk_drewN ?_ _ | refine blk_drew ?_ | refine blk_alloc ?_ _)); refine blk_put (cs := #[.int .i64 t471, .int .i64 t472, .int .i64 0, .int .i64 0, .int .i64 0, .int .i64 0, .int .i64 0, .int .i64 0, .int .i64 0]) ?_ 2 _ rfl; (with_reducible repeat (first | refine blk_drewN ?_ _ | refine blk_drew ?_ | refine blk_alloc ?_ _)); refine blk_put (cs := #[.int .i64 t471, .int .i64 0, .int .i64 0, .int .i64 0, .int .i64 0, .int .i64 0, .int .i64 0, .int .i64 0, .int .i64 0]) ?_ 1 _ rfl; (with_reducible repeat (first | refine blk_drewN ?_ _ | refine blk_drew ?_ | refine blk_alloc ?_ _)); refine blk_put (cs := #[.int .i64 0, .int .i64 0, .int .i64 0, .int .i64 0, .int .i64 0, .int .i64 0, .int .i64 0, .int .i64 0, .int .i64 0]) ?_ 0 _ rfl; (with_reducible repeat (first | refine blk_drewN ?_ _ | refine blk_drew ?_ | refine blk_alloc ?_ _)); exact BK481.out) hb); have n2_ := Aside0.mk (below_step (by repeat (first | (with_reducible first | exact HB.out | apply below_alloc | apply pw_below_drewN | apply below_drew1 | refine below_set ?_ GE465.out | refine below_set ?_ GE481.out) | exact HB.out)) hb); clear BK465; clear BK481; clear HB; have BK465 := n0_; have BK481 := n1_; have HB := n2_; clear n0_ n1_ n2_; (try clear hb); (try clear hb2); (try clear hk); (try clear hi)) | ((with_reducible refine gate_dst (N := 11) rfl ?_); refine box_event ?hg (N := 11) ?hd (cs := #[.int .i64 0, .int .i64 0, .int .i64 0, .int .i64 0, .int .i64 0, .int .i64 0, .int .i64 0, .int .i64 0, .int .i64 0]) (t := 27) ?hr ?_; (case hd => rfl); (case hg => rfl); (case hr => first | (go_simp; done) | (go_simp; rfl)); intro gb492 hg w26 hbox hb; have n0_ := Aside0.mk (blk_below (g := gb465) (o := .cells #[.int .i64 a0_0, .int .i64 a0_1, .int .i64 a0_2, .int .i64 a0_3, .int .i64 a0_4, .int .i64 a0_5, .int .i64 a0_6, .int .i64 a0_7, .int .i64 a0_8] 27 (0, 0)) (by (with_reducible repeat (first | refine blk_drewN ?_ _ | refine blk_drew ?_ | refine blk_alloc ?_ _)); exact BK465.out) hb); have n1_ := Aside0.mk (blk_below (g := gb481) (o := .cells #[.int .i64 t471, .int .i64 t472, .int .i64 t473, .int .i64 t474, .int .i64 t475, .int .i64 t476, .int .i64 t477, .int .i64 t478, .int .i64 t479] 27 (0, 0)) (by (with_reducible repeat (first | refine blk_drewN ?_ _ | refine blk_drew ?_ | refine blk_alloc ?_ _)); exact BK481.out) hb); have n2_ := Aside0.mk (below_step (by repeat (first | (with_reducible first | exact HB.out | apply below_alloc | apply pw_below_drewN | apply below_drew1 | refine below_set ?_ GE465.out | refine below_set ?_ GE481.out) | exact HB.out)) hb); have n3_ := Aside0.mk (hbox); have n4_ := Aside0.mk ((by rw [hg]; exact (below_size (by repeat (first | (with_reducible first | exact HB.out | apply below_alloc | apply pw_below_drewN | apply below_drew1 | refine below_set ?_ GE465.out | refine below_set ?_ GE481.out) | exact HB.out))) : w.heap.size ≤ gb492)); have n5_ := Aside0.mk ((by rw [hg]; exact (below_size (by repeat (first | (with_reducible first | exact HB.out | apply below_alloc | apply pw_below_drewN | apply below_drew1 | refine below_set ?_ GE465.out | refine below_set ?_ GE481.out) | exact HB.out))) : w.heap.size ≤ gb492)); have n6_ := Aside0.mk ((by rw [hg]; exact Nat.ne_of_lt (blk_lt (g := gb465) (o := .cells #[.int .i64 a0_0, .int .i64 a0_1, .int .i64 a0_2, .int .i64 a0_3, .int .i64 a0_4, .int .i64 a0_5, .int .i64 a0_6, .int .i64 a0_7, .int .i64 a0_8] 27 (0, 0)) (by (with_reducible repeat (first | refine blk_drewN ?_ _ | refine blk_drew ?_ | refine blk_alloc ?_ _)); exact BK465.out)) : gb465 ≠ gb492)); have n7_ := Aside0.mk ((by rw [hg]; exact Nat.ne_of_gt (blk_lt (g := gb465) (o := .cells #[.int .i64 a0_0, .int .i64 a0_1, .int .i64 a0_2, .int .i64 a0_3, .int .i64 a0_4, .int .i64 a0_5, .int .i64 a0_6, .int .i64 a0_7, .int .i64 a0_8] 27 (0, 0)) (by (with_reducible repeat (first | refine blk_drewN ?_ _ | refine blk_drew ?_ | refine blk_alloc ?_ _)); exact BK465.out)) : gb492 ≠ gb465)); have n8_ := Aside0.mk ((by rw [hg]; exact Nat.ne_of_lt (blk_lt (g := gb481) (o := .cells #[.int .i64 t471, .int .i64 t472, .int .i64 t473, .int .i64 t474, .int .i64 t475, .int .i64 t476, .int .i64 t477, .int .i64 t478, .int .i64 t479] 27 (0, 0)) (by (with_reducible repeat (first | refine blk_drewN ?_ _ | refine blk_drew ?_ | refine blk_alloc ?_ _)); exact BK481.out)) : gb481 ≠ gb492)); have n9_ := Aside0.mk ((by rw [hg]; exact Nat.ne_of_gt (blk_lt (g := gb481) (o := .cells #[.int .i64 t471, .int .i64 t472, .int .i64 t473, .int .i64 t474, .int .i64 t475, .int .i64 t476, .int .i64 t477, .int .i64 t478, .int .i64 t479] 27 (0, 0)) (by (with_reducible repeat (first | refine blk_drewN ?_ _ | refine blk_drew ?_ | refine blk_alloc ?_ _)); exact BK481.out)) : gb492 ≠ gb481)); clear BK465; clear BK481; clear HB; have BK465 := n0_; have BK481 := n1_; have HB := n2_; have BK492 := n3_; have GW492 := n4_; have GE492 := n5_; have NB465_492 := n6_; have NB492_465 := n7_; have NB481_492 := n8_; have NB492_481 := n9_; clear n0_ n1_ n2_ n3_ n4_ n5_ n6_ n7_ n8_ n9_; clear hb hbox hg; have hnb27 := NB492_465.out; have hnc27 := NB465_492.out; have hnb28 := NB492_481.out; have hnc28 := NB481_492.out; have hcz29_0 : w26.cell? ⟨gb492, 0, none⟩ = some (.int .i64 0) := (blk_cell BK492.out 0).trans rfl; have hcz29_1 : w26.cell? ⟨gb492, 1, none⟩ = some (.int .i64 0) := (blk_cell BK492.out 1).trans rfl; have hcz29_2 : w26.cell? ⟨gb492, 2, none⟩ = some (.int .i64 0) := (blk_cell BK492.out 2).trans rfl; have hcz29_3 : w26.cell? ⟨gb492, 3, none⟩ = some (.int .i64 0) := (blk_cell BK492.out 3).trans rfl; have hcz29_4 : w26.cell? ⟨gb492, 4, none⟩ = some (.int .i64 0) := (blk_cell BK492.out 4).trans rfl; have hcz29_5 : w26.cell? ⟨gb492, 5, none⟩ = some (.int .i64 0) := (blk_cell BK492.out 5).trans rfl; have hcz29_6 : w26.cell? ⟨gb492, 6, none⟩ = some (.int .i64 0) := (blk_cell BK492.out 6).trans rfl; have hcz29_7 : w26.cell? ⟨gb492, 7, none⟩ = some (.int .i64 0) := (blk_cell BK492.out 7).trans rfl; have hcz29_8 : w26.cell? ⟨gb492, 8, none⟩ = some (.int .i64 0) := (blk_cell BK492.out 8).trans rfl; have hfz29_0 := blk_frozen BK492.out 0; have hfz29_1 := blk_frozen BK492.out 1; have hfz29_2 := blk_frozen BK492.out 2; have hfz29_3 := blk_frozen BK492.out 3; have hfz29_4 := blk_frozen BK492.out 4; have hfz29_5 := blk_frozen BK492.out 5; have hfz29_6 := blk_frozen BK492.out 6; have hfz29_7 := blk_frozen BK492.out 7; have hfz29_8 := blk_frozen BK492.out 8; have hcz30_0 : w26.cell? ⟨gb481, 0, none⟩ = some (.int .i64 t471) := (blk_cell BK481.out 0).trans rfl; have hcz30_1 : w26.cell? ⟨gb481, 1, none⟩ = some (.int .i64 t472) := (blk_cell BK481.out 1).trans rfl; have hcz30_2 : w26.cell? ⟨gb481, 2, none⟩ = some (.int .i64 t473) := (blk_cell BK481.out 2).trans rfl; have hcz30_3 : w26.cell? ⟨gb481, 3, none⟩ = some (.int .i64 t474) := (blk_cell BK481.out 3).trans rfl; have hcz30_4 : w26.cell? ⟨gb481, 4, none⟩ = some (.int .i64 t475) := (blk_cell BK481.out 4).trans rfl; have hcz30_5 : w26.cell? ⟨gb481, 5, none⟩ = some (.int .i64 t476) := (blk_cell BK481.out 5).trans rfl; have hcz30_6 : w26.cell? ⟨gb481, 6, none⟩ = some (.int .i64 t477) := (blk_cell BK481.out 6).trans rfl; have hcz30_7 : w26.cell? ⟨gb481, 7, none⟩ = some (.int .i64 t478) := (blk_cell BK481.out 7).trans rfl; have hcz30_8 : w26.cell? ⟨gb481, 8, none⟩ = some (.int .i64 t479) := (blk_cell BK481.out 8).trans rfl; have hfz30_0 := blk_frozen BK481.out 0; have hfz30_1 := blk_frozen BK481.out 1; have hfz30_2 := blk_frozen BK481.out 2; have hfz30_3 := blk_frozen BK481.out 3; have hfz30_4 := blk_frozen BK481.out 4; have hfz30_5 := blk_frozen BK481.out 5; have hfz30_6 := blk_frozen BK481.out 6; have hfz30_7 := blk_frozen BK481.out 7; have hfz30_8 := blk_frozen BK481.out 8))
           go_ret
           exact ⟨by first | rfl | (simp [errW_none, errW_some] <;> rfl) | (simp [*, errW_none, errW_some] <;> rfl), by repeat (first | (with_reducible first | exact HB.out | apply below_alloc | apply pw_below_drewN | apply below_drew1 | refine below_set ?_ GE465.out | refine below_set ?_ GE481.out | refine below_set ?_ GE492.out) | exact HB.out)⟩
         · rw [if_neg c14] at H
           exact absurd H (by simp)
       · rw [if_neg c13] at H
         exact absurd H (by simp)
     · rw [if_neg c12] at H
       exact absurd H (by simp)
 · replace c4 := Bool.eq_false_iff.mpr c4
   subst c4
   have H1 : (none) = some r := by rw [if_neg (show ¬ (false = true) by decide)] at H; exact H
   clear H
   have H := H1
   clear H1
   exact absurd H (by simp)
end Go.Proofs.Ytpmkibggmkibeaa.G
namespace Go.Proofs.Ytpmkibggmkibeaa.G
open Go.RowKit Go.Proofs.YtpmkibggmkibeaaW.PrintWords Go.Proofs.YtpmkibggmkibeaaW.PrintLast Go.Proofs.YtpmkibggmkibeaaW.PrintMore
set_option linter.unusedVariables false
def qvB (c t p m1 s1 f1 m2 s2 f2 : Int) : Bool := decide (0 ≤ c ∧ c ≤ 15) && (decide (0 ≤ t ∧ t ≤ 99) || t == 170) && (decide (0 ≤ p ∧ p ≤ 99) || decide (160 ≤ p ∧ p ≤ 162)) && msfB m1 s1 f1 && msfB m2 s2 f2
theorem some_ite (b c : Bool) : (if b = true then some c else some false) = some (b && c) := by cases b <;> rfl
theorem valid_eq (c t p m1 s1 f1 m2 s2 f2 : Int) : subchannel_valid.f c t p m1 s1 f1 m2 s2 f2 = some (qvB c t p m1 s1 f1 m2 s2 f2) := by
 unfold subchannel_valid.f qvB address_Valid.f
 simp only [between_dec, Option.bind_some]
 generalize decide (0 ≤ c ∧ c ≤ 15) = b1
 generalize decide (0 ≤ t ∧ t ≤ 99) = b2
 generalize decide (0 ≤ p ∧ p ≤ 99) = b3
 generalize decide (160 ≤ p ∧ p ≤ 162) = b4
 generalize msfB m1 s1 f1 = b5
 generalize msfB m2 s2 f2 = b6
 by_cases h : t = 170
 · subst h
   cases b1 <;> cases b2 <;> cases b3 <;> cases b4 <;> cases b5 <;> cases b6 <;> rfl
 · rw [show (t == 170) = false from beq_eq_false_iff_ne.mpr h, if_neg h]
   cases b1 <;> cases b2 <;> cases b3 <;> cases b4 <;> cases b5 <;> cases b6 <;> rfl
theorem refMsf (m s f : Int) : masterdiscref06_Valid.f m s f = some (msfB m s f) := by
 unfold masterdiscref06_Valid.f msfB
 by_cases h1 : m ≥ 0
 case neg => rw [if_neg h1, decide_eq_false (by omega)]
 rw [if_pos h1]
 by_cases h2 : m ≤ 99
 case neg => rw [if_neg h2, decide_eq_false (by omega)]
 rw [if_pos h2]
 by_cases h3 : s ≥ 0
 case neg => rw [if_neg h3, decide_eq_false (by omega)]
 rw [if_pos h3]
 by_cases h4 : s ≤ 59
 case neg => rw [if_neg h4, decide_eq_false (by omega)]
 rw [if_pos h4]
 by_cases h5 : f ≥ 0
 case neg => rw [if_neg h5, decide_eq_false (by omega)]
 rw [if_pos h5]
 congr 1
 rw [decide_eq_decide]
 omega
theorem refValid_j1 (K : Nat) (b3 b4 : Bool) (c t p m1 s1 f1 m2 s2 f2 : Int) : masterdiscref10_Valid.j1 (K + 1) b3 b4 c t p m1 s1 f1 m2 s2 f2 = some (decide (0 ≤ c ∧ c ≤ 15) && b3 && b4 && msfB m1 s1 f1 && msfB m2 s2 f2) := by
 simp only [masterdiscref10_Valid.j1, refMsf, Option.bind_some]
 by_cases h1 : c ≥ 0
 case neg => rw [if_neg h1, decide_eq_false (by omega)]; rfl
 rw [if_pos h1]
 by_cases h2 : c ≤ 15
 case neg => rw [if_neg h2, decide_eq_false (by omega)]; rfl
 rw [if_pos h2, decide_eq_true (by omega)]
 generalize msfB m1 s1 f1 = b5
 generalize msfB m2 s2 f2 = b6
 cases b3 <;> cases b4 <;> cases b5 <;> cases b6 <;> rfl
theorem refValid_j0 (K : Nat) (b3 : Bool) (c t p m1 s1 f1 m2 s2 f2 : Int) : masterdiscref10_Valid.j0 (K + 2) b3 c t p m1 s1 f1 m2 s2 f2 = some (decide (0 ≤ c ∧ c ≤ 15) && b3 && (decide (0 ≤ p ∧ p ≤ 99) || decide (160 ≤ p ∧ p ≤ 162)) && msfB m1 s1 f1 && msfB m2 s2 f2) := by
 simp only [masterdiscref10_Valid.j0, refValid_j1]
 generalize decide (0 ≤ c ∧ c ≤ 15) = bc
 by_cases h1 : p ≥ 0
 · rw [if_pos h1]
   by_cases h2 : p ≤ 99
   · rw [if_pos h2, decide_eq_true (show 0 ≤ p ∧ p ≤ 99 by omega), Bool.true_or]
   · rw [if_neg h2, decide_eq_false (show ¬ (0 ≤ p ∧ p ≤ 99) by omega), Bool.false_or]
     by_cases h3 : p ≥ 160
     · rw [if_pos h3, decide_eq_decide.mpr (show (p ≤ 162 ↔ 160 ≤ p ∧ p ≤ 162) by omega)]
     · rw [if_neg h3, decide_eq_false (show ¬ (160 ≤ p ∧ p ≤ 162) by omega)]
 · rw [if_neg h1, if_neg (by omega), decide_eq_false (show ¬ (0 ≤ p ∧ p ≤ 99) by omega), decide_eq_false (show ¬ (160 ≤ p ∧ p ≤ 162) by omega)]
   rfl
theorem refValid_eq (K : Nat) (c t p m1 s1 f1 m2 s2 f2 : Int) : masterdiscref10_Valid.f (K + 2) c t p m1 s1 f1 m2 s2 f2 = some (qvB c t p m1 s1 f1 m2 s2 f2) := by
 unfold masterdiscref10_Valid.f qvB
 simp only [refValid_j0]
 by_cases h1 : t ≥ 0
 · rw [if_pos h1]
   by_cases h2 : t ≤ 99
   · rw [if_pos h2, decide_eq_true (show 0 ≤ t ∧ t ≤ 99 by omega), Bool.true_or]
   · rw [if_neg h2, decide_eq_false (show ¬ (0 ≤ t ∧ t ≤ 99) by omega), Bool.false_or]
 · rw [if_neg h1, decide_eq_false (show ¬ (0 ≤ t ∧ t ≤ 99) by omega), Bool.false_or]
theorem qv_parts {c t p m1 s1 f1 m2 s2 f2 : Int} (h : qvB c t p m1 s1 f1 m2 s2 f2 = true) : (0 ≤ c ∧ c ≤ 15) ∧ (0 ≤ t ∧ t ≤ 99 ∨ isSp t = true) ∧ (0 ≤ p ∧ p ≤ 99 ∨ isSp p = true) ∧ msfB m1 s1 f1 = true ∧ msfB m2 s2 f2 = true ∧ (0 ≤ t ∧ t ≤ 99 ∨ t = 170) ∧ (0 ≤ p ∧ p ≤ 99 ∨ 160 ≤ p ∧ p ≤ 162) := by
 simp only [qvB, Bool.and_eq_true, Bool.or_eq_true, decide_eq_true_eq, beq_iff_eq] at h
 obtain ⟨⟨⟨⟨h1, h2⟩, h3⟩, h4⟩, h5⟩ := h
 refine ⟨h1, ?_, ?_, h4, h5, h2, h3⟩
 · rcases h2 with h2 | h2
   · exact Or.inl h2
   · right; subst h2; rfl
 · rcases h3 with h3 | h3
   · exact Or.inl h3
   · right
     have : p = 160 ∨ p = 161 ∨ p = 162 := by omega
     rcases this with h | h | h <;> subst h <;> rfl
def adS (m s f : Int) : ByteArray := strOfNums [((endian_BCD.f m).getD (0, 0)).1, ((endian_BCD.f s).getD (0, 0)).1, ((endian_BCD.f f).getD (0, 0)).1]
theorem bcd_get (n : Int) : ∃ x e, endian_BCD.f n = some (x, e) ∧ ((endian_BCD.f n).getD (0, 0)).1 = x ∧ masterdiscref01_BCD.f n = some (x, e) := by
 obtain ⟨x, e, h1, h2, -⟩ := BCD_all n
 exact ⟨x, e, h1, by rw [h1]; rfl, h2⟩
theorem enc1_eq {m s f : Int} (h : msfB m s f = true) : subchannel_Encode_1.f m s f = some (adS m s f) := by
 obtain ⟨x0, e0, h0, g0, -⟩ := bcd_get m
 obtain ⟨x1, e1, h1, g1, -⟩ := bcd_get s
 obtain ⟨x2, e2, h2, g2, -⟩ := bcd_get f
 unfold subchannel_Encode_1.f address_Encode.f address_Encode_1.f adS
 rw [if_pos h, g0, g1, g2, h0, h1, h2]
 simp only [Option.bind_some]
 rw [if_pos (by simp [size_strOfNums])]
 rfl
theorem refenc_eq {m s f : Int} (h : msfB m s f = true) : masterdiscref06_Encode.f m s f = some (adS m s f, 0) := by
 obtain ⟨x0, e0, h0, g0, r0⟩ := bcd_get m
 obtain ⟨x1, e1, h1, g1, r1⟩ := bcd_get s
 obtain ⟨x2, e2, h2, g2, r2⟩ := bcd_get f
 unfold masterdiscref06_Encode.f adS
 rw [refMsf, h, g0, g1, g2]
 simp only [Option.bind_some]
 rw [if_pos trivial, r0, r1, r2]
 rfl
def datS (c t p m1 s1 f1 m2 s2 f2 : Int) : ByteArray := strOfNums [c * 16 + 1, (subchannel_number.f t).getD 0, (subchannel_number.f p).getD 0] ++ adS m1 s1 f1 ++ (⟨#[0]⟩ : ByteArray) ++ adS m2 s2 f2
def encS (c t p m1 s1 f1 m2 s2 f2 : Int) : ByteArray := datS c t p m1 s1 f1 m2 s2 f2 ++ chkS (datS c t p m1 s1 f1 m2 s2 f2)
theorem adS_size (m s f : Int) : (adS m s f).size = 3 := size_strOfNums _
theorem datS_size (c t p m1 s1 f1 m2 s2 f2 : Int) : (datS c t p m1 s1 f1 m2 s2 f2).size = 10 := by
 unfold datS
 simp only [ByteArray.size_append, adS_size, size_strOfNums]
 rfl
theorem chkS_size (s : ByteArray) : (chkS s).size = 2 := size_strOfNums _
theorem encS_size (c t p m1 s1 f1 m2 s2 f2 : Int) : (encS c t p m1 s1 f1 m2 s2 f2).size = 12 := by
 unfold encS
 rw [ByteArray.size_append, datS_size, chkS_size]
theorem encode_eq (c t p m1 s1 f1 m2 s2 f2 : Int) : subchannel_Encode.f c t p m1 s1 f1 m2 s2 f2 = if qvB c t p m1 s1 f1 m2 s2 f2 = true then some (encS c t p m1 s1 f1 m2 s2 f2, 0) else some (⟨#[]⟩, 1) := by
 unfold subchannel_Encode.f
 rw [valid_eq]
 simp only [Option.bind_some]
 by_cases h : qvB c t p m1 s1 f1 m2 s2 f2 = true
 case neg => rw [if_neg h, if_neg h]
 rw [if_pos h, if_pos h]
 obtain ⟨hc, ht, hp, h1, h2, -, -⟩ := qv_parts h
 obtain ⟨b1, e1, -, -, -⟩ := number_byte ht
 obtain ⟨b2, e2, -, -, -⟩ := number_byte hp
 have hd : datS c t p m1 s1 f1 m2 s2 f2 = strOfNums [c * 16 + 1, b1, b2] ++ adS m1 s1 f1 ++ (⟨#[0]⟩ : ByteArray) ++ adS m2 s2 f2 := by
  unfold datS
  rw [e1, e2]
  rfl
 have hsz := datS_size c t p m1 s1 f1 m2 s2 f2
 unfold encS
 rw [e1, e2, enc1_eq h1, enc1_eq h2, (ctl_all hc.1 hc.2).1]
 simp only [Option.bind_some]
 rw [← hd, check_plain _ (by omega)]
 have z3 : (strOfNums [c * 16 + 1, b1, b2]).size = 3 := size_strOfNums _
 rw [if_pos (by rw [z3, adS_size]; decide), if_pos (by simp only [ByteArray.size_append, z3, adS_size]; decide), if_pos (by simp only [ByteArray.size_append, z3, adS_size]; decide)]
 simp only [Option.bind_some]
 rw [if_pos (by rw [hsz, chkS_size]; decide)]
theorem refencode_eq (c t p m1 s1 f1 m2 s2 f2 : Int) : masterdiscref10_Encode.f 101 c t p m1 s1 f1 m2 s2 f2 = if qvB c t p m1 s1 f1 m2 s2 f2 = true then some (encS c t p m1 s1 f1 m2 s2 f2, 0) else some (⟨#[]⟩, 1) := by
 unfold masterdiscref10_Encode.f
 rw [refValid_eq 99]
 simp only [Option.bind_some]
 by_cases h : qvB c t p m1 s1 f1 m2 s2 f2 = true
 case neg => rw [if_neg h, if_neg h]
 rw [if_pos h, if_pos h]
 obtain ⟨hc, ht, hp, h1, h2, -, -⟩ := qv_parts h
 obtain ⟨b1, e1, -, -, -⟩ := number_byte ht
 obtain ⟨b2, e2, -, -, -⟩ := number_byte hp
 have hd : datS c t p m1 s1 f1 m2 s2 f2 = strOfNums [c * 16 + 1, b1, b2] ++ adS m1 s1 f1 ++ (⟨#[0]⟩ : ByteArray) ++ adS m2 s2 f2 := by
  unfold datS
  rw [e1, e2]
  rfl
 have hsz := datS_size c t p m1 s1 f1 m2 s2 f2
 unfold encS
 rw [← number_eq ht, ← number_eq hp, e1, e2, refenc_eq h1, refenc_eq h2, (ctl_all hc.1 hc.2).2]
 simp only [Option.bind_some]
 have hck := refcheck_plain (datS c t p m1 s1 f1 m2 s2 f2) (by omega)
 rw [hsz] at hck
 rw [← hd, hck]
 have z3 : (strOfNums [c * 16 + 1, b1, b2]).size = 3 := size_strOfNums _
 rw [if_pos (by rw [z3, adS_size]; decide), if_pos (by simp only [ByteArray.size_append, z3, adS_size]; decide), if_pos (by simp only [ByteArray.size_append, z3, adS_size]; decide)]
 simp only [Option.bind_some]
 rw [if_pos (by rw [hsz, chkS_size]; decide)]
theorem bt_lit (l : List Int) (r : ByteArray) (i : Nat) (h : i < l.length) (hb : 0 ≤ l[i] ∧ l[i] ≤ 255) : bt (strOfNums l ++ r) (i : Int) = l[i] := by
 have hs := size_strOfNums l
 unfold bt
 rw [Int.toNat_natCast, dif_pos (by rw [ByteArray.size_append]; omega)]
 rw [ByteArray.getElem_append_left (by omega)]
 have : (strOfNums l)[i]'(by omega) = UInt8.ofNat (l[i]).toNat := by
  rw [ByteArray.getElem_eq_getElem_data]
  simp [strOfNums]
 rw [this]
 simp
 omega
theorem app_assoc (a b c : ByteArray) : a ++ b ++ c = a ++ (b ++ c) := ByteArray.append_assoc
theorem encS_head {c t p m1 s1 f1 m2 s2 f2 : Int} (h : qvB c t p m1 s1 f1 m2 s2 f2 = true) :
 bt (encS c t p m1 s1 f1 m2 s2 f2) 0 = c * 16 + 1 ∧ subchannel_number.f t = some (bt (encS c t p m1 s1 f1 m2 s2 f2) 1) ∧ subchannel_number.f p = some (bt (encS c t p m1 s1 f1 m2 s2 f2) 2) ∧ bt (encS c t p m1 s1 f1 m2 s2 f2) 6 = 0 := by
 obtain ⟨hc, ht, hp, h1, h2, -, -⟩ := qv_parts h
 obtain ⟨b1, e1, l1, u1, -⟩ := number_byte ht
 obtain ⟨b2, e2, l2, u2, -⟩ := number_byte hp
 have hd : encS c t p m1 s1 f1 m2 s2 f2 = strOfNums [c * 16 + 1, b1, b2] ++ (adS m1 s1 f1 ++ ((⟨#[0]⟩ : ByteArray) ++ (adS m2 s2 f2 ++ chkS (datS c t p m1 s1 f1 m2 s2 f2)))) := by
  show datS c t p m1 s1 f1 m2 s2 f2 ++ chkS (datS c t p m1 s1 f1 m2 s2 f2) = _
  have : datS c t p m1 s1 f1 m2 s2 f2 = strOfNums [c * 16 + 1, b1, b2] ++ adS m1 s1 f1 ++ (⟨#[0]⟩ : ByteArray) ++ adS m2 s2 f2 := by
   unfold datS; rw [e1, e2]; rfl
  conv => lhs; lhs; rw [this]
  simp only [app_assoc]
 have z3 : (strOfNums [c * 16 + 1, b1, b2]).size = 3 := size_strOfNums _
 have b60 : bt (encS c t p m1 s1 f1 m2 s2 f2) 6 = 0 := by
  have hd2 : encS c t p m1 s1 f1 m2 s2 f2 = (strOfNums [c * 16 + 1, b1, b2] ++ adS m1 s1 f1) ++ ((⟨#[0]⟩ : ByteArray) ++ (adS m2 s2 f2 ++ chkS (datS c t p m1 s1 f1 m2 s2 f2))) := by
   rw [hd]; simp only [app_assoc]
  have hz : (strOfNums [c * 16 + 1, b1, b2] ++ adS m1 s1 f1).size = 6 := by rw [ByteArray.size_append, z3, adS_size]
  rw [hd2]
  unfold bt
  rw [dif_pos (by show 6 < _; simp only [ByteArray.size_append, z3, adS_size]; have : (⟨#[0]⟩ : ByteArray).size = 1 := rfl; omega)]
  rw [ByteArray.getElem_append_right (by show _ ≤ 6; omega)]
  have he : ((6 : Int).toNat - (strOfNums [c * 16 + 1, b1, b2] ++ adS m1 s1 f1).size) = 0 := by rw [hz]; rfl
  rw [ByteArray.getElem_append_left (by rw [he]; decide)]
  simp only [he]
  rfl
 have q0 := bt_lit [c * 16 + 1, b1, b2] (adS m1 s1 f1 ++ ((⟨#[0]⟩ : ByteArray) ++ (adS m2 s2 f2 ++ chkS (datS c t p m1 s1 f1 m2 s2 f2)))) 0 (by simp) (by show 0 ≤ c * 16 + 1 ∧ c * 16 + 1 ≤ 255; omega)
 have q1 := bt_lit [c * 16 + 1, b1, b2] (adS m1 s1 f1 ++ ((⟨#[0]⟩ : ByteArray) ++ (adS m2 s2 f2 ++ chkS (datS c t p m1 s1 f1 m2 s2 f2)))) 1 (by simp) ⟨l1, u1⟩
 have q2 := bt_lit [c * 16 + 1, b1, b2] (adS m1 s1 f1 ++ ((⟨#[0]⟩ : ByteArray) ++ (adS m2 s2 f2 ++ chkS (datS c t p m1 s1 f1 m2 s2 f2)))) 2 (by simp) ⟨l2, u2⟩
 rw [← hd] at q0 q1 q2
 refine ⟨q0, ?_, ?_, b60⟩
 · rw [e1]; exact congrArg some q1.symm
 · rw [e2]; exact congrArg some q2.symm
end Go.Proofs.Ytpmkibggmkibeaa.G
namespace Go.Proofs.Ytpmkibggmkibeaa.G
open Go.RowKit Go.Proofs.YtpmkibggmkibeaaW.PrintWords Go.Proofs.YtpmkibggmkibeaaW.PrintLast Go.Proofs.YtpmkibggmkibeaaW.PrintMore
set_option linter.unusedVariables false
theorem str_eq (a b : ByteArray) : a.toList = b.toList ↔ a = b := by
 rw [Lib.toList_data, Lib.toList_data]
 constructor
 · intro h
   have := Array.toList_inj.mp h
   cases a; cases b
   exact congrArg _ this
 · intro h; rw [h]
theorem fb_get (s : ByteArray) (i : Int) : ∃ x e, fb s i = (x, e) ∧ masterdiscref01_FromBCD.f (bt s i) = some (x, e) ∧ endian_FromBCD.f (bt s i) = some (x, e) := by
 have hb := bt_range s i
 obtain ⟨x, e, h1, h2, -⟩ := From_all (bt s i) hb.1 hb.2
 exact ⟨x, e, by unfold fb; rw [h1]; rfl, h2, h1⟩
theorem adDec_eq (s : ByteArray) (hs : s.size = 12) (a : Int) (h0 : 0 ≤ a) (h9 : a ≤ 9) (K : Nat) : address_Decode.f s a = some (dec0 s a) ∧ masterdiscref06_Decode.f (K + 1) s a = some (dec0 s a) := by
 obtain ⟨x0, e0, f0, r0, -⟩ := fb_get s a
 obtain ⟨x1, e1, f1, r1, -⟩ := fb_get s (a + 1)
 obtain ⟨x2, e2, f2, r2, -⟩ := fb_get s (a + 2)
 constructor
 · unfold address_Decode.f
   rw [if_pos (by omega), if_neg]
   unfold decOut
   rw [decide_eq_false (by omega)]
   decide
 · unfold masterdiscref06_Decode.f
   rw [if_neg (by omega), if_neg (by omega), decide_eq_false (show ¬ wrap64 ((s.size : Int) - a) < 3 by unfold wrap64; omega)]
   simp only [masterdiscref06_Decode.j0]
   have w1 : wrap64 (a + 1) = a + 1 := by unfold wrap64; omega
   have w2 : wrap64 (a + 2) = a + 2 := by unfold wrap64; omega
   rw [if_neg (by decide), if_pos h0, if_pos (by omega), r0, w1, w2]
   simp only [Option.bind_some]
   rw [if_pos (by omega), if_pos (by omega), r1]
   simp only [Option.bind_some]
   rw [if_pos (by omega), if_pos (by omega), r2]
   simp only [Option.bind_some]
   unfold dec0 dec1 dec2 dec3
   rw [f0, f1, f2, refMsf]
   dsimp only
   simp only [Option.bind_some]
   by_cases g0 : e0 = 0
   case neg => rw [if_neg g0, if_neg g0]
   rw [if_pos g0, if_pos g0]
   by_cases g1 : e1 = 0
   case neg => rw [if_neg g1, if_neg g1]
   rw [if_pos g1, if_pos g1]
   by_cases g2 : e2 = 0
   case neg => rw [if_neg g2, if_neg g2]
   rw [if_pos g2, if_pos g2]
   by_cases g3 : msfB x0 x1 x2 = true
   · rw [if_pos g3, if_pos g3]
   · rw [if_neg g3, if_neg g3]
abbrev Ten := Int × Int × Int × Int × Int × Int × Int × Int × Int × Int
def zTen (e : Int) : Ten := (0, 0, 0, 0, 0, 0, 0, 0, 0, e)
def ctlS (s : ByteArray) : Int := bt s 0 / 16
def unn (s : ByteArray) (i : Int) : Int × Bool := (subchannel_unnumber.f (bt s i)).getD (0, false)
theorem unn_get (s : ByteArray) (i : Int) : subchannel_unnumber.f (bt s i) = some ((unn s i).1, (unn s i).2) ∧ ((unn s i).2 = true → (unn s i).1 = refTrk (bt s i) ∧ 0 ≤ (unn s i).1 ∧ (unn s i).1 < 200) ∧ ((unn s i).2 = false → refTrk (bt s i) = bt s i ∧ isSp (bt s i) = false ∧ subchannel_number.f (bt s i) ≠ some (bt s i)) := by
 have hb := bt_range s i
 obtain ⟨n, ok, h1, h2, h3⟩ := trk_all hb.1 hb.2
 unfold unn
 rw [h1]
 exact ⟨rfl, h2, h3⟩
def qOf (s : ByteArray) (t p : Int) : Ten := (ctlS s, t, p, (dec0 s 3).1, (dec0 s 3).2.1, (dec0 s 3).2.2.1, (dec0 s 7).1, (dec0 s 7).2.1, (dec0 s 7).2.2.1, 0)
def qvS (s : ByteArray) (t p : Int) : Bool := qvB (ctlS s) t p (dec0 s 3).1 (dec0 s 3).2.1 (dec0 s 3).2.2.1 (dec0 s 7).1 (dec0 s 7).2.1 (dec0 s 7).2.2.1
def enS (s : ByteArray) (t p : Int) : ByteArray := encS (ctlS s) t p (dec0 s 3).1 (dec0 s 3).2.1 (dec0 s 3).2.2.1 (dec0 s 7).1 (dec0 s 7).2.1 (dec0 s 7).2.2.1
def okP (s : ByteArray) : Prop := (unn s 1).2 = true ∧ (unn s 2).2 = true ∧ (dec0 s 3).2.2.2 = 0 ∧ (dec0 s 7).2.2.2 = 0 ∧ qvS s (unn s 1).1 (unn s 2).1 = true ∧ enS s (unn s 1).1 (unn s 2).1 = s
def okR (s : ByteArray) : Prop := (dec0 s 3).2.2.2 = 0 ∧ (dec0 s 7).2.2.2 = 0 ∧ bt s 6 = 0 ∧ bt s 0 % 16 = 1 ∧ qvS s (refTrk (bt s 1)) (refTrk (bt s 2)) = true ∧ enS s (refTrk (bt s 1)) (refTrk (bt s 2)) = s
theorem refencode_at (k : Nat) (hk : 101 ≤ k) (c t p m1 s1 f1 m2 s2 f2 : Int) : masterdiscref10_Encode.f k c t p m1 s1 f1 m2 s2 f2 = if qvB c t p m1 s1 f1 m2 s2 f2 = true then some (encS c t p m1 s1 f1 m2 s2 f2, 0) else some (⟨#[]⟩, 1) := by
 have h := refencode_eq c t p m1 s1 f1 m2 s2 f2
 by_cases hv : qvB c t p m1 s1 f1 m2 s2 f2 = true
 · rw [if_pos hv] at h ⊢
   exact at_rounds (g := fun k => masterdiscref10_Encode.f k c t p m1 s1 f1 m2 s2 f2) (masterdiscref10_Encode.mono _ _ _ _ _ _ _ _ _) hk h
 · rw [if_neg hv] at h ⊢
   exact at_rounds (g := fun k => masterdiscref10_Encode.f k c t p m1 s1 f1 m2 s2 f2) (masterdiscref10_Encode.mono _ _ _ _ _ _ _ _ _) hk h
theorem extract10_size (s : ByteArray) (hs : s.size = 12) : (s.extract 0 10).size = 10 := by
 rw [ByteArray.size_extract]; omega
theorem dec_short (s : ByteArray) (hs : s.size ≠ 12) (k : Nat) : subchannel_Decode.f k s = some (zTen 1) ∧ masterdiscref10_Decode.f k s = some (zTen 1) := by
 unfold subchannel_Decode.f masterdiscref10_Decode.f
 rw [if_neg (by omega), if_neg (by omega)]
 exact ⟨rfl, rfl⟩
theorem dec_check (s : ByteArray) (hs : s.size = 12) (hc : chkS (s.extract 0 10) ≠ s.extract 10 s.size) (k : Nat) (hk : 101 ≤ k) : subchannel_Decode.f k s = some (zTen 9) ∧ masterdiscref10_Decode.f k s = some (zTen 9) := by
 have hz := extract10_size s hs
 have c1 := check_plain (s.extract 0 10) (by omega)
 have c2 := refcheck_plain (s.extract 0 10) (by omega)
 rw [hz] at c2
 have c3 := at_rounds (g := fun k => masterdiscref10_check.f k (s.extract 0 10)) (masterdiscref10_check.mono _) (k' := k) (by omega) c2
 constructor
 · unfold subchannel_Decode.f
   rw [if_pos (by omega), if_pos (by omega), if_pos (by omega), c1]
   simp only [Option.bind_some]
   rw [if_neg (fun h => hc ((str_eq _ _).mp h))]
   rfl
 · unfold masterdiscref10_Decode.f
   rw [if_pos (by omega), if_pos (by omega), if_pos (by omega), c3]
   simp only [Option.bind_some]
   rw [if_neg (fun h => hc ((str_eq _ _).mp h).symm)]
   rfl
open Classical in
theorem dec_prog (s : ByteArray) (hs : s.size = 12) (hc : chkS (s.extract 0 10) = s.extract 10 s.size) (k : Nat) : subchannel_Decode.f (k + 1) s = if okP s then some (qOf s (unn s 1).1 (unn s 2).1) else some (zTen 10) := by
 have hz := extract10_size s hs
 have c1 := check_plain (s.extract 0 10) (by omega)
 have u1 := (unn_get s 1).1
 have u2 := (unn_get s 2).1
 have d3 := (adDec_eq s hs 3 (by omega) (by omega) 0).1
 have d7 := (adDec_eq s hs 7 (by omega) (by omega) 0).1
 have hb0 := bt_range s 0
 have ec : wrap64 (bt s 0 / 16) = ctlS s := by unfold ctlS wrap64; omega
 have j0t : ∀ y0 y1 y2 y3 y4 y5 y6 y7 y8, subchannel_Decode.j0 (k + 1) true y0 y1 y2 y3 y4 y5 y6 y7 y8 = some (zTen 10) := fun _ _ _ _ _ _ _ _ _ => by simp only [subchannel_Decode.j0]; rw [if_pos trivial]; rfl
 unfold subchannel_Decode.f
 rw [if_pos (by omega), if_pos (by omega), if_pos (by omega), c1]
 simp only [Option.bind_some]
 rw [if_pos ((str_eq _ _).mpr hc), if_pos (by omega), if_pos (by omega), u1]
 simp only [Option.bind_some]
 rw [if_pos (by omega), u2]
 simp only [Option.bind_some]
 rw [d3]
 simp only [Option.bind_some]
 rw [d7]
 simp only [Option.bind_some]
 rw [ec, encode_eq]
 have key : ∀ (g : Prop) [Decidable g] (ag : ByteArray), (if (unn s 1).2 = true then (if (unn s 2).2 = true then (if (dec0 s 3).2.2.2 = 0 then (if (dec0 s 7).2.2.2 = 0 then (if g then (subchannel_Decode.j0 (k + 1) (ag.toList != s.toList) (ctlS s) (unn s 1).1 (unn s 2).1 (dec0 s 3).1 (dec0 s 3).2.1 (dec0 s 3).2.2.1 (dec0 s 7).1 (dec0 s 7).2.1 (dec0 s 7).2.2.1) else (subchannel_Decode.j0 (k + 1) true (ctlS s) (unn s 1).1 (unn s 2).1 (dec0 s 3).1 (dec0 s 3).2.1 (dec0 s 3).2.2.1 (dec0 s 7).1 (dec0 s 7).2.1 (dec0 s 7).2.2.1)) else (subchannel_Decode.j0 (k + 1) true (ctlS s) (unn s 1).1 (unn s 2).1 (dec0 s 3).1 (dec0 s 3).2.1 (dec0 s 3).2.2.1 (dec0 s 7).1 (dec0 s 7).2.1 (dec0 s 7).2.2.1)) else (subchannel_Decode.j0 (k + 1) true (ctlS s) (unn s 1).1 (unn s 2).1 (dec0 s 3).1 (dec0 s 3).2.1 (dec0 s 3).2.2.1 (dec0 s 7).1 (dec0 s 7).2.1 (dec0 s 7).2.2.1)) else (subchannel_Decode.j0 (k + 1) true (ctlS s) (unn s 1).1 (unn s 2).1 (dec0 s 3).1 (dec0 s 3).2.1 (dec0 s 3).2.2.1 (dec0 s 7).1 (dec0 s 7).2.1 (dec0 s 7).2.2.1)) else (subchannel_Decode.j0 (k + 1) true (ctlS s) (unn s 1).1 (unn s 2).1 (dec0 s 3).1 (dec0 s 3).2.1 (dec0 s 3).2.2.1 (dec0 s 7).1 (dec0 s 7).2.1 (dec0 s 7).2.2.1)) = if (unn s 1).2 = true ∧ (unn s 2).2 = true ∧ (dec0 s 3).2.2.2 = 0 ∧ (dec0 s 7).2.2.2 = 0 ∧ g ∧ ag = s then some (qOf s (unn s 1).1 (unn s 2).1) else some (zTen 10) := by
  intro g _ ag
  by_cases a1 : (unn s 1).2 = true
  case neg => rw [if_neg a1, j0t, if_neg (fun h => a1 h.1)]
  rw [if_pos a1]
  by_cases a2 : (unn s 2).2 = true
  case neg => rw [if_neg a2, j0t, if_neg (fun h => a2 h.2.1)]
  rw [if_pos a2]
  by_cases a3 : (dec0 s 3).2.2.2 = 0
  case neg => rw [if_neg a3, j0t, if_neg (fun h => a3 h.2.2.1)]
  rw [if_pos a3]
  by_cases a4 : (dec0 s 7).2.2.2 = 0
  case neg => rw [if_neg a4, j0t, if_neg (fun h => a4 h.2.2.2.1)]
  rw [if_pos a4]
  by_cases a5 : g
  case neg => rw [if_neg a5, j0t, if_neg (fun h => a5 h.2.2.2.2.1)]
  rw [if_pos a5]
  by_cases a6 : ag = s
  · rw [if_pos ⟨a1, a2, a3, a4, a5, a6⟩, a6, show (s.toList != s.toList) = false by simp]
    simp only [subchannel_Decode.j0]
    rw [if_neg (by decide)]
    rfl
  · have : (ag.toList != s.toList) = true := bne_iff_ne.mpr (fun h => a6 ((str_eq _ _).mp h))
    rw [this, j0t, if_neg (fun h => a6 h.2.2.2.2.2)]
 by_cases hv : qvB (ctlS s) (unn s 1).1 (unn s 2).1 (dec0 s 3).1 (dec0 s 3).2.1 (dec0 s 3).2.2.1 (dec0 s 7).1 (dec0 s 7).2.1 (dec0 s 7).2.2.1 = true
 · rw [if_pos hv]
   simp only [Option.bind_some]
   rw [key]
   refine ite_iff ⟨fun h => ⟨h.1, h.2.1, h.2.2.1, h.2.2.2.1, hv, h.2.2.2.2.2⟩, fun h => ⟨h.1, h.2.1, h.2.2.1, h.2.2.2.1, trivial, h.2.2.2.2.2⟩⟩
 · rw [if_neg hv]
   simp only [Option.bind_some]
   rw [key, if_neg (fun h => by have := h.2.2.2.2.1; revert this; decide), if_neg (fun h => hv h.2.2.2.2.1)]
theorem refTrk_get (s : ByteArray) (i : Int) (K : Nat) : ∃ x e, masterdiscref01_FromBCD.f (bt s i) = some (x, e) ∧ (e = 0 → x = refTrk (bt s i)) ∧ (¬ e = 0 → bt s i = refTrk (bt s i)) := by
 obtain ⟨x, e, -, h, -⟩ := fb_get s i
 refine ⟨x, e, h, fun g => ?_, fun g => ?_⟩ <;> unfold refTrk <;> rw [h] <;> dsimp only
 · rw [if_pos g]
 · rw [if_neg g]
open Classical in
theorem dec_ref (s : ByteArray) (hs : s.size = 12) (hc : chkS (s.extract 0 10) = s.extract 10 s.size) : masterdiscref10_Decode.f 200 s = if okR s then some (qOf s (refTrk (bt s 1)) (refTrk (bt s 2))) else some (zTen 10) := by
 have hz := extract10_size s hs
 have c2 := refcheck_plain (s.extract 0 10) (by omega)
 rw [hz] at c2
 have c3 := at_rounds (g := fun k => masterdiscref10_check.f k (s.extract 0 10)) (masterdiscref10_check.mono _) (k' := 200) (by omega) c2
 have d3 := (adDec_eq s hs 3 (by omega) (by omega) 199).2
 have d7 := (adDec_eq s hs 7 (by omega) (by omega) 199).2
 have hb0 := bt_range s 0
 have hb1 := bt_range s 1
 have hb2 := bt_range s 2
 have et : Int.tmod (bt s 0) 16 = bt s 0 % 16 := Int.tmod_eq_emod_of_nonneg hb0.1
 have ed : Int.tdiv (bt s 0) 16 = bt s 0 / 16 := Int.tdiv_eq_ediv_of_nonneg hb0.1
 have ec : wrap64 (bt s 0 / 16 % 256) = ctlS s := by unfold ctlS wrap64; omega
 have ew1 : wrap64 (bt s 1) = bt s 1 := by unfold wrap64; omega
 have ew2 : wrap64 (bt s 2) = bt s 2 := by unfold wrap64; omega
 have j0t : ∀ y0 y1 y2 y3 y4 y5, masterdiscref10_Decode.j0 200 s true y0 y1 y2 y3 y4 y5 = some (zTen 10) := fun _ _ _ _ _ _ => by simp only [masterdiscref10_Decode.j0]; rw [if_pos trivial]; rfl
 have j3t : ∀ k y0 y1 y2 y3 y4 y5 y6 y7 y8, masterdiscref10_Decode.j3 (k + 1) true y0 y1 y2 y3 y4 y5 y6 y7 y8 = some (zTen 10) := fun _ _ _ _ _ _ _ _ _ _ => by simp only [masterdiscref10_Decode.j3]; rw [if_pos trivial]; rfl
 have j2 : masterdiscref10_Decode.j2 198 s (refTrk (bt s 1)) (refTrk (bt s 2)) (ctlS s) 0 0 (dec0 s 3).1 (dec0 s 3).2.1 (dec0 s 3).2.2.1 (dec0 s 7).1 (dec0 s 7).2.1 (dec0 s 7).2.2.1 = if qvS s (refTrk (bt s 1)) (refTrk (bt s 2)) = true ∧ enS s (refTrk (bt s 1)) (refTrk (bt s 2)) = s then some (qOf s (refTrk (bt s 1)) (refTrk (bt s 2))) else some (zTen 10) := by
  simp only [masterdiscref10_Decode.j2]
  rw [refencode_at 197 (by omega)]
  by_cases hv : qvB (ctlS s) (refTrk (bt s 1)) (refTrk (bt s 2)) (dec0 s 3).1 (dec0 s 3).2.1 (dec0 s 3).2.2.1 (dec0 s 7).1 (dec0 s 7).2.1 (dec0 s 7).2.2.1 = true
  · rw [if_pos hv]
    simp only [Option.bind_some]
    rw [if_pos trivial]
    by_cases he : encS (ctlS s) (refTrk (bt s 1)) (refTrk (bt s 2)) (dec0 s 3).1 (dec0 s 3).2.1 (dec0 s 3).2.2.1 (dec0 s 7).1 (dec0 s 7).2.1 (dec0 s 7).2.2.1 = s
    · rw [show ((encS (ctlS s) (refTrk (bt s 1)) (refTrk (bt s 2)) (dec0 s 3).1 (dec0 s 3).2.1 (dec0 s 3).2.2.1 (dec0 s 7).1 (dec0 s 7).2.1 (dec0 s 7).2.2.1).toList != s.toList) = false by rw [he]; simp]
      simp only [masterdiscref10_Decode.j3]
      rw [if_neg (by decide), if_pos ⟨hv, he⟩]
      rfl
    · rw [show ((encS (ctlS s) (refTrk (bt s 1)) (refTrk (bt s 2)) (dec0 s 3).1 (dec0 s 3).2.1 (dec0 s 3).2.2.1 (dec0 s 7).1 (dec0 s 7).2.1 (dec0 s 7).2.2.1).toList != s.toList) = true from bne_iff_ne.mpr (fun h => he ((str_eq _ _).mp h)), j3t, if_neg (fun h => he h.2)]
  · rw [if_neg hv]
    simp only [Option.bind_some]
    rw [if_neg (by decide), j3t, if_neg (fun h => hv h.1)]
 have j1 : masterdiscref10_Decode.j1 199 s (refTrk (bt s 1)) (ctlS s) 0 0 (dec0 s 3).1 (dec0 s 3).2.1 (dec0 s 3).2.2.1 (dec0 s 7).1 (dec0 s 7).2.1 (dec0 s 7).2.2.1 = masterdiscref10_Decode.j2 198 s (refTrk (bt s 1)) (refTrk (bt s 2)) (ctlS s) 0 0 (dec0 s 3).1 (dec0 s 3).2.1 (dec0 s 3).2.2.1 (dec0 s 7).1 (dec0 s 7).2.1 (dec0 s 7).2.2.1 := by
  obtain ⟨x, e, h1, h2, h3⟩ := refTrk_get s 2 0
  simp only [masterdiscref10_Decode.j1]
  rw [if_pos (by omega), h1]
  simp only [Option.bind_some]
  by_cases g : e = 0
  · rw [if_pos g, h2 g]
  · rw [if_neg g, ew2, ← h3 g]
 have j0f : masterdiscref10_Decode.j0 200 s false (dec0 s 3).1 (dec0 s 3).2.1 (dec0 s 3).2.2.1 (dec0 s 7).1 (dec0 s 7).2.1 (dec0 s 7).2.2.1 = masterdiscref10_Decode.j2 198 s (refTrk (bt s 1)) (refTrk (bt s 2)) (ctlS s) 0 0 (dec0 s 3).1 (dec0 s 3).2.1 (dec0 s 3).2.2.1 (dec0 s 7).1 (dec0 s 7).2.1 (dec0 s 7).2.2.1 := by
  obtain ⟨x, e, h1, h2, h3⟩ := refTrk_get s 1 0
  rw [← j1]
  simp only [masterdiscref10_Decode.j0]
  rw [if_neg (by decide), if_pos (by omega), if_pos (by omega), h1]
  simp only [Option.bind_some]
  rw [ed, ec]
  by_cases g : e = 0
  · rw [if_pos g, h2 g]
  · rw [if_neg g, ew1]
    conv => lhs; rw [h3 g]
 unfold masterdiscref10_Decode.f
 rw [if_pos (by omega), if_pos (by omega), if_pos (by omega), c3]
 simp only [Option.bind_some]
 rw [if_pos ((str_eq _ _).mpr hc.symm), d3]
 simp only [Option.bind_some]
 rw [d7]
 simp only [Option.bind_some]
 by_cases a3 : (dec0 s 3).2.2.2 = 0
 case neg => rw [if_neg a3, j0t, if_neg (fun h => a3 h.1)]
 rw [if_pos a3]
 by_cases a4 : (dec0 s 7).2.2.2 = 0
 case neg => rw [if_neg a4, j0t, if_neg (fun h => a4 h.2.1)]
 rw [if_pos a4, if_pos (by omega)]
 by_cases a5 : bt s 6 = 0
 case neg => rw [if_neg a5, j0t, if_neg (fun h => a5 h.2.2.1)]
 rw [if_pos a5, if_pos (by omega), et]
 by_cases a6 : bt s 0 % 16 = 1
 case neg =>
  rw [show (bt s 0 % 16 != 1) = true from bne_iff_ne.mpr a6, j0t, if_neg (fun h => a6 h.2.2.2.1)]
 rw [show (bt s 0 % 16 != 1) = false from bne_eq_false_iff_eq.mpr a6, j0f, j2]
 exact ite_iff ⟨fun h => ⟨a3, a4, a5, a6, h.1, h.2⟩, fun h => ⟨h.2.2.2.2.1, h.2.2.2.2.2⟩⟩
theorem bt_of_eq {a b : ByteArray} (h : a = b) (i : Int) : bt a i = bt b i := by rw [h]
theorem ok_iff (s : ByteArray) : okP s ↔ okR s := by
 have g1 := unn_get s 1
 have g2 := unn_get s 2
 constructor
 · rintro ⟨a1, a2, a3, a4, a5, a6⟩
   have hh := encS_head a5
   have e0 := hh.1
   have e6 := hh.2.2.2
   have a6' : encS (ctlS s) (unn s 1).1 (unn s 2).1 (dec0 s 3).1 (dec0 s 3).2.1 (dec0 s 3).2.2.1 (dec0 s 7).1 (dec0 s 7).2.1 (dec0 s 7).2.2.1 = s := a6
   rw [a6'] at e0 e6
   rw [(g1.2.1 a1).1, (g2.2.1 a2).1] at a5 a6
   refine ⟨a3, a4, e6, by omega, a5, a6⟩
 · rintro ⟨a3, a4, a5, a6, a7, a8⟩
   have hh := encS_head a7
   have a8' : encS (ctlS s) (refTrk (bt s 1)) (refTrk (bt s 2)) (dec0 s 3).1 (dec0 s 3).2.1 (dec0 s 3).2.2.1 (dec0 s 7).1 (dec0 s 7).2.1 (dec0 s 7).2.2.1 = s := a8
   rw [a8'] at hh
   have o1 : (unn s 1).2 = true := by
    cases ho : (unn s 1).2 with
    | true => rfl
    | false =>
     obtain ⟨h1, h2, h3⟩ := g1.2.2 ho
     have := hh.2.1
     rw [h1] at this
     exact absurd this h3
   have o2 : (unn s 2).2 = true := by
    cases ho : (unn s 2).2 with
    | true => rfl
    | false =>
     obtain ⟨h1, h2, h3⟩ := g2.2.2 ho
     have := hh.2.2.1
     rw [h1] at this
     exact absurd this h3
   refine ⟨o1, o2, a3, a4, ?_, ?_⟩
   · rw [(g1.2.1 o1).1, (g2.2.1 o2).1]; exact a7
   · rw [(g1.2.1 o1).1, (g2.2.1 o2).1]; exact a8
theorem decode_eq (s : ByteArray) : subchannel_Decode.f 200 s = masterdiscref10_Decode.f 200 s ∧ ∃ v, subchannel_Decode.f 200 s = some v := by
 by_cases hs : s.size = 12
 case neg =>
  obtain ⟨h1, h2⟩ := dec_short s hs 200
  exact ⟨h1.trans h2.symm, _, h1⟩
 by_cases hc : chkS (s.extract 0 10) = s.extract 10 s.size
 case neg =>
  obtain ⟨h1, h2⟩ := dec_check s hs hc 200 (by omega)
  exact ⟨h1.trans h2.symm, _, h1⟩
 rw [dec_prog s hs hc 199, dec_ref s hs hc]
 by_cases ho : okP s
 · rw [if_pos ho, if_pos ((ok_iff s).mp ho), ((unn_get s 1).2.1 ho.1).1, ((unn_get s 2).2.1 ho.2.1).1]
   exact ⟨rfl, _, rfl⟩
 · rw [if_neg ho, if_neg (fun h => ho ((ok_iff s).mpr h))]
   exact ⟨rfl, _, rfl⟩
end Go.Proofs.Ytpmkibggmkibeaa.G
namespace Go.Proofs.Ytpmkibggmkibeaa.G
open Go.RowKit Go.Proofs.YtpmkibggmkibeaaW.PrintWords Go.Proofs.YtpmkibggmkibeaaW.PrintLast Go.Proofs.YtpmkibggmkibeaaW.PrintMore
attribute [local go_sem] max2_int min2_int max_two min_two max_three min_three max_four min_four   -- for this text's walks alone
set_option linter.unusedVariables false
set_option linter.unusedSimpArgs false
attribute [local go_sem high] eqA27
def masterdisclaw10_SubchannelReturns.j0 : Nat → ByteArray → Option (Bool)
 | 0, _ => none
 | k + 1, x1 => (subchannel_Decode.f k x1).bind fun bt508 => (if bt508.2.2.2.2.2.2.2.2.2 = 0 then ((subchannel_Encode.f bt508.1 bt508.2.1 bt508.2.2.1 bt508.2.2.2.1 bt508.2.2.2.2.1 bt508.2.2.2.2.2.1 bt508.2.2.2.2.2.2.1 bt508.2.2.2.2.2.2.2.1 bt508.2.2.2.2.2.2.2.2.1).bind fun bt519 => (if bt519.1.toList = x1.toList then (some (bt519.2 == 0)) else (none))) else (some (bt508.1 == 0 && (bt508.2.1 == 0 && (bt508.2.2.1 == 0 && ((bt508.2.2.2.1 == 0 && (bt508.2.2.2.2.1 == 0 && (bt508.2.2.2.2.2.1 == 0))) && ((bt508.2.2.2.2.2.2.1 == 0 && (bt508.2.2.2.2.2.2.2.1 == 0 && (bt508.2.2.2.2.2.2.2.2.1 == 0))))))))))
def masterdisclaw10_SubchannelReturns.f (k : Nat) (a0_0 : Int) (a0_1 : Int) (a0_2 : Int) (a0_3 : Int) (a0_4 : Int) (a0_5 : Int) (a0_6 : Int) (a0_7 : Int) (a0_8 : Int) (a1 : ByteArray) : Option (Bool) := (masterdisclaw10_awake.f).bind fun t494 => (if t494 = true then (if (a1.size : Int) > 40 then (some true) else ((subchannel_Encode.f a0_0 a0_1 a0_2 a0_3 a0_4 a0_5 a0_6 a0_7 a0_8).bind fun bt495 => (if bt495.2 = 0 then ((subchannel_Decode.f k bt495.1).bind fun bt497 => (if (!(bt497.1 == a0_0) || (!(bt497.2.1 == a0_1) || (!(bt497.2.2.1 == a0_2) || ((!(bt497.2.2.2.1 == a0_3) || (!(bt497.2.2.2.2.1 == a0_4) || (!(bt497.2.2.2.2.2.1 == a0_5)))) || ((!(bt497.2.2.2.2.2.2.1 == a0_6) || (!(bt497.2.2.2.2.2.2.2.1 == a0_7) || (!(bt497.2.2.2.2.2.2.2.2.1 == a0_8))))))))) = true then (none) else (if bt497.2.2.2.2.2.2.2.2.2 = 0 then (if (bt495.1.size : Int) = 12 then (masterdisclaw10_SubchannelReturns.j0 k a1) else (none)) else (none)))) else (if bt495.1.toList = ([] : List UInt8) then (if bt495.2 = 1 then (masterdisclaw10_SubchannelReturns.j0 k a1) else (none)) else (none))))) else (none))
theorem masterdisclaw10_SubchannelReturns.mono_l : ∀ k, (∀ y0, LeO (masterdisclaw10_SubchannelReturns.j0 k y0) (masterdisclaw10_SubchannelReturns.j0 (k + 1) y0))
 | 0 => fun _ r h => by simp [masterdisclaw10_SubchannelReturns.j0] at h
 | k + 1 => by
  have ih0 := masterdisclaw10_SubchannelReturns.mono_l k
  · intro y0
    unfold masterdisclaw10_SubchannelReturns.j0
    repeat' first
    | (with_reducible exact ih0 _)
    | (with_reducible exact subchannel_Decode.mono _ _)
    | (with_reducible exact LeO.refl _)
    | (with_reducible exact LeO.none _)
    | (with_reducible refine LeO.ite ?_ ?_)
    | (with_reducible refine LeO.bind ?_ (fun _ => ?_))
    | exact ih0 _
    | exact subchannel_Decode.mono _ _
    | exact LeO.none _
    | refine LeO.ite ?_ ?_
    | refine LeO.bind ?_ (fun _ => ?_)
theorem masterdisclaw10_SubchannelReturns.mono : ∀ a0 a1 a2 a3 a4 a5 a6 a7 a8 a9 k, LeO (masterdisclaw10_SubchannelReturns.f k a0 a1 a2 a3 a4 a5 a6 a7 a8 a9) (masterdisclaw10_SubchannelReturns.f (k + 1) a0 a1 a2 a3 a4 a5 a6 a7 a8 a9) := by
 intro a0 a1 a2 a3 a4 a5 a6 a7 a8 a9 k
 have ih0 := masterdisclaw10_SubchannelReturns.mono_l k
 unfold masterdisclaw10_SubchannelReturns.f
 repeat' first
  | (with_reducible exact ih0 _)
  | (with_reducible exact subchannel_Decode.mono _ _)
  | (with_reducible exact LeO.refl _)
  | (with_reducible exact LeO.none _)
  | (with_reducible refine LeO.ite ?_ ?_)
  | (with_reducible refine LeO.bind ?_ (fun _ => ?_))
  | exact ih0 _
  | exact subchannel_Decode.mono _ _
  | exact LeO.none _
  | refine LeO.ite ?_ ?_
  | refine LeO.bind ?_ (fun _ => ?_)
set_option maxHeartbeats 8000000 in
set_option maxRecDepth 100000 in
theorem masterdisclaw10_SubchannelReturns.calls (k : Nat) (a0_0 : Int) (a0_1 : Int) (a0_2 : Int) (a0_3 : Int) (a0_4 : Int) (a0_5 : Int) (a0_6 : Int) (a0_7 : Int) (a0_8 : Int) (a1 : ByteArray) (r : Bool) (w : World) (h : masterdisclaw10_SubchannelReturns.f k a0_0 a0_1 a0_2 a0_3 a0_4 a0_5 a0_6 a0_7 a0_8 a1 = some r) :
 Calls Try.prog 7 #[.agg #[.int .i64 a0_0, .int .i64 a0_1, .int .i64 a0_2, .int .i64 a0_3, .int .i64 a0_4, .int .i64 a0_5, .int .i64 a0_6, .int .i64 a0_7, .int .i64 a0_8], .string a1] w fun e w' => e = .returned (.bool r) ∧ Below w.heap.size w w' := by
 have hu27 := Try.underlying27
 have HB := Aside0.mk (Below.refl w.heap.size w)
 have H : ((masterdisclaw10_awake.f).bind fun t494 => (if t494 = true then (if (a1.size : Int) > 40 then (some true) else ((subchannel_Encode.f a0_0 a0_1 a0_2 a0_3 a0_4 a0_5 a0_6 a0_7 a0_8).bind fun bt495 => (if bt495.2 = 0 then ((subchannel_Decode.f k bt495.1).bind fun bt497 => (if (!(bt497.1 == a0_0) || (!(bt497.2.1 == a0_1) || (!(bt497.2.2.1 == a0_2) || ((!(bt497.2.2.2.1 == a0_3) || (!(bt497.2.2.2.2.1 == a0_4) || (!(bt497.2.2.2.2.2.1 == a0_5)))) || ((!(bt497.2.2.2.2.2.2.1 == a0_6) || (!(bt497.2.2.2.2.2.2.2.1 == a0_7) || (!(bt497.2.2.2.2.2.2.2.2.1 == a0_8))))))))) = true then (none) else (if bt497.2.2.2.2.2.2.2.2.2 = 0 then (if (bt495.1.size : Int) = 12 then (masterdisclaw10_SubchannelReturns.j0 k a1) else (none)) else (none)))) else (if bt495.1.toList = ([] : List UInt8) then (if bt495.2 = 1 then (masterdisclaw10_SubchannelReturns.j0 k a1) else (none)) else (none))))) else (none))) = some r := h
 clear h
 replace H := Option.bind_eq_some_iff.mp H
 obtain ⟨t494, A30, H⟩ := H
 replace H : (if t494 = true then (if (a1.size : Int) > 40 then (some true) else ((subchannel_Encode.f a0_0 a0_1 a0_2 a0_3 a0_4 a0_5 a0_6 a0_7 a0_8).bind fun bt495 => (if bt495.2 = 0 then ((subchannel_Decode.f k bt495.1).bind fun bt497 => (if (!(bt497.1 == a0_0) || (!(bt497.2.1 == a0_1) || (!(bt497.2.2.1 == a0_2) || ((!(bt497.2.2.2.1 == a0_3) || (!(bt497.2.2.2.2.1 == a0_4) || (!(bt497.2.2.2.2.2.1 == a0_5)))) || ((!(bt497.2.2.2.2.2.2.1 == a0_6) || (!(bt497.2.2.2.2.2.2.2.1 == a0_7) || (!(bt497.2.2.2.2.2.2.2.2.1 == a0_8))))))))) = true then (none) else (if bt497.2.2.2.2.2.2.2.2.2 = 0 then (if (bt495.1.size : Int) = 12 then (masterdisclaw10_SubchannelReturns.j0 k a1) else (none)) else (none)))) else (if bt495.1.toList = ([] : List UInt8) then (if bt495.2 = 1 then (masterdisclaw10_SubchannelReturns.j0 k a1) else (none)) else (none))))) else (none)) = some r := H
 have A3 := Aside0.mk A30
 clear A30
 by_cases c4 : t494 = true
 · subst c4
   have H1 : (if (a1.size : Int) > 40 then (some true) else ((subchannel_Encode.f a0_0 a0_1 a0_2 a0_3 a0_4 a0_5 a0_6 a0_7 a0_8).bind fun bt495 => (if bt495.2 = 0 then ((subchannel_Decode.f k bt495.1).bind fun bt497 => (if (!(bt497.1 == a0_0) || (!(bt497.2.1 == a0_1) || (!(bt497.2.2.1 == a0_2) || ((!(bt497.2.2.2.1 == a0_3) || (!(bt497.2.2.2.2.1 == a0_4) || (!(bt497.2.2.2.2.2.1 == a0_5)))) || ((!(bt497.2.2.2.2.2.2.1 == a0_6) || (!(bt497.2.2.2.2.2.2.2.1 == a0_7) || (!(bt497.2.2.2.2.2.2.2.2.1 == a0_8))))))))) = true then (none) else (if bt497.2.2.2.2.2.2.2.2.2 = 0 then (if (bt495.1.size : Int) = 12 then (masterdisclaw10_SubchannelReturns.j0 k a1) else (none)) else (none)))) else (if bt495.1.toList = ([] : List UInt8) then (if bt495.2 = 1 then (masterdisclaw10_SubchannelReturns.j0 k a1) else (none)) else (none))))) = some r := by rw [if_pos rfl] at H; exact H
   clear H
   have H := H1
   clear H1
   by_cases c5 : (a1.size : Int) > 40
   · rw [if_pos c5] at H
     have c5b0 : decide (40 < (a1.size : Int)) = true := decide_eq_true c5
     have c5b1 : decide (40 < a1.size) = true := decide_eq_true (by omega)
     clear c5
     obtain rfl := Option.some.inj H
     go_enter Try.func7, Try.ntmps7
     go_wp2_with (first | ((with_reducible refine gate_dst (N := 2) rfl ?_); (try (refine gate_guard (by rfl) ?_; dsimp only)); refine box_event ?hg (N := 2) ?hd (cs := #[.int .i64 a0_0, .int .i64 a0_1, .int .i64 a0_2, .int .i64 a0_3, .int .i64 a0_4, .int .i64 a0_5, .int .i64 a0_6, .int .i64 a0_7, .int .i64 a0_8]) (t := 27) ?hr ?_; (case hd => rfl); (case hg => rfl); (case hr => first | (go_simp; done) | (go_simp; rfl)); intro gb493 hg w6 hbox hb; have n0_ := Aside0.mk (below_step (by repeat (first | (with_reducible first | exact HB.out | apply below_alloc | apply pw_below_drewN | apply below_drew1) | exact HB.out)) hb); have n1_ := Aside0.mk (hbox); have n2_ := Aside0.mk ((by rw [hg]; exact (below_size (by repeat (first | (with_reducible first | exact HB.out | apply below_alloc | apply pw_below_drewN | apply below_drew1) | exact HB.out))) : w.heap.size ≤ gb493)); have n3_ := Aside0.mk ((by rw [hg]; exact (below_size (by repeat (first | (with_reducible first | exact HB.out | apply below_alloc | apply pw_below_drewN | apply below_drew1) | exact HB.out))) : w.heap.size ≤ gb493)); clear HB; have HB := n0_; have BK493 := n1_; have GW493 := n2_; have GE493 := n3_; clear n0_ n1_ n2_ n3_; clear hb hbox hg) | ((with_reducible refine gate_callee (f := 10) rfl ?_); refine goesL_ (some 13) rfl rfl Try.func10 (by kernel_rfl) rfl #[] rfl (by (try simp only [List.map_toArray, List.map_cons, List.map_nil]); first | done | rfl | (simp only [List.length_drop, List.length_take]; rfl)) ?_; (with_reducible refine (masterdisclaw10_awake.calls  true _ A3.out).mono ?_); rintro e w7 ⟨rfl, hb⟩; refine ⟨_, rfl, ?_⟩; have n0_ := Aside0.mk (blk_below (g := gb493) (o := .cells #[.int .i64 a0_0, .int .i64 a0_1, .int .i64 a0_2, .int .i64 a0_3, .int .i64 a0_4, .int .i64 a0_5, .int .i64 a0_6, .int .i64 a0_7, .int .i64 a0_8] 27 (0, 0)) (by (with_reducible repeat (first | refine blk_drewN ?_ _ | refine blk_drew ?_ | refine blk_alloc ?_ _)); exact BK493.out) hb); have n1_ := Aside0.mk (below_step (by repeat (first | (with_reducible first | exact HB.out | apply below_alloc | apply pw_below_drewN | apply below_drew1 | refine below_set ?_ GE493.out) | exact HB.out)) hb); clear BK493; clear HB; have BK493 := n0_; have HB := n1_; clear n0_ n1_; (try clear hb); (try clear hb2); (try clear hk); (try clear hi)))
     go_ret
     exact ⟨by first | rfl | (simp [errW_none, errW_some] <;> rfl) | (simp [*, errW_none, errW_some] <;> rfl), by repeat (first | (with_reducible first | exact HB.out | apply below_alloc | apply pw_below_drewN | apply below_drew1 | refine below_set ?_ GE493.out) | exact HB.out)⟩
   · rw [if_neg c5] at H
     have c5b0 : decide (40 < (a1.size : Int)) = false := decide_eq_false c5
     have c5b1 : decide (40 < a1.size) = false := decide_eq_false (by omega)
     clear c5
     replace H := Option.bind_eq_some_iff.mp H
     obtain ⟨⟨t495, t496⟩, A80, H⟩ := H
     replace H : (if t496 = 0 then ((subchannel_Decode.f k t495).bind fun bt497 => (if (!(bt497.1 == a0_0) || (!(bt497.2.1 == a0_1) || (!(bt497.2.2.1 == a0_2) || ((!(bt497.2.2.2.1 == a0_3) || (!(bt497.2.2.2.2.1 == a0_4) || (!(bt497.2.2.2.2.2.1 == a0_5)))) || ((!(bt497.2.2.2.2.2.2.1 == a0_6) || (!(bt497.2.2.2.2.2.2.2.1 == a0_7) || (!(bt497.2.2.2.2.2.2.2.2.1 == a0_8))))))))) = true then (none) else (if bt497.2.2.2.2.2.2.2.2.2 = 0 then (if (t495.size : Int) = 12 then (masterdisclaw10_SubchannelReturns.j0 k a1) else (none)) else (none)))) else (if t495.toList = ([] : List UInt8) then (if t496 = 1 then (masterdisclaw10_SubchannelReturns.j0 k a1) else (none)) else (none))) = some r := H
     have A8 := Aside0.mk A80
     clear A80
     have HC9 := Aside0.mk H
     clear H
     go_enter Try.func7, Try.ntmps7
     go_upto_if 24 with (first | ((with_reducible refine gate_dst (N := 2) rfl ?_); (try (refine gate_guard (by rfl) ?_; dsimp only)); refine box_event ?hg (N := 2) ?hd (cs := #[.int .i64 a0_0, .int .i64 a0_1, .int .i64 a0_2, .int .i64 a0_3, .int .i64 a0_4, .int .i64 a0_5, .int .i64 a0_6, .int .i64 a0_7, .int .i64 a0_8]) (t := 27) ?hr ?_; (case hd => rfl); (case hg => rfl); (case hr => first | (go_simp; done) | (go_simp; rfl)); intro gb493 hg w10 hbox hb; have n0_ := Aside0.mk (below_step (by repeat (first | (with_reducible first | exact HB.out | apply below_alloc | apply pw_below_drewN | apply below_drew1) | exact HB.out)) hb); have n1_ := Aside0.mk (hbox); have n2_ := Aside0.mk ((by rw [hg]; exact (below_size (by repeat (first | (with_reducible first | exact HB.out | apply below_alloc | apply pw_below_drewN | apply below_drew1) | exact HB.out))) : w.heap.size ≤ gb493)); have n3_ := Aside0.mk ((by rw [hg]; exact (below_size (by repeat (first | (with_reducible first | exact HB.out | apply below_alloc | apply pw_below_drewN | apply below_drew1) | exact HB.out))) : w.heap.size ≤ gb493)); clear HB; have HB := n0_; have BK493 := n1_; have GW493 := n2_; have GE493 := n3_; clear n0_ n1_ n2_ n3_; clear hb hbox hg) | ((with_reducible refine gate_callee (f := 10) rfl ?_); refine goesL_ (some 13) rfl rfl Try.func10 (by kernel_rfl) rfl #[] rfl (by (try simp only [List.map_toArray, List.map_cons, List.map_nil]); first | done | rfl | (simp only [List.length_drop, List.length_take]; rfl)) ?_; (with_reducible refine (masterdisclaw10_awake.calls  true _ A3.out).mono ?_); rintro e w11 ⟨rfl, hb⟩; refine ⟨_, rfl, ?_⟩; have n0_ := Aside0.mk (blk_below (g := gb493) (o := .cells #[.int .i64 a0_0, .int .i64 a0_1, .int .i64 a0_2, .int .i64 a0_3, .int .i64 a0_4, .int .i64 a0_5, .int .i64 a0_6, .int .i64 a0_7, .int .i64 a0_8] 27 (0, 0)) (by (with_reducible repeat (first | refine blk_drewN ?_ _ | refine blk_drew ?_ | refine blk_alloc ?_ _)); exact BK493.out) hb); have n1_ := Aside0.mk (below_step (by repeat (first | (with_reducible first | exact HB.out | apply below_alloc | apply pw_below_drewN | apply below_drew1 | refine below_set ?_ GE493.out) | exact HB.out)) hb); clear BK493; clear HB; have BK493 := n0_; have HB := n1_; clear n0_ n1_; (try clear hb); (try clear hb2); (try clear hk); (try clear hi); have hcz12_0 : w11.cell? ⟨gb493, 0, none⟩ = some (.int .i64 a0_0) := (blk_cell BK493.out 0).trans rfl; have hcz12_1 : w11.cell? ⟨gb493, 1, none⟩ = some (.int .i64 a0_1) := (blk_cell BK493.out 1).trans rfl; have hcz12_2 : w11.cell? ⟨gb493, 2, none⟩ = some (.int .i64 a0_2) := (blk_cell BK493.out 2).trans rfl; have hcz12_3 : w11.cell? ⟨gb493, 3, none⟩ = some (.int .i64 a0_3) := (blk_cell BK493.out 3).trans rfl; have hcz12_4 : w11.cell? ⟨gb493, 4, none⟩ = some (.int .i64 a0_4) := (blk_cell BK493.out 4).trans rfl; have hcz12_5 : w11.cell? ⟨gb493, 5, none⟩ = some (.int .i64 a0_5) := (blk_cell BK493.out 5).trans rfl; have hcz12_6 : w11.cell? ⟨gb493, 6, none⟩ = some (.int .i64 a0_6) := (blk_cell BK493.out 6).trans rfl; have hcz12_7 : w11.cell? ⟨gb493, 7, none⟩ = some (.int .i64 a0_7) := (blk_cell BK493.out 7).trans rfl; have hcz12_8 : w11.cell? ⟨gb493, 8, none⟩ = some (.int .i64 a0_8) := (blk_cell BK493.out 8).trans rfl; have hfz12_0 := blk_frozen BK493.out 0; have hfz12_1 := blk_frozen BK493.out 1; have hfz12_2 := blk_frozen BK493.out 2; have hfz12_3 := blk_frozen BK493.out 3; have hfz12_4 := blk_frozen BK493.out 4; have hfz12_5 := blk_frozen BK493.out 5; have hfz12_6 := blk_frozen BK493.out 6; have hfz12_7 := blk_frozen BK493.out 7; have hfz12_8 := blk_frozen BK493.out 8) | ((with_reducible refine gate_callee (f := 18) rfl ?_); refine goesL_ (some 20) rfl rfl Try.func18 (by kernel_rfl) rfl #[.agg #[.int .i64 a0_0, .int .i64 a0_1, .int .i64 a0_2, .int .i64 a0_3, .int .i64 a0_4, .int .i64 a0_5, .int .i64 a0_6, .int .i64 a0_7, .int .i64 a0_8]] rfl (by (try simp only [List.map_toArray, List.map_cons, List.map_nil]); first | done | rfl | (simp only [List.length_drop, List.length_take]; rfl)) ?_; (with_reducible refine (subchannel_Encode.calls a0_0 a0_1 a0_2 a0_3 a0_4 a0_5 a0_6 a0_7 a0_8 t495 t496 _ A8.out).mono ?_); rintro e w13 ⟨rfl, hb⟩; refine ⟨_, rfl, ?_⟩; have n0_ := Aside0.mk (blk_below (g := gb493) (o := .cells #[.int .i64 a0_0, .int .i64 a0_1, .int .i64 a0_2, .int .i64 a0_3, .int .i64 a0_4, .int .i64 a0_5, .int .i64 a0_6, .int .i64 a0_7, .int .i64 a0_8] 27 (0, 0)) (by (with_reducible repeat (first | refine blk_drewN ?_ _ | refine blk_drew ?_ | refine blk_alloc ?_ _)); exact BK493.out) hb); have n1_ := Aside0.mk (below_step (by repeat (first | (with_reducible first | exact HB.out | apply below_alloc | apply pw_below_drewN | apply below_drew1 | refine below_set ?_ GE493.out) | exact HB.out)) hb); clear BK493; clear HB; have BK493 := n0_; have HB := n1_; clear n0_ n1_; (try clear hb); (try clear hb2); (try clear hk); (try clear hi)))
     (try simp only [Act.put, List.setIfInBounds_toArray, List.set_cons_zero, List.set_cons_succ])
     go_cut [] (fun wc => ∃ (kq : Nat), Aside0 (masterdisclaw10_SubchannelReturns.j0 kq a1 = some r) ∧ Aside0 (kq ≤ k) ∧ Aside0 (wc.heap[gb493]? = some (.cells #[.int .i64 a0_0, .int .i64 a0_1, .int .i64 a0_2, .int .i64 a0_3, .int .i64 a0_4, .int .i64 a0_5, .int .i64 a0_6, .int .i64 a0_7, .int .i64 a0_8] 27 (0, 0))) ∧ Aside0 (Below w.heap.size w wc))
     case first =>
      have H := HC9.out
      clear HC9
      by_cases c14 : t496 = 0
      · rw [if_pos c14] at H
        have c14b0 : (t496 == 0) = true := beq_iff_eq.mpr c14
        have c14b1 : (t496 != 0) = false := bne_eq_false_iff_eq.mpr c14
        clear c14
        (first | rw [c14b0] | (simp only [i64_w, i32_w]; rw [c14b0]) | skip)
        replace H := Option.bind_eq_some_iff.mp H
        obtain ⟨⟨t497, t498, t499, t500, t501, t502, t503, t504, t505, t506⟩, A150, H⟩ := H
        replace H : (if (!(t497 == a0_0) || (!(t498 == a0_1) || (!(t499 == a0_2) || ((!(t500 == a0_3) || (!(t501 == a0_4) || (!(t502 == a0_5)))) || ((!(t503 == a0_6) || (!(t504 == a0_7) || (!(t505 == a0_8))))))))) = true then (none) else (if t506 = 0 then (if (t495.size : Int) = 12 then (masterdisclaw10_SubchannelReturns.j0 k a1) else (none)) else (none))) = some r := H
        have A15 := Aside0.mk A150
        clear A150
        by_cases c16 : (!(t497 == a0_0) || (!(t498 == a0_1) || (!(t499 == a0_2) || ((!(t500 == a0_3) || (!(t501 == a0_4) || (!(t502 == a0_5)))) || ((!(t503 == a0_6) || (!(t504 == a0_7) || (!(t505 == a0_8))))))))) = true
        · rw [if_pos c16] at H
          exact absurd H (by simp)
        · rw [if_neg c16] at H
          have c16b0 : (!(t497 == a0_0) || (!(t498 == a0_1) || (!(t499 == a0_2) || ((!(t500 == a0_3) || (!(t501 == a0_4) || (!(t502 == a0_5)))) || ((!(t503 == a0_6) || (!(t504 == a0_7) || (!(t505 == a0_8))))))))) = false := by simpa using c16
          clear c16
          by_cases c17 : t506 = 0
          · rw [if_pos c17] at H
            have c17b0 : (t506 == 0) = true := beq_iff_eq.mpr c17
            have c17b1 : (t506 != 0) = false := bne_eq_false_iff_eq.mpr c17
            clear c17
            by_cases c18 : (t495.size : Int) = 12
            · rw [if_pos c18] at H
              have c18b0 : ((t495.size : Int) == 12) = true := beq_iff_eq.mpr c18
              have c18b1 : ((t495.size : Int) != 12) = false := bne_eq_false_iff_eq.mpr c18
              clear c18
              have H' := Aside0.mk H
              clear H
              go_wp2_with (first | ((with_reducible refine gate_callee (f := 23) rfl ?_); refine goesL_ (some 27) rfl rfl Try.func23 (by kernel_rfl) rfl #[.string t495] rfl (by (try simp only [List.map_toArray, List.map_cons, List.map_nil]); first | done | rfl | (simp only [List.length_drop, List.length_take]; rfl)) ?_; (with_reducible refine (subchannel_Decode.calls k t495 t497 t498 t499 t500 t501 t502 t503 t504 t505 t506 _ A15.out).mono ?_); rintro e w19 ⟨rfl, hb⟩; refine ⟨_, rfl, ?_⟩; have n0_ := Aside0.mk (blk_below (g := gb493) (o := .cells #[.int .i64 a0_0, .int .i64 a0_1, .int .i64 a0_2, .int .i64 a0_3, .int .i64 a0_4, .int .i64 a0_5, .int .i64 a0_6, .int .i64 a0_7, .int .i64 a0_8] 27 (0, 0)) (by (with_reducible repeat (first | refine blk_drewN ?_ _ | refine blk_drew ?_ | refine blk_alloc ?_ _)); exact BK493.out) hb); have n1_ := Aside0.mk (below_step (by repeat (first | (with_reducible first | exact HB.out | apply below_alloc | apply pw_below_drewN | apply below_drew1 | refine below_set ?_ GE493.out) | exact HB.out)) hb); clear BK493; clear HB; have BK493 := n0_; have HB := n1_; clear n0_ n1_; (try clear hb); (try clear hb2); (try clear hk); (try clear hi)) | ((with_reducible refine gate_dst (N := 7) rfl ?_); (try (refine gate_guard (by rfl) ?_; dsimp only)); refine box_event ?hg (N := 7) ?hd (cs := #[.int .i64 0, .int .i64 0, .int .i64 0, .int .i64 0, .int .i64 0, .int .i64 0, .int .i64 0, .int .i64 0, .int .i64 0]) (t := 27) ?hr ?_; (case hd => rfl); (case hg => rfl); (case hr => first | (go_simp; done) | (go_simp; rfl)); intro gb507 hg w20 hbox hb; have n0_ := Aside0.mk (blk_below (g := gb493) (o := .cells #[.int .i64 a0_0, .int .i64 a0_1, .int .i64 a0_2, .int .i64 a0_3, .int .i64 a0_4, .int .i64 a0_5, .int .i64 a0_6, .int .i64 a0_7, .int .i64 a0_8] 27 (0, 0)) (by (with_reducible repeat (first | refine blk_drewN ?_ _ | refine blk_drew ?_ | refine blk_alloc ?_ _)); exact BK493.out) hb); have n1_ := Aside0.mk (below_step (by repeat (first | (with_reducible first | exact HB.out | apply below_alloc | apply pw_below_drewN | apply below_drew1 | refine below_set ?_ GE493.out) | exact HB.out)) hb); have n2_ := Aside0.mk (hbox); have n3_ := Aside0.mk ((by rw [hg]; exact (below_size (by repeat (first | (with_reducible first | exact HB.out | apply below_alloc | apply pw_below_drewN | apply below_drew1 | refine below_set ?_ GE493.out) | exact HB.out))) : w.heap.size ≤ gb507)); have n4_ := Aside0.mk ((by rw [hg]; exact (below_size (by repeat (first | (with_reducible first | exact HB.out | apply below_alloc | apply pw_below_drewN | apply below_drew1 | refine below_set ?_ GE493.out) | exact HB.out))) : w.heap.size ≤ gb507)); have n5_ := Aside0.mk ((by rw [hg]; exact Nat.ne_of_lt (blk_lt (g := gb493) (o := .cells #[.int .i64 a0_0, .int .i64 a0_1, .int .i64 a0_2, .int .i64 a0_3, .int .i64 a0_4, .int .i64 a0_5, .int .i64 a0_6, .int .i64 a0_7, .int .i64 a0_8] 27 (0, 0)) (by (with_reducible repeat (first | refine blk_drewN ?_ _ | refine blk_drew ?_ | refine blk_alloc ?_ _)); exact BK493.out)) : gb493 ≠ gb507)); have n6_ := Aside0.mk ((by rw [hg]; exact Nat.ne_of_gt (blk_lt (g := gb493) (o := .cells #[.int .i64 a0_0, .int .i64 a0_1, .int .i64 a0_2, .int .i64 a0_3, .int .i64 a0_4, .int .i64 a0_5, .int .i64 a0_6, .int .i64 a0_7, .int .i64 a0_8] 27 (0, 0)) (by (with_reducible repeat (first | refine blk_drewN ?_ _ | refine blk_drew ?_ | refine blk_alloc ?_ _)); exact BK493.out)) : gb507 ≠ gb493)); clear BK493; clear HB; have BK493 := n0_; have HB := n1_; have BK507 := n2_; have GW507 := n3_; have GE507 := n4_; have NB493_507 := n5_; have NB507_493 := n6_; clear n0_ n1_ n2_ n3_ n4_ n5_ n6_; clear hb hbox hg; have hnb21 := NB507_493.out; have hnc21 := NB493_507.out; have hcz22_0 : w20.cell? ⟨gb507, 0, none⟩ = some (.int .i64 0) := (blk_cell BK507.out 0).trans rfl; have hcz22_1 : w20.cell? ⟨gb507, 1, none⟩ = some (.int .i64 0) := (blk_cell BK507.out 1).trans rfl; have hcz22_2 : w20.cell? ⟨gb507, 2, none⟩ = some (.int .i64 0) := (blk_cell BK507.out 2).trans rfl; have hcz22_3 : w20.cell? ⟨gb507, 3, none⟩ = some (.int .i64 0) := (blk_cell BK507.out 3).trans rfl; have hcz22_4 : w20.cell? ⟨gb507, 4, none⟩ = some (.int .i64 0) := (blk_cell BK507.out 4).trans rfl; have hcz22_5 : w20.cell? ⟨gb507, 5, none⟩ = some (.int .i64 0) := (blk_cell BK507.out 5).trans rfl; have hcz22_6 : w20.cell? ⟨gb507, 6, none⟩ = some (.int .i64 0) := (blk_cell BK507.out 6).trans rfl; have hcz22_7 : w20.cell? ⟨gb507, 7, none⟩ = some (.int .i64 0) := (blk_cell BK507.out 7).trans rfl; have hcz22_8 : w20.cell? ⟨gb507, 8, none⟩ = some (.int .i64 0) := (blk_cell BK507.out 8).trans rfl; have hfz22_0 := blk_frozen BK507.out 0; have hfz22_1 := blk_frozen BK507.out 1; have hfz22_2 := blk_frozen BK507.out 2; have hfz22_3 := blk_frozen BK507.out 3; have hfz22_4 := blk_frozen BK507.out 4; have hfz22_5 := blk_frozen BK507.out 5; have hfz22_6 := blk_frozen BK507.out 6; have hfz22_7 := blk_frozen BK507.out 7; have hfz22_8 := blk_frozen BK507.out 8; have hcz23_0 : w20.cell? ⟨gb493, 0, none⟩ = some (.int .i64 a0_0) := (blk_cell BK493.out 0).trans rfl; have hcz23_1 : w20.cell? ⟨gb493, 1, none⟩ = some (.int .i64 a0_1) := (blk_cell BK493.out 1).trans rfl; have hcz23_2 : w20.cell? ⟨gb493, 2, none⟩ = some (.int .i64 a0_2) := (blk_cell BK493.out 2).trans rfl; have hcz23_3 : w20.cell? ⟨gb493, 3, none⟩ = some (.int .i64 a0_3) := (blk_cell BK493.out 3).trans rfl; have hcz23_4 : w20.cell? ⟨gb493, 4, none⟩ = some (.int .i64 a0_4) := (blk_cell BK493.out 4).trans rfl; have hcz23_5 : w20.cell? ⟨gb493, 5, none⟩ = some (.int .i64 a0_5) := (blk_cell BK493.out 5).trans rfl; have hcz23_6 : w20.cell? ⟨gb493, 6, none⟩ = some (.int .i64 a0_6) := (blk_cell BK493.out 6).trans rfl; have hcz23_7 : w20.cell? ⟨gb493, 7, none⟩ = some (.int .i64 a0_7) := (blk_cell BK493.out 7).trans rfl; have hcz23_8 : w20.cell? ⟨gb493, 8, none⟩ = some (.int .i64 a0_8) := (blk_cell BK493.out 8).trans rfl; have hfz23_0 := blk_frozen BK493.out 0; have hfz23_1 := blk_frozen BK493.out 1; have hfz23_2 := blk_frozen BK493.out 2; have hfz23_3 := blk_frozen BK493.out 3; have hfz23_4 := blk_frozen BK493.out 4; have hfz23_5 := blk_frozen BK493.out 5; have hfz23_6 := blk_frozen BK493.out 6; have hfz23_7 := blk_frozen BK493.out 7; have hfz23_8 := blk_frozen BK493.out 8))
              go_meet
              case rel => exact ⟨_, H', ⟨by first | omega | exact Nat.le_refl _⟩, ⟨by (with_reducible repeat (first | refine blk_drewN ?_ _ | refine blk_drew ?_ | refine blk_alloc ?_ _)); refine blk_far ?_ NB493_507.out _; (with_reducible repeat (first | refine blk_drewN ?_ _ | refine blk_drew ?_ | refine blk_alloc ?_ _)); refine blk_far ?_ NB493_507.out _; (with_reducible repeat (first | refine blk_drewN ?_ _ | refine blk_drew ?_ | refine blk_alloc ?_ _)); refine blk_far ?_ NB493_507.out _; (with_reducible repeat (first | refine blk_drewN ?_ _ | refine blk_drew ?_ | refine blk_alloc ?_ _)); refine blk_far ?_ NB493_507.out _; (with_reducible repeat (first | refine blk_drewN ?_ _ | refine blk_drew ?_ | refine blk_alloc ?_ _)); refine blk_far ?_ NB493_507.out _; (with_reducible repeat (first | refine blk_drewN ?_ _ | refine blk_drew ?_ | refine blk_alloc ?_ _)); refine blk_far ?_ NB493_507.out _; (with_reducible repeat (first | refine blk_drewN ?_ _ | refine blk_drew ?_ | refine blk_alloc ?_ _)); refine blk_far ?_ NB493_507.out _; (with_reducible repeat (first | refine blk_drewN ?_ _ | refine blk_drew ?_ | refine blk_alloc ?_ _)); refine blk_far ?_ NB493_507.out _; (with_reducible repeat (first | refine blk_drewN ?_ _ | refine blk_drew ?_ | refine blk_alloc ?_ _)); refine blk_far ?_ NB493_507.out _; (with_reducible repeat (first | refine blk_drewN ?_ _ | refine blk_drew ?_ | refine blk_alloc ?_ _)); exact BK493.out⟩, ⟨by repeat (first | (with_reducible first | exact HB.out | apply below_alloc | apply pw_below_drewN | apply below_drew1 | refine below_set ?_ GE493.out | refine below_set ?_ GE507.out) | exact HB.out)⟩⟩
            · rw [if_neg c18] at H
              exact absurd H (by simp)
          · rw [if_neg c17] at H
            exact absurd H (by simp)
      · rw [if_neg c14] at H
        have c14b0 : (t496 == 0) = false := beq_eq_false_iff_ne.mpr c14
        have c14b1 : (t496 != 0) = true := bne_iff_ne.mpr c14
        (first | rw [c14b0] | (simp only [i64_w, i32_w]; rw [c14b0]) | skip)
        by_cases c24 : t495.toList = ([] : List UInt8)
        · rw [if_pos c24] at H
          have c24b0 : (t495.toList == ([] : List UInt8)) = true := beq_iff_eq.mpr c24
          have c24b1 : (t495.toList != ([] : List UInt8)) = false := bne_eq_false_iff_eq.mpr c24
          clear c24
          by_cases c25 : t496 = 1
          · rw [if_pos c25] at H
            have c25b0 : (t496 == 1) = true := beq_iff_eq.mpr c25
            have c25b1 : (t496 != 1) = false := bne_eq_false_iff_eq.mpr c25
            clear c25
            have H' := Aside0.mk H
            clear H
            go_wp2
            go_meet
            case rel => exact ⟨_, H', ⟨by first | omega | exact Nat.le_refl _⟩, ⟨by (with_reducible repeat (first | refine blk_drewN ?_ _ | refine blk_drew ?_ | refine blk_alloc ?_ _)); exact BK493.out⟩, ⟨by repeat (first | (with_reducible first | exact HB.out | apply below_alloc | apply pw_below_drewN | apply below_drew1 | refine below_set ?_ GE493.out) | exact HB.out)⟩⟩
          · rw [if_neg c25] at H
            exact absurd H (by simp)
        · rw [if_neg c24] at H
          exact absurd H (by simp)
     case rest =>
      clear HC9
      try clear c1
      try clear c2
      try clear p2
      try clear c4
      try clear c5
      try clear c5b0
      try clear c5b1
      try clear c7
      try clear c10
      try clear c14
      try clear c14b0
      try clear c14b1
      try clear c16
      try clear c16b0
      try clear c17
      try clear c17b0
      try clear c17b1
      try clear c18
      try clear c18b0
      try clear c18b1
      try clear c21
      try clear c23
      try clear c24
      try clear c24b0
      try clear c24b1
      try clear c25
      try clear c25b0
      try clear c25b1
      try clear hcz12_0
      try clear hcz12_1
      try clear hcz12_2
      try clear hcz12_3
      try clear hcz12_4
      try clear hcz12_5
      try clear hcz12_6
      try clear hcz12_7
      try clear hcz12_8
      try clear hcz22_0
      try clear hcz22_1
      try clear hcz22_2
      try clear hcz22_3
      try clear hcz22_4
      try clear hcz22_5
      try clear hcz22_6
      try clear hcz22_7
      try clear hcz22_8
      try clear hcz23_0
      try clear hcz23_1
      try clear hcz23_2
      try clear hcz23_3
      try clear hcz23_4
      try clear hcz23_5
      try clear hcz23_6
      try clear hcz23_7
      try clear hcz23_8
      try clear hfz12_0
      try clear hfz12_1
      try clear hfz12_2
      try clear hfz12_3
      try clear hfz12_4
      try clear hfz12_5
      try clear hfz12_6
      try clear hfz12_7
      try clear hfz12_8
      try clear hfz22_0
      try clear hfz22_1
      try clear hfz22_2
      try clear hfz22_3
      try clear hfz22_4
      try clear hfz22_5
      try clear hfz22_6
      try clear hfz22_7
      try clear hfz22_8
      try clear hfz23_0
      try clear hfz23_1
      try clear hfz23_2
      try clear hfz23_3
      try clear hfz23_4
      try clear hfz23_5
      try clear hfz23_6
      try clear hfz23_7
      try clear hfz23_8
      obtain ⟨kq, HA, HJ8, BK493, HB⟩ := hcut
      cases kq with
      | zero => exact absurd HA.out (by simp [masterdisclaw10_SubchannelReturns.j0])
      | succ kj8 =>
       have H := HA.out
       clear HA
       simp only [masterdisclaw10_SubchannelReturns.j0] at H
       replace H := Option.bind_eq_some_iff.mp H
       obtain ⟨⟨t508, t509, t510, t511, t512, t513, t514, t515, t516, t517⟩, A260, H⟩ := H
       replace H : (if t517 = 0 then ((subchannel_Encode.f t508 t509 t510 t511 t512 t513 t514 t515 t516).bind fun bt519 => (if bt519.1.toList = a1.toList then (some (bt519.2 == 0)) else (none))) else (some (t508 == 0 && (t509 == 0 && (t510 == 0 && ((t511 == 0 && (t512 == 0 && (t513 == 0))) && ((t514 == 0 && (t515 == 0 && (t516 == 0)))))))))) = some r := H
       have A26 := Aside0.mk A260
       clear A260
       by_cases c27 : t517 = 0
       · rw [if_pos c27] at H
         have c27b0 : (t517 == 0) = true := beq_iff_eq.mpr c27
         have c27b1 : (t517 != 0) = false := bne_eq_false_iff_eq.mpr c27
         clear c27
         replace H := Option.bind_eq_some_iff.mp H
         obtain ⟨⟨t519, t520⟩, A280, H⟩ := H
         replace H : (if t519.toList = a1.toList then (some (t520 == 0)) else (none)) = some r := H
         have A28 := Aside0.mk A280
         clear A280
         by_cases c29 : t519.toList = a1.toList
         · rw [if_pos c29] at H
           have c29b0 : (t519.toList == a1.toList) = true := beq_iff_eq.mpr c29
           have c29b1 : (t519.toList != a1.toList) = false := bne_eq_false_iff_eq.mpr c29
           clear c29
           obtain rfl := Option.some.inj H
           go_wp2_with (first | ((with_reducible refine gate_callee (f := 23) rfl ?_); refine goesL_ (some 50) rfl rfl Try.func23 (by kernel_rfl) rfl #[.string a1] rfl (by (try simp only [List.map_toArray, List.map_cons, List.map_nil]); first | done | rfl | (simp only [List.length_drop, List.length_take]; rfl)) ?_; (with_reducible refine (subchannel_Decode.calls kj8 a1 t508 t509 t510 t511 t512 t513 t514 t515 t516 t517 _ A26.out).mono ?_); rintro e w30 ⟨rfl, hb⟩; refine ⟨_, rfl, ?_⟩; have n0_ := Aside0.mk (blk_below (g := gb493) (o := .cells #[.int .i64 a0_0, .int .i64 a0_1, .int .i64 a0_2, .int .i64 a0_3, .int .i64 a0_4, .int .i64 a0_5, .int .i64 a0_6, .int .i64 a0_7, .int .i64 a0_8] 27 (0, 0)) (by (with_reducible repeat (first | refine blk_drewN ?_ _ | refine blk_drew ?_ | refine blk_alloc ?_ _)); exact BK493.out) hb); have n1_ := Aside0.mk (below_step (by repeat (first | (with_reducible first | exact HB.out | apply below_alloc | apply pw_below_drewN | apply below_drew1 | refine below_set ?_ GE493.out) | exact HB.out)) hb); clear BK493; clear HB; have BK493 := n0_; have HB := n1_; clear n0_ n1_; (try clear hb); (try clear hb2); (try clear hk); (try clear hi)) | ((with_reducible refine gate_dst (N := 9) rfl ?_); (try (refine gate_guard (by rfl) ?_; dsimp only)); refine box_event ?hg (N := 9) ?hd (cs := #[.int .i64 0, .int .i64 0, .int .i64 0, .int .i64 0, .int .i64 0, .int .i64 0, .int .i64 0, .int .i64 0, .int .i64 0]) (t := 27) ?hr ?_; (case hd => rfl); (case hg => rfl); (case hr => first | (go_simp; done) | (go_simp; rfl)); intro gb518 hg w31 hbox hb; have n0_ := Aside0.mk (blk_below (g := gb493) (o := .cells #[.int .i64 a0_0, .int .i64 a0_1, .int .i64 a0_2, .int .i64 a0_3, .int .i64 a0_4, .int .i64 a0_5, .int .i64 a0_6, .int .i64 a0_7, .int .i64 a0_8] 27 (0, 0)) (by (with_reducible repeat (first | refine blk_drewN ?_ _ | refine blk_drew ?_ | refine blk_alloc ?_ _)); exact BK493.out) hb); have n1_ := Aside0.mk (below_step (by repeat (first | (with_reducible first | exact HB.out | apply below_alloc | apply pw_below_drewN | apply below_drew1 | refine below_set ?_ GE493.out) | exact HB.out)) hb); have n2_ := Aside0.mk (hbox); have n3_ := Aside0.mk ((by rw [hg]; exact (below_size (by repeat (first | (with_reducible first | exact HB.out | apply below_alloc | apply pw_below_drewN | apply below_drew1 | refine below_set ?_ GE493.out) | exact HB.out))) : w.heap.size ≤ gb518)); have n4_ := Aside0.mk ((by rw [hg]; exact (below_size (by repeat (first | (with_reducible first | exact HB.out | apply below_alloc | apply pw_below_drewN | apply below_drew1 | refine below_set ?_ GE493.out) | exact HB.out))) : w.heap.size ≤ gb518)); have n5_ := Aside0.mk ((by rw [hg]; exact Nat.ne_of_lt (blk_lt (g := gb493) (o := .cells #[.int .i64 a0_0, .int .i64 a0_1, .int .i64 a0_2, .int .i64 a0_3, .int .i64 a0_4, .int .i64 a0_5, .int .i64 a0_6, .int .i64 a0_7, .int .i64 a0_8] 27 (0, 0)) (by (with_reducible repeat (first | refine blk_drewN ?_ _ | refine blk_drew ?_ | refine blk_alloc ?_ _)); exact BK493.out)) : gb493 ≠ gb518)); have n6_ := Aside0.mk ((by rw [hg]; exact Nat.ne_of_gt (blk_lt (g := gb493) (o := .cells #[.int .i64 a0_0, .int .i64 a0_1, .int .i64 a0_2, .int .i64 a0_3, .int .i64 a0_4, .int .i64 a0_5, .int .i64 a0_6, .int .i64 a0_7, .int .i64 a0_8] 27 (0, 0)) (by (with_reducible repeat (first | refine blk_drewN ?_ _ | refine blk_drew ?_ | refine blk_alloc ?_ _)); exact BK493.out)) : gb518 ≠ gb493)); clear BK493; clear HB; have BK493 := n0_; have HB := n1_; have BK518 := n2_; have GW518 := n3_; have GE518 := n4_; have NB493_518 := n5_; have NB518_493 := n6_; clear n0_ n1_ n2_ n3_ n4_ n5_ n6_; clear hb hbox hg; have hnb32 := NB518_493.out; have hnc32 := NB493_518.out; have hcz33_0 : w31.cell? ⟨gb518, 0, none⟩ = some (.int .i64 0) := (blk_cell BK518.out 0).trans rfl; have hcz33_1 : w31.cell? ⟨gb518, 1, none⟩ = some (.int .i64 0) := (blk_cell BK518.out 1).trans rfl; have hcz33_2 : w31.cell? ⟨gb518, 2, none⟩ = some (.int .i64 0) := (blk_cell BK518.out 2).trans rfl; have hcz33_3 : w31.cell? ⟨gb518, 3, none⟩ = some (.int .i64 0) := (blk_cell BK518.out 3).trans rfl; have hcz33_4 : w31.cell? ⟨gb518, 4, none⟩ = some (.int .i64 0) := (blk_cell BK518.out 4).trans rfl; have hcz33_5 : w31.cell? ⟨gb518, 5, none⟩ = some (.int .i64 0) := (blk_cell BK518.out 5).trans rfl; have hcz33_6 : w31.cell? ⟨gb518, 6, none⟩ = some (.int .i64 0) := (blk_cell BK518.out 6).trans rfl; have hcz33_7 : w31.cell? ⟨gb518, 7, none⟩ = some (.int .i64 0) := (blk_cell BK518.out 7).trans rfl; have hcz33_8 : w31.cell? ⟨gb518, 8, none⟩ = some (.int .i64 0) := (blk_cell BK518.out 8).trans rfl; have hfz33_0 := blk_frozen BK518.out 0; have hfz33_1 := blk_frozen BK518.out 1; have hfz33_2 := blk_frozen BK518.out 2; have hfz33_3 := blk_frozen BK518.out 3; have hfz33_4 := blk_frozen BK518.out 4; have hfz33_5 := blk_frozen BK518.out 5; have hfz33_6 := blk_frozen BK518.out 6; have hfz33_7 := blk_frozen BK518.out 7; have hfz33_8 := blk_frozen BK518.out 8) | ((with_reducible refine gate_callee (f := 18) rfl ?_); refine goesL_ (some 60) rfl rfl Try.func18 (by kernel_rfl) rfl #[.agg #[.int .i64 t508, .int .i64 t509, .int .i64 t510, .int .i64 t511, .int .i64 t512, .int .i64 t513, .int .i64 t514, .int .i64 t515, .int .i64 t516]] rfl (by (try simp only [List.map_toArray, List.map_cons, List.map_nil]); first | done | rfl | (simp only [List.length_drop, List.length_take]; rfl)) ?_; (with_reducible refine (subchannel_Encode.calls t508 t509 t510 t511 t512 t513 t514 t515 t516 t519 t520 _ A28.out).mono ?_); rintro e w34 ⟨rfl, hb⟩; refine ⟨_, rfl, ?_⟩; have n0_ := Aside0.mk (blk_below (g := gb493) (o := .cells #[.int .i64 a0_0, .int .i64 a0_1, .int .i64 a0_2, .int .i64 a0_3, .int .i64 a0_4, .int .i64 a0_5, .int .i64 a0_6, .int .i64 a0_7, .int .i64 a0_8] 27 (0, 0)) (by (with_reducible repeat (first | refine blk_drewN ?_ _ | refine blk_drew ?_ | refine blk_alloc ?_ _)); refine blk_far ?_ NB493_518.out _; (with_reducible repeat (first | refine blk_drewN ?_ _ | refine blk_drew ?_ | refine blk_alloc ?_ _)); refine blk_far ?_ NB493_518.out _; (with_reducible repeat (first | refine blk_drewN ?_ _ | refine blk_drew ?_ | refine blk_alloc ?_ _)); refine blk_far ?_ NB493_518.out _; (with_reducible repeat (first | refine blk_drewN ?_ _ | refine blk_drew ?_ | refine blk_alloc ?_ _)); refine blk_far ?_ NB493_518.out _; (with_reducible repeat (first | refine blk_drewN ?_ _ | refine blk_drew ?_ | refine blk_alloc ?_ _)); refine blk_far ?_ NB493_518.out _; (with_reducible repeat (first | refine blk_drewN ?_ _ | refine blk_drew ?_ | refine blk_alloc ?_ _)); refine blk_far ?_ NB493_518.out _; (with_reducible repeat (first | refine blk_drewN ?_ _ | refine blk_drew ?_ | refine blk_alloc ?_ _)); refine blk_far ?_ NB493_518.out _; (with_reducible repeat (first | refine blk_drewN ?_ _ | refine blk_drew ?_ | refine blk_alloc ?_ _)); refine blk_far ?_ NB493_518.out _; (with_reducible repeat (first | refine blk_drewN ?_ _ | refine blk_drew ?_ | refine blk_alloc ?_ _)); refine blk_far ?_ NB493_518.out _; (with_reducible repeat (first | refine blk_drewN ?_ _ | refine blk_drew ?_ | refine blk_alloc ?_ _)); exact BK493.out) hb); have n1_ := Aside0.mk (blk_below (g := gb518) (o := .cells #[.int .i64 t508, .int .i64 t509, .int .i64 t510, .int .i64 t511, .int .i64 t512, .int .i64 t513, .int .i64 t514, .int .i64 t515, .int .i64 t516] 27 (0, 0)) (by (with_reducible repeat (first | refine blk_drewN ?_ _ | refine blk_drew ?_ | refine blk_alloc ?_ _)); refine blk_put (cs := #[.int .i64 t508, .int .i64 t509, .int .i64 t510, .int .i64 t511, .int .i64 t512, .int .i64 t513, .int .i64 t514, .int .i64 t515, .int .i64 0]) ?_ 8 _ rfl; (with_reducible repeat (first | refine blk_drewN ?_ _ | refine blk_drew ?_ | refine blk_alloc ?_ _)); refine blk_put (cs := #[.int .i64 t508, .int .i64 t509, .int .i64 t510, .int .i64 t511, .int .i64 t512, .int .i64 t513, .int .i64 t514, .int .i64 0, .int .i64 0]) ?_ 7 _ rfl; (with_reducible repeat (first | refine blk_drewN ?_ _ | refine blk_drew ?_ | refine blk_alloc ?_ _)); refine blk_put (cs := #[.int .i64 t508, .int .i64 t509, .int .i64 t510, .int .i64 t511, .int .i64 t512, .int .i64 t513, .int .i64 0, .int .i64 0, .int .i64 0]) ?_ 6 _ rfl; (with_reducible repeat (first | refine blk_drewN ?_ _ | refine blk_drew ?_ | refine blk_alloc ?_ _)); refine blk_put (cs := #[.int .i64 t508, .int .i64 t509, .int .i64 t510, .int .i64 t511, .int .i64 t512, .int .i64 0, .int .i64 0, .int .i64 0, .int .i64 0]) ?_ 5 _ rfl; (with_reducible repeat (first | refine blk_drewN ?_ _ | refine blk_drew ?_ | refine blk_alloc ?_ _)); refine blk_put (cs := #[.int .i64 t508, .int .i64 t509, .int .i64 t510, .int .i64 t511, .int .i64 0, .int .i64 0, .int .i64 0, .int .i64 0, .int .i64 0]) ?_ 4 _ rfl; (with_reducible repeat (first | refine blk_drewN ?_ _ | refine blk_drew ?_ | refine blk_alloc ?_ _)); refine blk_put (cs := #[.int .i64 t508, .int .i64 t509, .int .i64 t510, .int .i64 0, .int .i64 0, .int .i64 0, .int .i64 0, .int .i64 0, .int .i64 0]) ?_ 3 _ rfl; (with_reducible repeat (first | refine blk_drewN ?_ _ | refine blk_drew ?_ | refine blk_alloc ?_ _)); refine blk_put (cs := #[.int .i64 t508, .int .i64 t509, .int .i64 0, .int .i64 0, .int .i64 0, .int .i64 0, .int .i64 0, .int .i64 0, .int .i64 0]) ?_ 2 _ rfl; (with_reducible repeat (first | refine blk_drewN ?_ _ | refine blk_drew ?_ | refine blk_alloc ?_ _)); refine blk_put (cs := #[.int .i64 t508, .int .i64 0, .int .i64 0, .int .i64 0, .int .i64 0, .int .i64 0, .int .i64 0, .int .i64 0, .int .i64 0]) ?_ 1 _ rfl; (with_reducible repeat (first | refine blk_drewN ?_ _ | refine blk_drew ?_ | refine blk_alloc ?_ _)); refine blk_put (cs := #[.int .i64 0, .int .i64 0, .int .i64 0, .int .i64 0, .int .i64 0, .int .i64 0, .int .i64 0, .int .i64 0, .int .i64 0]) ?_ 0 _ rfl; (with_reducible repeat (first | refine blk_drewN ?_ _ | refine blk_drew ?_ | refine blk_alloc ?_ _)); exact BK518.out) hb); have n2_ := Aside0.mk (below_step (by repeat (first | (with_reducible first | exact HB.out | apply below_alloc | apply pw_below_drewN | apply below_drew1 | refine below_set ?_ GE493.out | refine below_set ?_ GE518.out) | exact HB.out)) hb); clear BK493; clear BK518; clear HB; have BK493 := n0_; have BK518 := n1_; have HB := n2_; clear n0_ n1_ n2_; (try clear hb); (try clear hb2); (try clear hk); (try clear hi)))
           go_ret
           exact ⟨by first | rfl | (simp [errW_none, errW_some] <;> rfl) | (simp [*, errW_none, errW_some] <;> rfl), by repeat (first | (with_reducible first | exact HB.out | apply below_alloc | apply pw_below_drewN | apply below_drew1 | refine below_set ?_ GE493.out | refine below_set ?_ GE518.out) | exact HB.out)⟩
         · rw [if_neg c29] at H
           exact absurd H (by simp)
       · rw [if_neg c27] at H
         have c27b0 : (t517 == 0) = false := beq_eq_false_iff_ne.mpr c27
         have c27b1 : (t517 != 0) = true := bne_iff_ne.mpr c27
         obtain rfl := Option.some.inj H
         go_wp2_with (first | ((with_reducible refine gate_callee (f := 23) rfl ?_); refine goesL_ (some 50) rfl rfl Try.func23 (by kernel_rfl) rfl #[.string a1] rfl (by (try simp only [List.map_toArray, List.map_cons, List.map_nil]); first | done | rfl | (simp only [List.length_drop, List.length_take]; rfl)) ?_; (with_reducible refine (subchannel_Decode.calls kj8 a1 t508 t509 t510 t511 t512 t513 t514 t515 t516 t517 _ A26.out).mono ?_); rintro e w35 ⟨rfl, hb⟩; refine ⟨_, rfl, ?_⟩; have n0_ := Aside0.mk (blk_below (g := gb493) (o := .cells #[.int .i64 a0_0, .int .i64 a0_1, .int .i64 a0_2, .int .i64 a0_3, .int .i64 a0_4, .int .i64 a0_5, .int .i64 a0_6, .int .i64 a0_7, .int .i64 a0_8] 27 (0, 0)) (by (with_reducible repeat (first | refine blk_drewN ?_ _ | refine blk_drew ?_ | refine blk_alloc ?_ _)); exact BK493.out) hb); have n1_ := Aside0.mk (below_step (by repeat (first | (with_reducible first | exact HB.out | apply below_alloc | apply pw_below_drewN | apply below_drew1 | refine below_set ?_ GE493.out) | exact HB.out)) hb); clear BK493; clear HB; have BK493 := n0_; have HB := n1_; clear n0_ n1_; (try clear hb); (try clear hb2); (try clear hk); (try clear hi)) | ((with_reducible refine gate_dst (N := 9) rfl ?_); (try (refine gate_guard (by rfl) ?_; dsimp only)); refine box_event ?hg (N := 9) ?hd (cs := #[.int .i64 0, .int .i64 0, .int .i64 0, .int .i64 0, .int .i64 0, .int .i64 0, .int .i64 0, .int .i64 0, .int .i64 0]) (t := 27) ?hr ?_; (case hd => rfl); (case hg => rfl); (case hr => first | (go_simp; done) | (go_simp; rfl)); intro gb518 hg w36 hbox hb; have n0_ := Aside0.mk (blk_below (g := gb493) (o := .cells #[.int .i64 a0_0, .int .i64 a0_1, .int .i64 a0_2, .int .i64 a0_3, .int .i64 a0_4, .int .i64 a0_5, .int .i64 a0_6, .int .i64 a0_7, .int .i64 a0_8] 27 (0, 0)) (by (with_reducible repeat (first | refine blk_drewN ?_ _ | refine blk_drew ?_ | refine blk_alloc ?_ _)); exact BK493.out) hb); have n1_ := Aside0.mk (below_step (by repeat (first | (with_reducible first | exact HB.out | apply below_alloc | apply pw_below_drewN | apply below_drew1 | refine below_set ?_ GE493.out) | exact HB.out)) hb); have n2_ := Aside0.mk (hbox); have n3_ := Aside0.mk ((by rw [hg]; exact (below_size (by repeat (first | (with_reducible first | exact HB.out | apply below_alloc | apply pw_below_drewN | apply below_drew1 | refine below_set ?_ GE493.out) | exact HB.out))) : w.heap.size ≤ gb518)); have n4_ := Aside0.mk ((by rw [hg]; exact (below_size (by repeat (first | (with_reducible first | exact HB.out | apply below_alloc | apply pw_below_drewN | apply below_drew1 | refine below_set ?_ GE493.out) | exact HB.out))) : w.heap.size ≤ gb518)); have n5_ := Aside0.mk ((by rw [hg]; exact Nat.ne_of_lt (blk_lt (g := gb493) (o := .cells #[.int .i64 a0_0, .int .i64 a0_1, .int .i64 a0_2, .int .i64 a0_3, .int .i64 a0_4, .int .i64 a0_5, .int .i64 a0_6, .int .i64 a0_7, .int .i64 a0_8] 27 (0, 0)) (by (with_reducible repeat (first | refine blk_drewN ?_ _ | refine blk_drew ?_ | refine blk_alloc ?_ _)); exact BK493.out)) : gb493 ≠ gb518)); have n6_ := Aside0.mk ((by rw [hg]; exact Nat.ne_of_gt (blk_lt (g := gb493) (o := .cells #[.int .i64 a0_0, .int .i64 a0_1, .int .i64 a0_2, .int .i64 a0_3, .int .i64 a0_4, .int .i64 a0_5, .int .i64 a0_6, .int .i64 a0_7, .int .i64 a0_8] 27 (0, 0)) (by (with_reducible repeat (first | refine blk_drewN ?_ _ | refine blk_drew ?_ | refine blk_alloc ?_ _)); exact BK493.out)) : gb518 ≠ gb493)); clear BK493; clear HB; have BK493 := n0_; have HB := n1_; have BK518 := n2_; have GW518 := n3_; have GE518 := n4_; have NB493_518 := n5_; have NB518_493 := n6_; clear n0_ n1_ n2_ n3_ n4_ n5_ n6_; clear hb hbox hg; have hnb37 := NB518_493.out; have hnc37 := NB493_518.out; have hcz38_0 : w36.cell? ⟨gb518, 0, none⟩ = some (.int .i64 0) := (blk_cell BK518.out 0).trans rfl; have hcz38_1 : w36.cell? ⟨gb518, 1, none⟩ = some (.int .i64 0) := (blk_cell BK518.out 1).trans rfl; have hcz38_2 : w36.cell? ⟨gb518, 2, none⟩ = some (.int .i64 0) := (blk_cell BK518.out 2).trans rfl; have hcz38_3 : w36.cell? ⟨gb518, 3, none⟩ = some (.int .i64 0) := (blk_cell BK518.out 3).trans rfl; have hcz38_4 : w36.cell? ⟨gb518, 4, none⟩ = some (.int .i64 0) := (blk_cell BK518.out 4).trans rfl; have hcz38_5 : w36.cell? ⟨gb518, 5, none⟩ = some (.int .i64 0) := (blk_cell BK518.out 5).trans rfl; have hcz38_6 : w36.cell? ⟨gb518, 6, none⟩ = some (.int .i64 0) := (blk_cell BK518.out 6).trans rfl; have hcz38_7 : w36.cell? ⟨gb518, 7, none⟩ = some (.int .i64 0) := (blk_cell BK518.out 7).trans rfl; have hcz38_8 : w36.cell? ⟨gb518, 8, none⟩ = some (.int .i64 0) := (blk_cell BK518.out 8).trans rfl; have hfz38_0 := blk_frozen BK518.out 0; have hfz38_1 := blk_frozen BK518.out 1; have hfz38_2 := blk_frozen BK518.out 2; have hfz38_3 := blk_frozen BK518.out 3; have hfz38_4 := blk_frozen BK518.out 4; have hfz38_5 := blk_frozen BK518.out 5; have hfz38_6 := blk_frozen BK518.out 6; have hfz38_7 := blk_frozen BK518.out 7; have hfz38_8 := blk_frozen BK518.out 8))
         go_ret
         exact ⟨by first | rfl | (simp [errW_none, errW_some] <;> rfl) | (simp [*, errW_none, errW_some] <;> rfl), by repeat (first | (with_reducible first | exact HB.out | apply below_alloc | apply pw_below_drewN | apply below_drew1 | refine below_set ?_ GE493.out | refine below_set ?_ GE518.out) | exact HB.out)⟩
 · replace c4 := Bool.eq_false_iff.mpr c4
   subst c4
   have H1 : (none) = some r := by rw [if_neg (show ¬ (false = true) by decide)] at H; exact H
   clear H
   have H := H1
   clear H1
   exact absurd H (by simp)
end Go.Proofs.Ytpmkibggmkibeaa.G
namespace Go.Proofs.Ytpmkibggmkibeaa.G
open Go.RowKit Go.Proofs.YtpmkibggmkibeaaW.PrintWords Go.Proofs.YtpmkibggmkibeaaW.PrintLast Go.Proofs.YtpmkibggmkibeaaW.PrintMore
set_option linter.unusedVariables false
def bcdOk (n : Int) : Bool := match endian_BCD.f n with
 | some (x, e) => decide (0 ≤ x ∧ x ≤ 255 ∧ e = 0 ∧ endian_FromBCD.f x = some (n, 0))
 | none => false
theorem bcd_fin : ∀ n : Fin 100, bcdOk (n.val : Int) = true := by decide +kernel
theorem bcdV {n : Int} (h0 : 0 ≤ n) (h1 : n ≤ 99) : 0 ≤ ((endian_BCD.f n).getD (0, 0)).1 ∧ ((endian_BCD.f n).getD (0, 0)).1 ≤ 255 ∧ endian_FromBCD.f ((endian_BCD.f n).getD (0, 0)).1 = some (n, 0) := by
 have e : (((⟨n.toNat, by omega⟩ : Fin 100).val : Nat) : Int) = n := Int.toNat_of_nonneg h0
 have hh := bcd_fin ⟨n.toNat, by omega⟩
 rw [e] at hh
 unfold bcdOk at hh
 split at hh
 · rename_i x e2 hu
   have := of_decide_eq_true hh
   rw [hu]
   exact ⟨this.1, this.2.1, this.2.2.2⟩
 · cases hh
theorem bt_mid (A : ByteArray) (l : List Int) (r : ByteArray) (i : Nat) (h : i < l.length) (hb : 0 ≤ l[i] ∧ l[i] ≤ 255) (a : Int) (ha : a = (A.size : Int) + i) : bt (A ++ (strOfNums l ++ r)) a = l[i] := by
 have hs := size_strOfNums l
 have h1 := bt_lit l r i h hb
 have ea : a.toNat = A.size + i := by omega
 unfold bt at h1 ⊢
 rw [Int.toNat_natCast, dif_pos (by rw [ByteArray.size_append]; omega)] at h1
 rw [dif_pos (by rw [ByteArray.size_append, ByteArray.size_append]; omega)]
 rw [ByteArray.getElem_append_right (by omega)]
 have he : a.toNat - A.size = i := by omega
 simp only [he]
 exact h1
theorem ad_at (A r : ByteArray) (m s f : Int) (h : msfB m s f = true) (a : Int) (ha : a = (A.size : Int)) : dec0 (A ++ (adS m s f ++ r)) a = (m, s, f, 0) := by
 have hm : 0 ≤ m ∧ m ≤ 99 ∧ 0 ≤ s ∧ s ≤ 99 ∧ 0 ≤ f ∧ f ≤ 99 := by
  simp only [msfB, decide_eq_true_eq] at h
  omega
 obtain ⟨l0, u0, q0⟩ := bcdV hm.1 hm.2.1
 obtain ⟨l1, u1, q1⟩ := bcdV hm.2.2.1 hm.2.2.2.1
 obtain ⟨l2, u2, q2⟩ := bcdV hm.2.2.2.2.1 hm.2.2.2.2.2
 have f0 : fb (A ++ (adS m s f ++ r)) a = (m, 0) := by
  unfold fb adS
  rw [bt_mid A _ r 0 (by simp) ⟨l0, u0⟩ a (by omega)]
  simp only [List.getElem_cons_zero]
  rw [q0]; rfl
 have f1 : fb (A ++ (adS m s f ++ r)) (a + 1) = (s, 0) := by
  unfold fb adS
  rw [bt_mid A _ r 1 (by simp) ⟨l1, u1⟩ (a + 1) (by omega)]
  simp only [List.getElem_cons_zero, List.getElem_cons_succ]
  rw [q1]; rfl
 have f2 : fb (A ++ (adS m s f ++ r)) (a + 2) = (f, 0) := by
  unfold fb adS
  rw [bt_mid A _ r 2 (by simp) ⟨l2, u2⟩ (a + 2) (by omega)]
  simp only [List.getElem_cons_zero, List.getElem_cons_succ]
  rw [q2]; rfl
 unfold dec0 dec1 dec2 dec3
 rw [f0, f1, f2]
 dsimp only
 rw [if_pos rfl, if_pos rfl, if_pos rfl, if_pos h]
theorem enc_ad {c t p m1 s1 f1 m2 s2 f2 : Int} (h : qvB c t p m1 s1 f1 m2 s2 f2 = true) : dec0 (encS c t p m1 s1 f1 m2 s2 f2) 3 = (m1, s1, f1, 0) ∧ dec0 (encS c t p m1 s1 f1 m2 s2 f2) 7 = (m2, s2, f2, 0) := by
 obtain ⟨-, -, -, h1, h2, -, -⟩ := qv_parts h
 constructor
 · have hd : encS c t p m1 s1 f1 m2 s2 f2 = strOfNums [c * 16 + 1, (subchannel_number.f t).getD 0, (subchannel_number.f p).getD 0] ++ (adS m1 s1 f1 ++ ((⟨#[0]⟩ : ByteArray) ++ (adS m2 s2 f2 ++ chkS (datS c t p m1 s1 f1 m2 s2 f2)))) := by
    show strOfNums [c * 16 + 1, (subchannel_number.f t).getD 0, (subchannel_number.f p).getD 0] ++ adS m1 s1 f1 ++ (⟨#[0]⟩ : ByteArray) ++ adS m2 s2 f2 ++ chkS (datS c t p m1 s1 f1 m2 s2 f2) = _
    simp only [app_assoc]
   rw [hd]
   exact ad_at _ _ m1 s1 f1 h1 3 (by rw [size_strOfNums]; rfl)
 · have hd : encS c t p m1 s1 f1 m2 s2 f2 = (strOfNums [c * 16 + 1, (subchannel_number.f t).getD 0, (subchannel_number.f p).getD 0] ++ adS m1 s1 f1 ++ (⟨#[0]⟩ : ByteArray)) ++ (adS m2 s2 f2 ++ chkS (datS c t p m1 s1 f1 m2 s2 f2)) := by
    show strOfNums [c * 16 + 1, (subchannel_number.f t).getD 0, (subchannel_number.f p).getD 0] ++ adS m1 s1 f1 ++ (⟨#[0]⟩ : ByteArray) ++ adS m2 s2 f2 ++ chkS (datS c t p m1 s1 f1 m2 s2 f2) = _
    simp only [app_assoc]
   rw [hd]
   exact ad_at _ _ m2 s2 f2 h2 7 (by rw [ByteArray.size_append, ByteArray.size_append, adS_size, size_strOfNums]; rfl)
theorem unn_enc {c t p m1 s1 f1 m2 s2 f2 : Int} (h : qvB c t p m1 s1 f1 m2 s2 f2 = true) : unn (encS c t p m1 s1 f1 m2 s2 f2) 1 = (t, true) ∧ unn (encS c t p m1 s1 f1 m2 s2 f2) 2 = (p, true) ∧ ctlS (encS c t p m1 s1 f1 m2 s2 f2) = c := by
 obtain ⟨h0, h1, h2, -⟩ := encS_head h
 obtain ⟨hc, ht, hp, -⟩ := qv_parts h
 obtain ⟨b1, e1, -, -, k1⟩ := number_byte ht
 obtain ⟨b2, e2, -, -, k2⟩ := number_byte hp
 rw [e1] at h1; rw [e2] at h2
 refine ⟨?_, ?_, ?_⟩
 · unfold unn; rw [← Option.some.inj h1, k1]; rfl
 · unfold unn; rw [← Option.some.inj h2, k2]; rfl
 · unfold ctlS; rw [h0]; omega
theorem dec_enc {c t p m1 s1 f1 m2 s2 f2 : Int} (h : qvB c t p m1 s1 f1 m2 s2 f2 = true) (k : Nat) : subchannel_Decode.f (k + 1) (encS c t p m1 s1 f1 m2 s2 f2) = some (c, t, p, m1, s1, f1, m2, s2, f2, 0) := by
 have hs := encS_size c t p m1 s1 f1 m2 s2 f2
 have hz := datS_size c t p m1 s1 f1 m2 s2 f2
 have x1 : (encS c t p m1 s1 f1 m2 s2 f2).extract 0 10 = datS c t p m1 s1 f1 m2 s2 f2 := ByteArray.extract_append_eq_left hz.symm
 have x2 : (encS c t p m1 s1 f1 m2 s2 f2).extract 10 (encS c t p m1 s1 f1 m2 s2 f2).size = chkS (datS c t p m1 s1 f1 m2 s2 f2) := by
  rw [hs]
  exact ByteArray.extract_append_eq_right hz.symm (by rw [hz, chkS_size])
 obtain ⟨a1, a2, a0⟩ := unn_enc h
 obtain ⟨d3, d7⟩ := enc_ad h
 have hok : okP (encS c t p m1 s1 f1 m2 s2 f2) := by
  refine ⟨by rw [a1], by rw [a2], by rw [d3], by rw [d7], ?_, ?_⟩
  · unfold qvS; rw [a0, a1, a2, d3, d7]; exact h
  · unfold enS; rw [a0, a1, a2, d3, d7]
 rw [dec_prog _ hs (by rw [x1, x2]) k, if_pos hok]
 unfold qOf
 rw [a0, a1, a2, d3, d7]
theorem returns_j0 (s : ByteArray) : masterdisclaw10_SubchannelReturns.j0 201 s = some true := by
 simp only [masterdisclaw10_SubchannelReturns.j0]
 by_cases hs : s.size = 12
 case neg =>
  rw [(dec_short s hs 200).1]
  rfl
 by_cases hc : chkS (s.extract 0 10) = s.extract 10 s.size
 case neg =>
  rw [(dec_check s hs hc 200 (by omega)).1]
  rfl
 rw [dec_prog s hs hc 199]
 by_cases ho : okP s
 case neg =>
  rw [if_neg ho]
  rfl
 rw [if_pos ho]
 obtain ⟨-, -, -, -, hv, he⟩ := ho
 simp only [Option.bind_some, qOf]
 rw [if_pos trivial, encode_eq]
 unfold qvS at hv
 unfold enS at he
 rw [if_pos hv, he]
 simp
theorem pure_SubchannelReturns (a0 a1 a2 a3 a4 a5 a6 a7 a8 : Int) (s : ByteArray) : ∃ k, masterdisclaw10_SubchannelReturns.f k a0 a1 a2 a3 a4 a5 a6 a7 a8 s = some true := by
 refine ⟨201, ?_⟩
 unfold masterdisclaw10_SubchannelReturns.f
 rw [awake_plain]
 simp only [Option.bind_some]
 rw [if_pos trivial, returns_j0]
 by_cases h40 : (s.size : Int) > 40
 · rw [if_pos h40]
 rw [if_neg h40, encode_eq]
 by_cases hq : qvB a0 a1 a2 a3 a4 a5 a6 a7 a8 = true
 · rw [if_pos hq]
   simp only [Option.bind_some]
   rw [if_pos trivial, dec_enc hq 200]
   simp [encS_size]
 · rw [if_neg hq]
   simp only [Option.bind_some]
   rw [if_neg (by decide), if_pos (by rw [Lib.toList_data]), if_pos trivial]
end Go.Proofs.Ytpmkibggmkibeaa.G
namespace Go.Proofs.Ytpmkibggmkibeaa.G
open Go.RowKit Go.Proofs.YtpmkibggmkibeaaW.PrintWords Go.Proofs.YtpmkibggmkibeaaW.PrintLast Go.Proofs.YtpmkibggmkibeaaW.PrintMore
open Go.ChangeShapes Go.WideShapes Go.Deep
set_option linter.unusedVariables false
set_option maxRecDepth 100000 in
theorem msf_ints {H : Type} {enc : TypeId × Value → H} {W : World} {base n : Nat} {spare : Nat → Bool} {held : Bool} {c0 c1 c2 : Value} {x : DataW H × List MemPlace} (h : DataW.trod enc Try.prog W base spare held n 25 [c0, c1, c2] = some x) :
 ∃ a b c : Int, c0 = .int .i64 a ∧ c1 = .int .i64 b ∧ c2 = .int .i64 c := by
 have h1 : Try.prog.cellsOf 3 = 1 := by kernel_rfl
 obtain ⟨xs, m, -, -, -, hx, hf⟩ := DataW.trod_struct Try.underlying25 h
 match xs, hx with
 | [y0, y1, y2], _ =>
  have t0 : DataW.trod enc Try.prog W base spare held m 3 (([c0, c1, c2].drop 0).take (Try.prog.cellsOf 3)) = some y0 := hf 0 _ rfl
  have t1 : DataW.trod enc Try.prog W base spare held m 3 (([c0, c1, c2].drop 1).take (Try.prog.cellsOf 3)) = some y1 := hf 1 _ rfl
  have t2 : DataW.trod enc Try.prog W base spare held m 3 (([c0, c1, c2].drop 2).take (Try.prog.cellsOf 3)) = some y2 := hf 2 _ rfl
  rw [h1] at t0 t1 t2
  obtain ⟨n0, e0, -, -⟩ := DataW.trod_int Try.underlying3 t0
  obtain ⟨n1, e1, -, -⟩ := DataW.trod_int Try.underlying3 t1
  obtain ⟨n2, e2, -, -⟩ := DataW.trod_int Try.underlying3 t2
  exact ⟨n0, n1, n2, by injection e0, by injection e1, by injection e2⟩
set_option maxRecDepth 100000 in
theorem frame_ints {H : Type} {enc : TypeId × Value → H} {W : World} {base n : Nat} {spare : Nat → Bool} {held : Bool} {cs : List Value} {x : DataW H × List MemPlace} (hl : cs.length = 9) (h : DataW.trod enc Try.prog W base spare held n 27 cs = some x) :
 ∃ n0 n1 n2 n3 n4 n5 n6 n7 n8 : Int, cs = [Value.int .i64 n0, .int .i64 n1, .int .i64 n2, .int .i64 n3, .int .i64 n4, .int .i64 n5, .int .i64 n6, .int .i64 n7, .int .i64 n8] := by
 have h1 : Try.prog.cellsOf 3 = 1 := by kernel_rfl
 have h3 : Try.prog.cellsOf 25 = 3 := by kernel_rfl
 obtain ⟨xs, m, -, -, -, hx, hf⟩ := DataW.trod_struct Try.underlying27 h
 match cs, hl, xs, hx with
 | [c0, c1, c2, c3, c4, c5, c6, c7, c8], _, [y0, y1, y2, y3, y4], _ =>
  have t0 : DataW.trod enc Try.prog W base spare held m 3 (([c0, c1, c2, c3, c4, c5, c6, c7, c8].drop 0).take (Try.prog.cellsOf 3)) = some y0 := hf 0 _ rfl
  have t1 : DataW.trod enc Try.prog W base spare held m 3 (([c0, c1, c2, c3, c4, c5, c6, c7, c8].drop 1).take (Try.prog.cellsOf 3)) = some y1 := hf 1 _ rfl
  have t2 : DataW.trod enc Try.prog W base spare held m 3 (([c0, c1, c2, c3, c4, c5, c6, c7, c8].drop 2).take (Try.prog.cellsOf 3)) = some y2 := hf 2 _ rfl
  have t3 : DataW.trod enc Try.prog W base spare held m 25 (([c0, c1, c2, c3, c4, c5, c6, c7, c8].drop 3).take (Try.prog.cellsOf 25)) = some y3 := hf 3 _ rfl
  have t4 : DataW.trod enc Try.prog W base spare held m 25 (([c0, c1, c2, c3, c4, c5, c6, c7, c8].drop 6).take (Try.prog.cellsOf 25)) = some y4 := hf 4 _ rfl
  rw [h1] at t0 t1 t2
  rw [h3] at t3 t4
  obtain ⟨n0, e0, -, -⟩ := DataW.trod_int Try.underlying3 t0
  obtain ⟨n1, e1, -, -⟩ := DataW.trod_int Try.underlying3 t1
  obtain ⟨n2, e2, -, -⟩ := DataW.trod_int Try.underlying3 t2
  obtain ⟨n3, n4, n5, rfl, rfl, rfl⟩ := msf_ints (c0 := c3) (c1 := c4) (c2 := c5) t3
  obtain ⟨n6, n7, n8, rfl, rfl, rfl⟩ := msf_ints (c0 := c6) (c1 := c7) (c2 := c8) t4
  obtain rfl : c0 = .int .i64 n0 := by injection e0
  obtain rfl : c1 = .int .i64 n1 := by injection e1
  obtain rfl : c2 = .int .i64 n2 := by injection e2
  exact ⟨n0, n1, n2, n3, n4, n5, n6, n7, n8, rfl⟩
set_option maxRecDepth 100000 in
theorem open_frame {H : Type} {enc : TypeId × Value → H} {W : World} {base b0 : Nat} {spare : Nat → Bool} {held : Bool} {r : Reach} {v : Value} {d : DataW H} {p : List MemPlace} (hv : Value.okWide Try.prog W r b0 27 v) (h : DataW.Trod enc Try.prog W base spare held 27 v d p) :
 ∃ n0 n1 n2 n3 n4 n5 n6 n7 n8 : Int, v = .agg #[Value.int .i64 n0, .int .i64 n1, .int .i64 n2, .int .i64 n3, .int .i64 n4, .int .i64 n5, .int .i64 n6, .int .i64 n7, .int .i64 n8] := by
 obtain ⟨cs, rfl, hsz⟩ := okWide_struct Try.underlying27 hv
 have h9 : Try.prog.cellsOf 27 = 9 := by kernel_rfl
 obtain ⟨fuel, hf⟩ := h
 obtain ⟨n0, n1, n2, n3, n4, n5, n6, n7, n8, e⟩ := frame_ints (cs := cs.toList) (by rw [Array.length_toList, hsz, h9]) (by simpa [Value.cells] using hf)
 refine ⟨n0, n1, n2, n3, n4, n5, n6, n7, n8, ?_⟩
 congr 1
 exact Array.toList_inj.mp e
set_option maxRecDepth 100000 in
theorem frame_cells {H : Type} {enc : TypeId × Value → H} {W : World} {base n : Nat} {spare : Nat → Bool} {held : Bool} {a : Addr} {cs : List Value} {x : DataW H × List MemPlace}
 (hc : W.cells? base a (Try.prog.cellsOf 27) = some cs) (h : DataW.trod enc Try.prog W base spare held n 27 cs = some x) :
 ∃ s : S27, ∀ (q : Nat) (v : Value), [Value.int .i64 s.f0, .int .i64 s.f1, .int .i64 s.f2, .int .i64 s.f3.f0, .int .i64 s.f3.f1, .int .i64 s.f3.f2, .int .i64 s.f4.f0, .int .i64 s.f4.f1, .int .i64 s.f4.f2][q]? = some v → W.cell? (a.add q) = some v := by
 have h9 : Try.prog.cellsOf 27 = 9 := by kernel_rfl
 obtain ⟨-, hl, hat⟩ := World.cells?_some hc
 rw [h9] at hl hat
 obtain ⟨n0, n1, n2, n3, n4, n5, n6, n7, n8, rfl⟩ := frame_ints hl h
 refine ⟨⟨n0, n1, n2, ⟨n3, n4, n5⟩, ⟨n6, n7, n8⟩⟩, fun q v hq => ?_⟩
 have hq9 : q < 9 := by
  have := (List.getElem?_eq_some_iff.1 hq).1
  simpa using this
 rw [hat q hq9]
 exact hq
set_option maxRecDepth 100000 in
theorem open_frames {H : Type} {enc : TypeId × Value → H} {W : World} {base : Nat} {spare : Nat → Bool} {held : Bool} {n : Nat} {u : Value} {y : DataW H × List MemPlace} (h : DataW.trod enc Try.prog W base spare held n 31 [u] = some y) :
 ∃ (A : Option Addr) (c : Nat) (l : List S27), u = .slice A l.length c ∧ l.length ≤ c ∧ l.length ≤ 9223372036854775807 ∧ Kd.C k27 W A l.length l := by
 rcases open_slice Try.underlying31 h with ⟨hc, -⟩ | ⟨a, len, cap, m, n, D, Pl, hc, -, hl, hm, hmm, -, hi⟩
 · obtain rfl : u = .slice none 0 0 := by injection hc
   exact ⟨none, 0, [], rfl, Nat.le_refl _, Nat.zero_le _, rfl, Nat.zero_le _, fun h => absurd h (Nat.lt_irrefl _)⟩
 · obtain rfl : u = .slice (some a) len cap := by injection hc
   have hlm : len ≤ m := by rw [hmm]; split <;> omega
   have h9 : Try.prog.cellsOf 27 = 9 := by kernel_rfl
   have hx : ∀ i, ∃ s : S27, i < len → ∀ (q : Nat) (v : Value), [Value.int .i64 s.f0, .int .i64 s.f1, .int .i64 s.f2, .int .i64 s.f3.f0, .int .i64 s.f3.f1, .int .i64 s.f3.f2, .int .i64 s.f4.f0, .int .i64 s.f4.f1, .int .i64 s.f4.f2][q]? = some v → W.cell? (a.add (i * 9 + q)) = some v := by
    intro i
    by_cases hlt : i < len
    · obtain ⟨cs, hcs, ht⟩ := hi i (by omega)
      obtain ⟨s, hs⟩ := frame_cells hcs ht
      refine ⟨s, fun _ q v hq => ?_⟩
      have := hs q v hq
      rwa [h9, Go.Deep.add_add] at this
    · exact ⟨z27, fun h => absurd h hlt⟩
   obtain ⟨g, hg⟩ := Classical.axiomOfChoice hx
   have hlen : ((List.range len).map g).length = len := by simp
   have hml : len ≤ 9223372036854775807 := by unfold maxLen at hm; omega
   refine ⟨some a, cap, (List.range len).map g, by rw [hlen], by rw [hlen]; exact hl, by rw [hlen]; exact hml, ?_⟩
   rw [hlen]
   refine ⟨hlen, hml, fun _ => ⟨a, rfl, fun j p hj => ?_⟩⟩
   rw [List.getElem?_map] at hj
   by_cases hjl : j < len
   · rw [List.getElem?_range hjl] at hj
     cases hj
     exact ⟨_, rfl, k27_mk W (g j), hg j hjl⟩
   · rw [List.getElem?_eq_none (by simpa using hjl)] at hj
     cases hj
end Go.Proofs.Ytpmkibggmkibeaa.G
