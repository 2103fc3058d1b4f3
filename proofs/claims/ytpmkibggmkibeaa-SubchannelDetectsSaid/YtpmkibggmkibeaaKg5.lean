/- Texts of one claim, merged by a program of this session; what is proved stands in the last of them. -/
import Derived.Laws.IdiomStrings
import Derived.Lib.Strings
import Derived.Test.YtpmkibggmkibeaaKg1
import Derived.Test.YtpmkibggmkibeaaKg4
namespace Go.Proofs.Ytpmkibggmkibeaa.G
open Go.RowKit Go.Proofs.YtpmkibggmkibeaaW.PrintWords Go.Proofs.YtpmkibggmkibeaaW.PrintLast Go.Proofs.YtpmkibggmkibeaaW.PrintMore
attribute [local go_sem] max2_int min2_int max_two min_two max_three min_three max_four min_four   -- for this text's walks alone
set_option linter.unusedVariables false
set_option linter.unusedSimpArgs false
def subchannel_Decode.j0 : Nat → Bool → Int → Int → Int → Int → Int → Int → Int → Int → Int → Option (Int × Int × Int × Int × Int × Int × Int × Int × Int × Int)
 | 0, _, _, _, _, _, _, _, _, _, _ => none
 | k + 1, x86, x421000, x421001, x421002, x421003, x421004, x421005, x421006, x421007, x421008 => if x86 = true then (some (0, 0, 0, 0, 0, 0, 0, 0, 0, 10)) else (some (x421000, x421001, x421002, x421003, x421004, x421005, x421006, x421007, x421008, 0))
def subchannel_Decode.f (k : Nat) (a0 : ByteArray) : Option (Int × Int × Int × Int × Int × Int × Int × Int × Int × Int) := if (a0.size : Int) = 12 then (if 0 ≤ 10 then (if 10 ≤ (a0.size : Int) then ((subchannel_check.f (a0.extract 0 10)).bind fun t419 => (if t419.toList = (a0.extract 10 a0.size).toList then (if 0 < (a0.size : Int) then (if 1 < (a0.size : Int) then ((subchannel_unnumber.f (bt a0 1)).bind fun bt421 => (if 2 < (a0.size : Int) then ((subchannel_unnumber.f (bt a0 2)).bind fun bt423 => ((address_Decode.f a0 3).bind fun bt425 => ((address_Decode.f a0 7).bind fun bt430 => ((subchannel_Encode.f (wrap64 ((bt a0 0) / 16)) bt421.1 bt423.1 bt425.1 bt425.2.1 bt425.2.2.1 bt430.1 bt430.2.1 bt430.2.2.1).bind fun bt435 => (if bt421.2 = true then (if bt423.2 = true then (if bt425.2.2.2 = 0 then (if bt430.2.2.2 = 0 then (if bt435.2 = 0 then (subchannel_Decode.j0 k (bt435.1.toList != a0.toList) (wrap64 ((bt a0 0) / 16)) bt421.1 bt423.1 bt425.1 bt425.2.1 bt425.2.2.1 bt430.1 bt430.2.1 bt430.2.2.1) else (subchannel_Decode.j0 k true (wrap64 ((bt a0 0) / 16)) bt421.1 bt423.1 bt425.1 bt425.2.1 bt425.2.2.1 bt430.1 bt430.2.1 bt430.2.2.1)) else (subchannel_Decode.j0 k true (wrap64 ((bt a0 0) / 16)) bt421.1 bt423.1 bt425.1 bt425.2.1 bt425.2.2.1 bt430.1 bt430.2.1 bt430.2.2.1)) else (subchannel_Decode.j0 k true (wrap64 ((bt a0 0) / 16)) bt421.1 bt423.1 bt425.1 bt425.2.1 bt425.2.2.1 bt430.1 bt430.2.1 bt430.2.2.1)) else (subchannel_Decode.j0 k true (wrap64 ((bt a0 0) / 16)) bt421.1 bt423.1 bt425.1 bt425.2.1 bt425.2.2.1 bt430.1 bt430.2.1 bt430.2.2.1)) else (subchannel_Decode.j0 k true (wrap64 ((bt a0 0) / 16)) bt421.1 bt423.1 bt425.1 bt425.2.1 bt425.2.2.1 bt430.1 bt430.2.1 bt430.2.2.1)))))) else (none))) else (none)) else (none)) else (some (0, 0, 0, 0, 0, 0, 0, 0, 0, 9)))) else (none)) else (none)) else (some (0, 0, 0, 0, 0, 0, 0, 0, 0, 1))
theorem subchannel_Decode.mono_l : ∀ k, (∀ y0 y1 y2 y3 y4 y5 y6 y7 y8 y9, LeO (subchannel_Decode.j0 k y0 y1 y2 y3 y4 y5 y6 y7 y8 y9) (subchannel_Decode.j0 (k + 1) y0 y1 y2 y3 y4 y5 y6 y7 y8 y9))
 | 0 => fun _ _ _ _ _ _ _ _ _ _ r h => by simp [subchannel_Decode.j0] at h
 | k + 1 => by
  have ih0 := subchannel_Decode.mono_l k
  · intro y0 y1 y2 y3 y4 y5 y6 y7 y8 y9
    unfold subchannel_Decode.j0
    repeat' first
    | (with_reducible exact ih0 _ _ _ _ _ _ _ _ _ _)
    | (with_reducible exact LeO.refl _)
    | (with_reducible exact LeO.none _)
    | (with_reducible refine LeO.ite ?_ ?_)
    | (with_reducible refine LeO.bind ?_ (fun _ => ?_))
    | exact ih0 _ _ _ _ _ _ _ _ _ _
    | exact LeO.none _
    | refine LeO.ite ?_ ?_
    | refine LeO.bind ?_ (fun _ => ?_)
theorem subchannel_Decode.mono : ∀ a0 k, LeO (subchannel_Decode.f k a0) (subchannel_Decode.f (k + 1) a0) := by
 intro a0 k
 have ih0 := subchannel_Decode.mono_l k
 unfold subchannel_Decode.f
 repeat' first
  | (with_reducible exact ih0 _ _ _ _ _ _ _ _ _ _)
  | (with_reducible exact LeO.refl _)
  | (with_reducible exact LeO.none _)
  | (with_reducible refine LeO.ite ?_ ?_)
  | (with_reducible refine LeO.bind ?_ (fun _ => ?_))
  | exact ih0 _ _ _ _ _ _ _ _ _ _
  | exact LeO.none _
  | refine LeO.ite ?_ ?_
  | refine LeO.bind ?_ (fun _ => ?_)
set_option maxHeartbeats 8000000 in
set_option maxRecDepth 100000 in
theorem subchannel_Decode.calls (k : Nat) (a0 : ByteArray) (r1 : Int) (r2 : Int) (r3 : Int) (r4 : Int) (r5 : Int) (r6 : Int) (r7 : Int) (r8 : Int) (r9 : Int) (r10 : Int) (w : World) (h : subchannel_Decode.f k a0 = some (r1, r2, r3, r4, r5, r6, r7, r8, r9, r10)) :
 Calls Try.prog 23 #[.string a0] w fun e w' => e = .returned (.tuple #[.agg #[.int .i64 r1, .int .i64 r2, .int .i64 r3, .int .i64 r4, .int .i64 r5, .int .i64 r6, .int .i64 r7, .int .i64 r8, .int .i64 r9], .int .i64 r10]) ∧ Below w.heap.size w w' := by
 have hu27 := Try.underlying27
 have hu25 := Try.underlying25
 have HB := Aside0.mk (Below.refl w.heap.size w)
 have H : (if (a0.size : Int) = 12 then (if 0 ≤ 10 then (if 10 ≤ (a0.size : Int) then ((subchannel_check.f (a0.extract 0 10)).bind fun t419 => (if t419.toList = (a0.extract 10 a0.size).toList then (if 0 < (a0.size : Int) then (if 1 < (a0.size : Int) then ((subchannel_unnumber.f (bt a0 1)).bind fun bt421 => (if 2 < (a0.size : Int) then ((subchannel_unnumber.f (bt a0 2)).bind fun bt423 => ((address_Decode.f a0 3).bind fun bt425 => ((address_Decode.f a0 7).bind fun bt430 => ((subchannel_Encode.f (wrap64 ((bt a0 0) / 16)) bt421.1 bt423.1 bt425.1 bt425.2.1 bt425.2.2.1 bt430.1 bt430.2.1 bt430.2.2.1).bind fun bt435 => (if bt421.2 = true then (if bt423.2 = true then (if bt425.2.2.2 = 0 then (if bt430.2.2.2 = 0 then (if bt435.2 = 0 then (subchannel_Decode.j0 k (bt435.1.toList != a0.toList) (wrap64 ((bt a0 0) / 16)) bt421.1 bt423.1 bt425.1 bt425.2.1 bt425.2.2.1 bt430.1 bt430.2.1 bt430.2.2.1) else (subchannel_Decode.j0 k true (wrap64 ((bt a0 0) / 16)) bt421.1 bt423.1 bt425.1 bt425.2.1 bt425.2.2.1 bt430.1 bt430.2.1 bt430.2.2.1)) else (subchannel_Decode.j0 k true (wrap64 ((bt a0 0) / 16)) bt421.1 bt423.1 bt425.1 bt425.2.1 bt425.2.2.1 bt430.1 bt430.2.1 bt430.2.2.1)) else (subchannel_Decode.j0 k true (wrap64 ((bt a0 0) / 16)) bt421.1 bt423.1 bt425.1 bt425.2.1 bt425.2.2.1 bt430.1 bt430.2.1 bt430.2.2.1)) else (subchannel_Decode.j0 k true (wrap64 ((bt a0 0) / 16)) bt421.1 bt423.1 bt425.1 bt425.2.1 bt425.2.2.1 bt430.1 bt430.2.1 bt430.2.2.1)) else (subchannel_Decode.j0 k true (wrap64 ((bt a0 0) / 16)) bt421.1 bt423.1 bt425.1 bt425.2.1 bt425.2.2.1 bt430.1 bt430.2.1 bt430.2.2.1)))))) else (none))) else (none)) else (none)) else (some (0, 0, 0, 0, 0, 0, 0, 0, 0, 9)))) else (none)) else (none)) else (some (0, 0, 0, 0, 0, 0, 0, 0, 0, 1))) = some (r1, r2, r3, r4, r5, r6, r7, r8, r9, r10) := h
 clear h
 by_cases c2 : (a0.size : Int) = 12
 · rw [if_pos c2] at H
   have c2b0 : ((a0.size : Int) == 12) = true := beq_iff_eq.mpr c2
   have c2b1 : ((a0.size : Int) != 12) = false := bne_eq_false_iff_eq.mpr c2
   clear c2
   by_cases c3 : 0 ≤ 10
   · rw [if_pos c3] at H
     have c3b0 := eq_true c3
     have c3b1 : decide (0 ≤ 10) = true := decide_eq_true c3
     clear c3
     by_cases c4 : 10 ≤ (a0.size : Int)
     · rw [if_pos c4] at H
       have c4b0 := eq_true c4
       have c4b1 : decide (10 ≤ (a0.size : Int)) = true := decide_eq_true c4
       clear c4
       replace H := Option.bind_eq_some_iff.mp H
       obtain ⟨t419, A50, H⟩ := H
       replace H : (if t419.toList = (a0.extract 10 a0.size).toList then (if 0 < (a0.size : Int) then (if 1 < (a0.size : Int) then ((subchannel_unnumber.f (bt a0 1)).bind fun bt421 => (if 2 < (a0.size : Int) then ((subchannel_unnumber.f (bt a0 2)).bind fun bt423 => ((address_Decode.f a0 3).bind fun bt425 => ((address_Decode.f a0 7).bind fun bt430 => ((subchannel_Encode.f (wrap64 ((bt a0 0) / 16)) bt421.1 bt423.1 bt425.1 bt425.2.1 bt425.2.2.1 bt430.1 bt430.2.1 bt430.2.2.1).bind fun bt435 => (if bt421.2 = true then (if bt423.2 = true then (if bt425.2.2.2 = 0 then (if bt430.2.2.2 = 0 then (if bt435.2 = 0 then (subchannel_Decode.j0 k (bt435.1.toList != a0.toList) (wrap64 ((bt a0 0) / 16)) bt421.1 bt423.1 bt425.1 bt425.2.1 bt425.2.2.1 bt430.1 bt430.2.1 bt430.2.2.1) else (subchannel_Decode.j0 k true (wrap64 ((bt a0 0) / 16)) bt421.1 bt423.1 bt425.1 bt425.2.1 bt425.2.2.1 bt430.1 bt430.2.1 bt430.2.2.1)) else (subchannel_Decode.j0 k true (wrap64 ((bt a0 0) / 16)) bt421.1 bt423.1 bt425.1 bt425.2.1 bt425.2.2.1 bt430.1 bt430.2.1 bt430.2.2.1)) else (subchannel_Decode.j0 k true (wrap64 ((bt a0 0) / 16)) bt421.1 bt423.1 bt425.1 bt425.2.1 bt425.2.2.1 bt430.1 bt430.2.1 bt430.2.2.1)) else (subchannel_Decode.j0 k true (wrap64 ((bt a0 0) / 16)) bt421.1 bt423.1 bt425.1 bt425.2.1 bt425.2.2.1 bt430.1 bt430.2.1 bt430.2.2.1)) else (subchannel_Decode.j0 k true (wrap64 ((bt a0 0) / 16)) bt421.1 bt423.1 bt425.1 bt425.2.1 bt425.2.2.1 bt430.1 bt430.2.1 bt430.2.2.1)))))) else (none))) else (none)) else (none)) else (some (0, 0, 0, 0, 0, 0, 0, 0, 0, 9))) = some (r1, r2, r3, r4, r5, r6, r7, r8, r9, r10) := H
       have A5 := Aside0.mk A50
       clear A50
       have c6b0 := eq_true (of_decide_eq_true (by first | (with_reducible assumption) | assumption) : 10 ≤ (a0.size : Int))
       by_cases c7 : t419.toList = (a0.extract 10 a0.size).toList
       · rw [if_pos c7] at H
         have c7b0 : (t419.toList == (a0.extract 10 a0.size).toList) = true := beq_iff_eq.mpr c7
         have c7b1 : (t419.toList != (a0.extract 10 a0.size).toList) = false := bne_eq_false_iff_eq.mpr c7
         clear c7
         by_cases c8 : 0 < (a0.size : Int)
         · rw [if_pos c8] at H
           have c8b0 : decide (0 < (a0.size : Int)) = true := decide_eq_true c8
           have c8b1 : decide (0 < a0.size) = true := decide_eq_true (by omega)
           clear c8
           by_cases c10 : 1 < (a0.size : Int)
           · rw [if_pos c10] at H
             have c10b0 : decide (1 < (a0.size : Int)) = true := decide_eq_true c10
             have c10b1 : decide (1 < a0.size) = true := decide_eq_true (by omega)
             clear c10
             replace H := Option.bind_eq_some_iff.mp H
             obtain ⟨⟨t421, t422⟩, A120, H⟩ := H
             replace H : (if 2 < (a0.size : Int) then ((subchannel_unnumber.f (bt a0 2)).bind fun bt423 => ((address_Decode.f a0 3).bind fun bt425 => ((address_Decode.f a0 7).bind fun bt430 => ((subchannel_Encode.f (wrap64 ((bt a0 0) / 16)) t421 bt423.1 bt425.1 bt425.2.1 bt425.2.2.1 bt430.1 bt430.2.1 bt430.2.2.1).bind fun bt435 => (if t422 = true then (if bt423.2 = true then (if bt425.2.2.2 = 0 then (if bt430.2.2.2 = 0 then (if bt435.2 = 0 then (subchannel_Decode.j0 k (bt435.1.toList != a0.toList) (wrap64 ((bt a0 0) / 16)) t421 bt423.1 bt425.1 bt425.2.1 bt425.2.2.1 bt430.1 bt430.2.1 bt430.2.2.1) else (subchannel_Decode.j0 k true (wrap64 ((bt a0 0) / 16)) t421 bt423.1 bt425.1 bt425.2.1 bt425.2.2.1 bt430.1 bt430.2.1 bt430.2.2.1)) else (subchannel_Decode.j0 k true (wrap64 ((bt a0 0) / 16)) t421 bt423.1 bt425.1 bt425.2.1 bt425.2.2.1 bt430.1 bt430.2.1 bt430.2.2.1)) else (subchannel_Decode.j0 k true (wrap64 ((bt a0 0) / 16)) t421 bt423.1 bt425.1 bt425.2.1 bt425.2.2.1 bt430.1 bt430.2.1 bt430.2.2.1)) else (subchannel_Decode.j0 k true (wrap64 ((bt a0 0) / 16)) t421 bt423.1 bt425.1 bt425.2.1 bt425.2.2.1 bt430.1 bt430.2.1 bt430.2.2.1)) else (subchannel_Decode.j0 k true (wrap64 ((bt a0 0) / 16)) t421 bt423.1 bt425.1 bt425.2.1 bt425.2.2.1 bt430.1 bt430.2.1 bt430.2.2.1)))))) else (none)) = some (r1, r2, r3, r4, r5, r6, r7, r8, r9, r10) := H
             have A12 := Aside0.mk A120
             clear A120
             by_cases c13 : 2 < (a0.size : Int)
             · rw [if_pos c13] at H
               have c13b0 : decide (2 < (a0.size : Int)) = true := decide_eq_true c13
               have c13b1 : decide (2 < a0.size) = true := decide_eq_true (by omega)
               clear c13
               replace H := Option.bind_eq_some_iff.mp H
               obtain ⟨⟨t423, t424⟩, A150, H⟩ := H
               replace H : ((address_Decode.f a0 3).bind fun bt425 => ((address_Decode.f a0 7).bind fun bt430 => ((subchannel_Encode.f (wrap64 ((bt a0 0) / 16)) t421 t423 bt425.1 bt425.2.1 bt425.2.2.1 bt430.1 bt430.2.1 bt430.2.2.1).bind fun bt435 => (if t422 = true then (if t424 = true then (if bt425.2.2.2 = 0 then (if bt430.2.2.2 = 0 then (if bt435.2 = 0 then (subchannel_Decode.j0 k (bt435.1.toList != a0.toList) (wrap64 ((bt a0 0) / 16)) t421 t423 bt425.1 bt425.2.1 bt425.2.2.1 bt430.1 bt430.2.1 bt430.2.2.1) else (subchannel_Decode.j0 k true (wrap64 ((bt a0 0) / 16)) t421 t423 bt425.1 bt425.2.1 bt425.2.2.1 bt430.1 bt430.2.1 bt430.2.2.1)) else (subchannel_Decode.j0 k true (wrap64 ((bt a0 0) / 16)) t421 t423 bt425.1 bt425.2.1 bt425.2.2.1 bt430.1 bt430.2.1 bt430.2.2.1)) else (subchannel_Decode.j0 k true (wrap64 ((bt a0 0) / 16)) t421 t423 bt425.1 bt425.2.1 bt425.2.2.1 bt430.1 bt430.2.1 bt430.2.2.1)) else (subchannel_Decode.j0 k true (wrap64 ((bt a0 0) / 16)) t421 t423 bt425.1 bt425.2.1 bt425.2.2.1 bt430.1 bt430.2.1 bt430.2.2.1)) else (subchannel_Decode.j0 k true (wrap64 ((bt a0 0) / 16)) t421 t423 bt425.1 bt425.2.1 bt425.2.2.1 bt430.1 bt430.2.1 bt430.2.2.1))))) = some (r1, r2, r3, r4, r5, r6, r7, r8, r9, r10) := H
               have A15 := Aside0.mk A150
               clear A150
               replace H := Option.bind_eq_some_iff.mp H
               obtain ⟨⟨t425, t426, t427, t428⟩, A160, H⟩ := H
               replace H : ((address_Decode.f a0 7).bind fun bt430 => ((subchannel_Encode.f (wrap64 ((bt a0 0) / 16)) t421 t423 t425 t426 t427 bt430.1 bt430.2.1 bt430.2.2.1).bind fun bt435 => (if t422 = true then (if t424 = true then (if t428 = 0 then (if bt430.2.2.2 = 0 then (if bt435.2 = 0 then (subchannel_Decode.j0 k (bt435.1.toList != a0.toList) (wrap64 ((bt a0 0) / 16)) t421 t423 t425 t426 t427 bt430.1 bt430.2.1 bt430.2.2.1) else (subchannel_Decode.j0 k true (wrap64 ((bt a0 0) / 16)) t421 t423 t425 t426 t427 bt430.1 bt430.2.1 bt430.2.2.1)) else (subchannel_Decode.j0 k true (wrap64 ((bt a0 0) / 16)) t421 t423 t425 t426 t427 bt430.1 bt430.2.1 bt430.2.2.1)) else (subchannel_Decode.j0 k true (wrap64 ((bt a0 0) / 16)) t421 t423 t425 t426 t427 bt430.1 bt430.2.1 bt430.2.2.1)) else (subchannel_Decode.j0 k true (wrap64 ((bt a0 0) / 16)) t421 t423 t425 t426 t427 bt430.1 bt430.2.1 bt430.2.2.1)) else (subchannel_Decode.j0 k true (wrap64 ((bt a0 0) / 16)) t421 t423 t425 t426 t427 bt430.1 bt430.2.1 bt430.2.2.1)))) = some (r1, r2, r3, r4, r5, r6, r7, r8, r9, r10) := H
               have A16 := Aside0.mk A160
               clear A160
               replace H := Option.bind_eq_some_iff.mp H
               obtain ⟨⟨t430, t431, t432, t433⟩, A170, H⟩ := H
               replace H : ((subchannel_Encode.f (wrap64 ((bt a0 0) / 16)) t421 t423 t425 t426 t427 t430 t431 t432).bind fun bt435 => (if t422 = true then (if t424 = true then (if t428 = 0 then (if t433 = 0 then (if bt435.2 = 0 then (subchannel_Decode.j0 k (bt435.1.toList != a0.toList) (wrap64 ((bt a0 0) / 16)) t421 t423 t425 t426 t427 t430 t431 t432) else (subchannel_Decode.j0 k true (wrap64 ((bt a0 0) / 16)) t421 t423 t425 t426 t427 t430 t431 t432)) else (subchannel_Decode.j0 k true (wrap64 ((bt a0 0) / 16)) t421 t423 t425 t426 t427 t430 t431 t432)) else (subchannel_Decode.j0 k true (wrap64 ((bt a0 0) / 16)) t421 t423 t425 t426 t427 t430 t431 t432)) else (subchannel_Decode.j0 k true (wrap64 ((bt a0 0) / 16)) t421 t423 t425 t426 t427 t430 t431 t432)) else (subchannel_Decode.j0 k true (wrap64 ((bt a0 0) / 16)) t421 t423 t425 t426 t427 t430 t431 t432))) = some (r1, r2, r3, r4, r5, r6, r7, r8, r9, r10) := H
               have A17 := Aside0.mk A170
               clear A170
               replace H := Option.bind_eq_some_iff.mp H
               obtain ⟨⟨t435, t436⟩, A180, H⟩ := H
               replace H : (if t422 = true then (if t424 = true then (if t428 = 0 then (if t433 = 0 then (if t436 = 0 then (subchannel_Decode.j0 k (t435.toList != a0.toList) (wrap64 ((bt a0 0) / 16)) t421 t423 t425 t426 t427 t430 t431 t432) else (subchannel_Decode.j0 k true (wrap64 ((bt a0 0) / 16)) t421 t423 t425 t426 t427 t430 t431 t432)) else (subchannel_Decode.j0 k true (wrap64 ((bt a0 0) / 16)) t421 t423 t425 t426 t427 t430 t431 t432)) else (subchannel_Decode.j0 k true (wrap64 ((bt a0 0) / 16)) t421 t423 t425 t426 t427 t430 t431 t432)) else (subchannel_Decode.j0 k true (wrap64 ((bt a0 0) / 16)) t421 t423 t425 t426 t427 t430 t431 t432)) else (subchannel_Decode.j0 k true (wrap64 ((bt a0 0) / 16)) t421 t423 t425 t426 t427 t430 t431 t432)) = some (r1, r2, r3, r4, r5, r6, r7, r8, r9, r10) := H
               have A18 := Aside0.mk A180
               clear A180
               have HC19 := Aside0.mk H
               clear H
               go_enter Try.func23, Try.ntmps23
               try go_wp2_with (first | ((with_reducible refine gate_dst (N := 2) rfl ?_); refine box_event ?hg (N := 2) ?hd (cs := #[.int .i64 0, .int .i64 0, .int .i64 0, .int .i64 0, .int .i64 0, .int .i64 0, .int .i64 0, .int .i64 0, .int .i64 0]) (t := 27) ?hr ?_; (case hd => rfl); (case hg => rfl); (case hr => first | (go_simp; done) | (go_simp; rfl)); intro gb418 hg w20 hbox hb; have n0_ := Aside0.mk (below_step (by repeat (first | (with_reducible first | exact HB.out | apply below_alloc | apply pw_below_drewN | apply below_drew1) | exact HB.out)) hb); have n1_ := Aside0.mk (hbox); have n2_ := Aside0.mk ((by rw [hg]; exact (below_size (by repeat (first | (with_reducible first | exact HB.out | apply below_alloc | apply pw_below_drewN | apply below_drew1) | exact HB.out))) : w.heap.size ≤ gb418)); have n3_ := Aside0.mk ((by rw [hg]; exact (below_size (by repeat (first | (with_reducible first | exact HB.out | apply below_alloc | apply pw_below_drewN | apply below_drew1) | exact HB.out))) : w.heap.size ≤ gb418)); clear HB; have HB := n0_; have BK418 := n1_; have GW418 := n2_; have GE418 := n3_; clear n0_ n1_ n2_ n3_; clear hb hbox hg))
               have n0_ := Aside0.mk (blk_drew BK418.out)
               have n1_ := Aside0.mk (below_drew1 HB.out)
               clear BK418
               clear HB
               have BK418 := n0_
               have HB := n1_
               clear n0_ n1_
               refine start_ (n := 7) (S := fun w' => True) (ds := []) #[false, false, false, false, false, false, false] (by kernel_rfl) rfl rfl trivial (fun hHeld => ?_)
               generalize w20.drew = w21 at BK418 HB hHeld ⊢
               refine pure_ (i := 0) (N := some 19) (v := ?_) (a' := ?_) (mS 7 1) rfl rfl (by kernel_rfl) (fun _ _ _ h => h) (Or.inl ⟨by rfl, ?_⟩) ?_ ?_
               rotate_left
               · intro w'
                 go_simp
                 with_reducible rfl
               rotate_left
               · simp only [Act.put, List.setIfInBounds_toArray, List.set_cons_zero, List.set_cons_succ, i64_w, i32_w]
                 rfl
               refine pure_ (i := 1) (N := some 20) (v := ?_) (a' := ?_) (mS 7 3) rfl rfl (by kernel_rfl) (fun _ _ _ h => h) (Or.inl ⟨by rfl, ?_⟩) ?_ ?_
               rotate_left
               · intro w'
                 go_simp
                 with_reducible rfl
               rotate_left
               · simp only [Act.put, List.setIfInBounds_toArray, List.set_cons_zero, List.set_cons_succ, i64_w, i32_w]
                 rfl
               refine pure_ (i := 3) (N := some 22) (v := ?_) (a' := ?_) (mS 7 11) rfl rfl (by kernel_rfl) (fun _ _ _ h => h) (Or.inl ⟨by rfl, ?_⟩) ?_ ?_
               rotate_left
               · intro w'
                 go_simp
                 with_reducible rfl
               rotate_left
               · simp only [Act.put, List.setIfInBounds_toArray, List.set_cons_zero, List.set_cons_succ, i64_w, i32_w]
                 rfl
               refine pure_ (i := 4) (N := some 23) (v := ?_) (a' := ?_) (mS 7 27) rfl rfl (by kernel_rfl) (fun _ _ _ h => h) (Or.inl ⟨by rfl, ?_⟩) ?_ ?_
               rotate_left
               · intro w'
                 go_simp
                 with_reducible rfl
               rotate_left
               · simp only [Act.put, List.setIfInBounds_toArray, List.set_cons_zero, List.set_cons_succ, i64_w, i32_w]
                 rfl
               refine one_ (i := 2) (N := some 21) (mS 7 31) rfl rfl (by kernel_rfl) (by decide) (fun K hK => ?_)
               refine goes_ Try.func43 (by kernel_rfl) rfl #[.string (a0.extract 0 10)] (by rfl) rfl rfl (by (try simp only [List.map_toArray, List.map_cons, List.map_nil]); first | done | rfl | (simp only [List.length_drop, List.length_take]; rfl)) ?_
               with_reducible refine (subchannel_check.calls (a0.extract 0 10) t419 _ A5.out).mono ?_
               rintro e w22 ⟨rfl, hb⟩
               refine ⟨_, rfl, ?_⟩
               have n0_ := Aside0.mk (blk_below (g := gb418) (o := .cells #[.int .i64 0, .int .i64 0, .int .i64 0, .int .i64 0, .int .i64 0, .int .i64 0, .int .i64 0, .int .i64 0, .int .i64 0] 27 (0, 0)) (by (with_reducible repeat (first | refine blk_drewN ?_ _ | refine blk_drew ?_ | refine blk_alloc ?_ _)); exact BK418.out) hb)
               have n1_ := Aside0.mk (below_step (by repeat (first | (with_reducible first | exact HB.out | apply below_alloc | apply pw_below_drewN | apply below_drew1 | refine below_set ?_ GE418.out) | exact HB.out)) hb)
               clear BK418
               clear HB
               have BK418 := n0_
               have HB := n1_
               clear n0_ n1_
               (try clear hb)
               (try clear hb2)
               (try clear hk)
               (try clear hi)
               refine hK.out _ _ trivial (fun hHeld => ?_)
               clear hK K
               refine norm_ (a' := ?_) ?_ ?_
               rotate_left
               · show Act.put _ (some 21) _ = _
                 simp only [Act.put, List.setIfInBounds_toArray, List.set_cons_zero, List.set_cons_succ, i64_w, i32_w]
                 rfl
               refine pure_ (i := 5) (N := some 24) (v := ?_) (a' := ?_) (mS 7 63) rfl rfl (by kernel_rfl) (fun _ _ _ h => h) (Or.inl ⟨by rfl, ?_⟩) ?_ ?_
               rotate_left
               · intro w'
                 go_simp
                 with_reducible rfl
               rotate_left
               · simp only [Act.put, List.setIfInBounds_toArray, List.set_cons_zero, List.set_cons_succ, i64_w, i32_w]
                 rfl
               refine pure_ (i := 6) (N := some 18) (v := ?_) (a' := ?_) (mS 7 127) rfl rfl (by kernel_rfl) (fun _ _ _ h => h) (Or.inl ⟨by rfl, ?_⟩) ?_ ?_
               rotate_left
               · intro w'
                 go_simp
                 with_reducible rfl
               rotate_left
               · simp only [Act.put, List.setIfInBounds_toArray, List.set_cons_zero, List.set_cons_succ, i64_w, i32_w]
                 rfl
               refine done_ (by kernel_rfl) ?_
               have p9 : 0 ≤ (0 : Int) := (by omega)
               have q9 : 0 < a0.size := (by have : (0 : Int) < (a0.size : Int) := of_decide_eq_true (by first | (with_reducible assumption) | assumption); omega)
               have hx9 : ∀ h : 0 < a0.size, ((a0[0]'h).toNat : Int) = bt a0 0 := bt_at a0 0
               clear p9
               have qi9 : (0 < (a0.size : Int)) = True := eq_true (of_decide_eq_true (by first | (with_reducible assumption) | assumption))
               replace q9 := eq_true q9
               try go_wp2_with (first | ((with_reducible refine gate_dst (N := 4) rfl ?_); refine box_event ?hg (N := 4) ?hd (cs := #[.int .i64 0, .int .i64 0, .int .i64 0, .int .i64 0, .int .i64 0, .int .i64 0, .int .i64 0, .int .i64 0, .int .i64 0]) (t := 27) ?hr ?_; (case hd => rfl); (case hg => rfl); (case hr => first | (go_simp; done) | (go_simp; rfl)); intro gb420 hg w23 hbox hb; have n0_ := Aside0.mk (blk_below (g := gb418) (o := .cells #[.int .i64 0, .int .i64 0, .int .i64 0, .int .i64 0, .int .i64 0, .int .i64 0, .int .i64 0, .int .i64 0, .int .i64 0] 27 (0, 0)) (by (with_reducible repeat (first | refine blk_drewN ?_ _ | refine blk_drew ?_ | refine blk_alloc ?_ _)); exact BK418.out) hb); have n1_ := Aside0.mk (below_step (by repeat (first | (with_reducible first | exact HB.out | apply below_alloc | apply pw_below_drewN | apply below_drew1 | refine below_set ?_ GE418.out) | exact HB.out)) hb); have n2_ := Aside0.mk (hbox); have n3_ := Aside0.mk ((by rw [hg]; exact (below_size (by repeat (first | (with_reducible first | exact HB.out | apply below_alloc | apply pw_below_drewN | apply below_drew1 | refine below_set ?_ GE418.out) | exact HB.out))) : w.heap.size ≤ gb420)); have n4_ := Aside0.mk ((by rw [hg]; exact (below_size (by repeat (first | (with_reducible first | exact HB.out | apply below_alloc | apply pw_below_drewN | apply below_drew1 | refine below_set ?_ GE418.out) | exact HB.out))) : w.heap.size ≤ gb420)); have n5_ := Aside0.mk ((by rw [hg]; exact Nat.ne_of_lt (blk_lt (g := gb418) (o := .cells #[.int .i64 0, .int .i64 0, .int .i64 0, .int .i64 0, .int .i64 0, .int .i64 0, .int .i64 0, .int .i64 0, .int .i64 0] 27 (0, 0)) (by (with_reducible repeat (first | refine blk_drewN ?_ _ | refine blk_drew ?_ | refine blk_alloc ?_ _)); exact BK418.out)) : gb418 ≠ gb420)); have n6_ := Aside0.mk ((by rw [hg]; exact Nat.ne_of_gt (blk_lt (g := gb418) (o := .cells #[.int .i64 0, .int .i64 0, .int .i64 0, .int .i64 0, .int .i64 0, .int .i64 0, .int .i64 0, .int .i64 0, .int .i64 0] 27 (0, 0)) (by (with_reducible repeat (first | refine blk_drewN ?_ _ | refine blk_drew ?_ | refine blk_alloc ?_ _)); exact BK418.out)) : gb420 ≠ gb418)); clear BK418; clear HB; have BK418 := n0_; have HB := n1_; have BK420 := n2_; have GW420 := n3_; have GE420 := n4_; have NB418_420 := n5_; have NB420_418 := n6_; clear n0_ n1_ n2_ n3_ n4_ n5_ n6_; clear hb hbox hg; have hnb24 := NB420_418.out; have hnc24 := NB418_420.out; have hcz25_0 : w23.cell? ⟨gb420, 0, none⟩ = some (.int .i64 0) := (blk_cell BK420.out 0).trans rfl; have hcz25_1 : w23.cell? ⟨gb420, 1, none⟩ = some (.int .i64 0) := (blk_cell BK420.out 1).trans rfl; have hcz25_2 : w23.cell? ⟨gb420, 2, none⟩ = some (.int .i64 0) := (blk_cell BK420.out 2).trans rfl; have hcz25_3 : w23.cell? ⟨gb420, 3, none⟩ = some (.int .i64 0) := (blk_cell BK420.out 3).trans rfl; have hcz25_4 : w23.cell? ⟨gb420, 4, none⟩ = some (.int .i64 0) := (blk_cell BK420.out 4).trans rfl; have hcz25_5 : w23.cell? ⟨gb420, 5, none⟩ = some (.int .i64 0) := (blk_cell BK420.out 5).trans rfl; have hcz25_6 : w23.cell? ⟨gb420, 6, none⟩ = some (.int .i64 0) := (blk_cell BK420.out 6).trans rfl; have hcz25_7 : w23.cell? ⟨gb420, 7, none⟩ = some (.int .i64 0) := (blk_cell BK420.out 7).trans rfl; have hcz25_8 : w23.cell? ⟨gb420, 8, none⟩ = some (.int .i64 0) := (blk_cell BK420.out 8).trans rfl; have hfz25_0 := blk_frozen BK420.out 0; have hfz25_1 := blk_frozen BK420.out 1; have hfz25_2 := blk_frozen BK420.out 2; have hfz25_3 := blk_frozen BK420.out 3; have hfz25_4 := blk_frozen BK420.out 4; have hfz25_5 := blk_frozen BK420.out 5; have hfz25_6 := blk_frozen BK420.out 6; have hfz25_7 := blk_frozen BK420.out 7; have hfz25_8 := blk_frozen BK420.out 8; have p11 : 0 ≤ (1 : Int) := (by omega); have q11 : 1 < a0.size := (by have : (1 : Int) < (a0.size : Int) := of_decide_eq_true (by first | (with_reducible assumption) | assumption); omega); have hx11 : ∀ h : 1 < a0.size, ((a0[1]'h).toNat : Int) = bt a0 1 := bt_at a0 1; clear p11; have qi11 : (1 < (a0.size : Int)) = True := eq_true (of_decide_eq_true (by first | (with_reducible assumption) | assumption)); replace q11 := eq_true q11) | ((with_reducible refine gate_callee (f := 50) rfl ?_); refine goesL_ (some 34) rfl rfl Try.func50 (by kernel_rfl) rfl #[.int .u8 (bt a0 1)] rfl (by (try simp only [List.map_toArray, List.map_cons, List.map_nil]); first | done | rfl | (simp only [List.length_drop, List.length_take]; rfl)) ?_; (with_reducible refine (subchannel_unnumber.calls (bt a0 1) t421 t422 _ A12.out).mono ?_); rintro e w26 ⟨rfl, hb⟩; refine ⟨_, rfl, ?_⟩; have n0_ := Aside0.mk (blk_below (g := gb418) (o := .cells #[.int .i64 0, .int .i64 0, .int .i64 0, .int .i64 0, .int .i64 0, .int .i64 0, .int .i64 0, .int .i64 0, .int .i64 0] 27 (0, 0)) (by (with_reducible repeat (first | refine blk_drewN ?_ _ | refine blk_drew ?_ | refine blk_alloc ?_ _)); refine blk_far ?_ NB418_420.out _; (with_reducible repeat (first | refine blk_drewN ?_ _ | refine blk_drew ?_ | refine blk_alloc ?_ _)); refine blk_far ?_ NB418_420.out _; (with_reducible repeat (first | refine blk_drewN ?_ _ | refine blk_drew ?_ | refine blk_alloc ?_ _)); refine blk_far ?_ NB418_420.out _; (with_reducible repeat (first | refine blk_drewN ?_ _ | refine blk_drew ?_ | refine blk_alloc ?_ _)); refine blk_far ?_ NB418_420.out _; (with_reducible repeat (first | refine blk_drewN ?_ _ | refine blk_drew ?_ | refine blk_alloc ?_ _)); refine blk_far ?_ NB418_420.out _; (with_reducible repeat (first | refine blk_drewN ?_ _ | refine blk_drew ?_ | refine blk_alloc ?_ _)); refine blk_far ?_ NB418_420.out _; (with_reducible repeat (first | refine blk_drewN ?_ _ | refine blk_drew ?_ | refine blk_alloc ?_ _)); refine blk_far ?_ NB418_420.out _; (with_reducible repeat (first | refine blk_drewN ?_ _ | refine blk_drew ?_ | refine blk_alloc ?_ _)); refine blk_far ?_ NB418_420.out _; (with_reducible repeat (first | refine blk_drewN ?_ _ | refine blk_drew ?_ | refine blk_alloc ?_ _)); refine blk_far ?_ NB418_420.out _; (with_reducible repeat (first | refine blk_drewN ?_ _ | refine blk_drew ?_ | refine blk_alloc ?_ _)); exact BK418.out) hb); have n1_ := Aside0.mk (blk_below (g := gb420) (o := .cells #[.int .i64 (wrap64 ((bt a0 0) / 16)), .int .i64 0, .int .i64 0, .int .i64 0, .int .i64 0, .int .i64 0, .int .i64 0, .int .i64 0, .int .i64 0] 27 (0, 0)) (by (with_reducible repeat (first | refine blk_drewN ?_ _ | refine blk_drew ?_ | refine blk_alloc ?_ _)); refine blk_put (cs := #[.int .i64 (wrap64 ((bt a0 0) / 16)), .int .i64 0, .int .i64 0, .int .i64 0, .int .i64 0, .int .i64 0, .int .i64 0, .int .i64 0, .int .i64 0]) ?_ 8 _ rfl; (with_reducible repeat (first | refine blk_drewN ?_ _ | refine blk_drew ?_ | refine blk_alloc ?_ _)); refine blk_put (cs := #[.int .i64 (wrap64 ((bt a0 0) / 16)), .int .i64 0, .int .i64 0, .int .i64 0, .int .i64 0, .int .i64 0, .int .i64 0, .int .i64 0, .int .i64 0]) ?_ 7 _ rfl; (with_reducible repeat (first | refine blk_drewN ?_ _ | refine blk_drew ?_ | refine blk_alloc ?_ _)); refine blk_put (cs := #[.int .i64 (wrap64 ((bt a0 0) / 16)), .int .i64 0, .int .i64 0, .int .i64 0, .int .i64 0, .int .i64 0, .int .i64 0, .int .i64 0, .int .i64 0]) ?_ 6 _ rfl; (with_reducible repeat (first | refine blk_drewN ?_ _ | refine blk_drew ?_ | refine blk_alloc ?_ _)); refine blk_put (cs := #[.int .i64 (wrap64 ((bt a0 0) / 16)), .int .i64 0, .int .i64 0, .int .i64 0, .int .i64 0, .int .i64 0, .int .i64 0, .int .i64 0, .int .i64 0]) ?_ 5 _ rfl; (with_reducible repeat (first | refine blk_drewN ?_ _ | refine blk_drew ?_ | refine blk_alloc ?_ _)); refine blk_put (cs := #[.int .i64 (wrap64 ((bt a0 0) / 16)), .int .i64 0, .int .i64 0, .int .i64 0, .int .i64 0, .int .i64 0, .int .i64 0, .int .i64 0, .int .i64 0]) ?_ 4 _ rfl; (with_reducible repeat (first | refine blk_drewN ?_ _ | refine blk_drew ?_ | refine blk_alloc ?_ _)); refine blk_put (cs := #[.int .i64 (wrap64 ((bt a0 0) / 16)), .int .i64 0, .int .i64 0, .int .i64 0, .int .i64 0, .int .i64 0, .int .i64 0, .int .i64 0, .int .i64 0]) ?_ 3 _ rfl; (with_reducible repeat (first | refine blk_drewN ?_ _ | refine blk_drew ?_ | refine blk_alloc ?_ _)); refine blk_put (cs := #[.int .i64 (wrap64 ((bt a0 0) / 16)), .int .i64 0, .int .i64 0, .int .i64 0, .int .i64 0, .int .i64 0, .int .i64 0, .int .i64 0, .int .i64 0]) ?_ 2 _ rfl; (with_reducible repeat (first | refine blk_drewN ?_ _ | refine blk_drew ?_ | refine blk_alloc ?_ _)); refine blk_put (cs := #[.int .i64 (wrap64 ((bt a0 0) / 16)), .int .i64 0, .int .i64 0, .int .i64 0, .int .i64 0, .int .i64 0, .int .i64 0, .int .i64 0, .int .i64 0]) ?_ 1 _ rfl; (with_reducible repeat (first | refine blk_drewN ?_ _ | refine blk_drew ?_ | refine blk_alloc ?_ _)); refine blk_put (cs := #[.int .i64 0, .int .i64 0, .int .i64 0, .int .i64 0, .int .i64 0, .int .i64 0, .int .i64 0, .int .i64 0, .int .i64 0]) ?_ 0 _ rfl; (with_reducible repeat (first | refine blk_drewN ?_ _ | refine blk_drew ?_ | refine blk_alloc ?_ _)); exact BK420.out) hb); have n2_ := Aside0.mk (below_step (by repeat (first | (with_reducible first | exact HB.out | apply below_alloc | apply pw_below_drewN | apply below_drew1 | refine below_set ?_ GE418.out | refine below_set ?_ GE420.out) | exact HB.out)) hb); clear BK418; clear BK420; clear HB; have BK418 := n0_; have BK420 := n1_; have HB := n2_; clear n0_ n1_ n2_; (try clear hb); (try clear hb2); (try clear hk); (try clear hi); have hcz27_0 : w26.cell? ⟨gb420, 0, none⟩ = some (.int .i64 (wrap64 ((bt a0 0) / 16))) := (blk_cell BK420.out 0).trans rfl; have hcz27_1 : w26.cell? ⟨gb420, 1, none⟩ = some (.int .i64 0) := (blk_cell BK420.out 1).trans rfl; have hcz27_2 : w26.cell? ⟨gb420, 2, none⟩ = some (.int .i64 0) := (blk_cell BK420.out 2).trans rfl; have hcz27_3 : w26.cell? ⟨gb420, 3, none⟩ = some (.int .i64 0) := (blk_cell BK420.out 3).trans rfl; have hcz27_4 : w26.cell? ⟨gb420, 4, none⟩ = some (.int .i64 0) := (blk_cell BK420.out 4).trans rfl; have hcz27_5 : w26.cell? ⟨gb420, 5, none⟩ = some (.int .i64 0) := (blk_cell BK420.out 5).trans rfl; have hcz27_6 : w26.cell? ⟨gb420, 6, none⟩ = some (.int .i64 0) := (blk_cell BK420.out 6).trans rfl; have hcz27_7 : w26.cell? ⟨gb420, 7, none⟩ = some (.int .i64 0) := (blk_cell BK420.out 7).trans rfl; have hcz27_8 : w26.cell? ⟨gb420, 8, none⟩ = some (.int .i64 0) := (blk_cell BK420.out 8).trans rfl; have hfz27_0 := blk_frozen BK420.out 0; have hfz27_1 := blk_frozen BK420.out 1; have hfz27_2 := blk_frozen BK420.out 2; have hfz27_3 := blk_frozen BK420.out 3; have hfz27_4 := blk_frozen BK420.out 4; have hfz27_5 := blk_frozen BK420.out 5; have hfz27_6 := blk_frozen BK420.out 6; have hfz27_7 := blk_frozen BK420.out 7; have hfz27_8 := blk_frozen BK420.out 8; have p14 : 0 ≤ (2 : Int) := (by omega); have q14 : 2 < a0.size := (by have : (2 : Int) < (a0.size : Int) := of_decide_eq_true (by first | (with_reducible assumption) | assumption); omega); have hx14 : ∀ h : 2 < a0.size, ((a0[2]'h).toNat : Int) = bt a0 2 := bt_at a0 2; clear p14; have qi14 : (2 < (a0.size : Int)) = True := eq_true (of_decide_eq_true (by first | (with_reducible assumption) | assumption)); replace q14 := eq_true q14) | ((with_reducible refine gate_callee (f := 50) rfl ?_); refine goesL_ (some 41) rfl rfl Try.func50 (by kernel_rfl) rfl #[.int .u8 (bt a0 2)] rfl (by (try simp only [List.map_toArray, List.map_cons, List.map_nil]); first | done | rfl | (simp only [List.length_drop, List.length_take]; rfl)) ?_; (with_reducible refine (subchannel_unnumber.calls (bt a0 2) t423 t424 _ A15.out).mono ?_); rintro e w28 ⟨rfl, hb⟩; refine ⟨_, rfl, ?_⟩; have n0_ := Aside0.mk (blk_below (g := gb418) (o := .cells #[.int .i64 0, .int .i64 0, .int .i64 0, .int .i64 0, .int .i64 0, .int .i64 0, .int .i64 0, .int .i64 0, .int .i64 0] 27 (0, 0)) (by (with_reducible repeat (first | refine blk_drewN ?_ _ | refine blk_drew ?_ | refine blk_alloc ?_ _)); refine blk_far ?_ NB418_420.out _; (with_reducible repeat (first | refine blk_drewN ?_ _ | refine blk_drew ?_ | refine blk_alloc ?_ _)); exact BK418.out) hb); have n1_ := Aside0.mk (blk_below (g := gb420) (o := .cells #[.int .i64 (wrap64 ((bt a0 0) / 16)), .int .i64 t421, .int .i64 0, .int .i64 0, .int .i64 0, .int .i64 0, .int .i64 0, .int .i64 0, .int .i64 0] 27 (0, 0)) (by (with_reducible repeat (first | refine blk_drewN ?_ _ | refine blk_drew ?_ | refine blk_alloc ?_ _)); refine blk_put (cs := #[.int .i64 (wrap64 ((bt a0 0) / 16)), .int .i64 0, .int .i64 0, .int .i64 0, .int .i64 0, .int .i64 0, .int .i64 0, .int .i64 0, .int .i64 0]) ?_ 1 _ rfl; (with_reducible repeat (first | refine blk_drewN ?_ _ | refine blk_drew ?_ | refine blk_alloc ?_ _)); exact BK420.out) hb); have n2_ := Aside0.mk (below_step (by repeat (first | (with_reducible first | exact HB.out | apply below_alloc | apply pw_below_drewN | apply below_drew1 | refine below_set ?_ GE418.out | refine below_set ?_ GE420.out) | exact HB.out)) hb); clear BK418; clear BK420; clear HB; have BK418 := n0_; have BK420 := n1_; have HB := n2_; clear n0_ n1_ n2_; (try clear hb); (try clear hb2); (try clear hk); (try clear hi); have hcz29_0 : w28.cell? ⟨gb420, 0, none⟩ = some (.int .i64 (wrap64 ((bt a0 0) / 16))) := (blk_cell BK420.out 0).trans rfl; have hcz29_1 : w28.cell? ⟨gb420, 1, none⟩ = some (.int .i64 t421) := (blk_cell BK420.out 1).trans rfl; have hcz29_2 : w28.cell? ⟨gb420, 2, none⟩ = some (.int .i64 0) := (blk_cell BK420.out 2).trans rfl; have hcz29_3 : w28.cell? ⟨gb420, 3, none⟩ = some (.int .i64 0) := (blk_cell BK420.out 3).trans rfl; have hcz29_4 : w28.cell? ⟨gb420, 4, none⟩ = some (.int .i64 0) := (blk_cell BK420.out 4).trans rfl; have hcz29_5 : w28.cell? ⟨gb420, 5, none⟩ = some (.int .i64 0) := (blk_cell BK420.out 5).trans rfl; have hcz29_6 : w28.cell? ⟨gb420, 6, none⟩ = some (.int .i64 0) := (blk_cell BK420.out 6).trans rfl; have hcz29_7 : w28.cell? ⟨gb420, 7, none⟩ = some (.int .i64 0) := (blk_cell BK420.out 7).trans rfl; have hcz29_8 : w28.cell? ⟨gb420, 8, none⟩ = some (.int .i64 0) := (blk_cell BK420.out 8).trans rfl; have hfz29_0 := blk_frozen BK420.out 0; have hfz29_1 := blk_frozen BK420.out 1; have hfz29_2 := blk_frozen BK420.out 2; have hfz29_3 := blk_frozen BK420.out 3; have hfz29_4 := blk_frozen BK420.out 4; have hfz29_5 := blk_frozen BK420.out 5; have hfz29_6 := blk_frozen BK420.out 6; have hfz29_7 := blk_frozen BK420.out 7; have hfz29_8 := blk_frozen BK420.out 8) | ((with_reducible refine gate_callee (f := 51) rfl ?_); refine goesL_ (some 47) rfl rfl Try.func51 (by kernel_rfl) rfl #[.string a0, .int .i64 3] rfl (by (try simp only [List.map_toArray, List.map_cons, List.map_nil]); first | done | rfl | (simp only [List.length_drop, List.length_take]; rfl)) ?_; (with_reducible refine (address_Decode.calls a0 3 t425 t426 t427 t428 _ A16.out).mono ?_); rintro e w30 ⟨rfl, hb⟩; refine ⟨_, rfl, ?_⟩; have n0_ := Aside0.mk (blk_below (g := gb418) (o := .cells #[.int .i64 0, .int .i64 0, .int .i64 0, .int .i64 0, .int .i64 0, .int .i64 0, .int .i64 0, .int .i64 0, .int .i64 0] 27 (0, 0)) (by (with_reducible repeat (first | refine blk_drewN ?_ _ | refine blk_drew ?_ | refine blk_alloc ?_ _)); refine blk_far ?_ NB418_420.out _; (with_reducible repeat (first | refine blk_drewN ?_ _ | refine blk_drew ?_ | refine blk_alloc ?_ _)); exact BK418.out) hb); have n1_ := Aside0.mk (blk_below (g := gb420) (o := .cells #[.int .i64 (wrap64 ((bt a0 0) / 16)), .int .i64 t421, .int .i64 t423, .int .i64 0, .int .i64 0, .int .i64 0, .int .i64 0, .int .i64 0, .int .i64 0] 27 (0, 0)) (by (with_reducible repeat (first | refine blk_drewN ?_ _ | refine blk_drew ?_ | refine blk_alloc ?_ _)); refine blk_put (cs := #[.int .i64 (wrap64 ((bt a0 0) / 16)), .int .i64 t421, .int .i64 0, .int .i64 0, .int .i64 0, .int .i64 0, .int .i64 0, .int .i64 0, .int .i64 0]) ?_ 2 _ rfl; (with_reducible repeat (first | refine blk_drewN ?_ _ | refine blk_drew ?_ | refine blk_alloc ?_ _)); exact BK420.out) hb); have n2_ := Aside0.mk (below_step (by repeat (first | (with_reducible first | exact HB.out | apply below_alloc | apply pw_below_drewN | apply below_drew1 | refine below_set ?_ GE418.out | refine below_set ?_ GE420.out) | exact HB.out)) hb); clear BK418; clear BK420; clear HB; have BK418 := n0_; have BK420 := n1_; have HB := n2_; clear n0_ n1_ n2_; (try clear hb); (try clear hb2); (try clear hk); (try clear hi)) | ((with_reducible refine gate_dst (N := 7) rfl ?_); refine box_event ?hg (N := 7) ?hd (cs := #[.int .i64 0, .int .i64 0, .int .i64 0]) (t := 25) ?hr ?_; (case hd => rfl); (case hg => rfl); (case hr => first | (go_simp; done) | (go_simp; rfl)); intro gb429 hg w31 hbox hb; have n0_ := Aside0.mk (blk_below (g := gb418) (o := .cells #[.int .i64 0, .int .i64 0, .int .i64 0, .int .i64 0, .int .i64 0, .int .i64 0, .int .i64 0, .int .i64 0, .int .i64 0] 27 (0, 0)) (by (with_reducible repeat (first | refine blk_drewN ?_ _ | refine blk_drew ?_ | refine blk_alloc ?_ _)); exact BK418.out) hb); have n1_ := Aside0.mk (blk_below (g := gb420) (o := .cells #[.int .i64 (wrap64 ((bt a0 0) / 16)), .int .i64 t421, .int .i64 t423, .int .i64 0, .int .i64 0, .int .i64 0, .int .i64 0, .int .i64 0, .int .i64 0] 27 (0, 0)) (by (with_reducible repeat (first | refine blk_drewN ?_ _ | refine blk_drew ?_ | refine blk_alloc ?_ _)); exact BK420.out) hb); have n2_ := Aside0.mk (below_step (by repeat (first | (with_reducible first | exact HB.out | apply below_alloc | apply pw_below_drewN | apply below_drew1 | refine below_set ?_ GE418.out | refine below_set ?_ GE420.out) | exact HB.out)) hb); have n3_ := Aside0.mk (hbox); have n4_ := Aside0.mk ((by rw [hg]; exact (below_size (by repeat (first | (with_reducible first | exact HB.out | apply below_alloc | apply pw_below_drewN | apply below_drew1 | refine below_set ?_ GE418.out | refine below_set ?_ GE420.out) | exact HB.out))) : w.heap.size ≤ gb429)); have n5_ := Aside0.mk ((by rw [hg]; exact (below_size (by repeat (first | (with_reducible first | exact HB.out | apply below_alloc | apply pw_below_drewN | apply below_drew1 | refine below_set ?_ GE418.out | refine below_set ?_ GE420.out) | exact HB.out))) : w.heap.size ≤ gb429)); have n6_ := Aside0.mk ((by rw [hg]; exact Nat.ne_of_lt (blk_lt (g := gb418) (o := .cells #[.int .i64 0, .int .i64 0, .int .i64 0, .int .i64 0, .int .i64 0, .int .i64 0, .int .i64 0, .int .i64 0, .int .i64 0] 27 (0, 0)) (by (with_reducible repeat (first | refine blk_drewN ?_ _ | refine blk_drew ?_ | refine blk_alloc ?_ _)); exact BK418.out)) : gb418 ≠ gb429)); have n7_ := Aside0.mk ((by rw [hg]; exact Nat.ne_of_gt (blk_lt (g := gb418) (o := .cells #[.int .i64 0, .int .i64 0, .int .i64 0, .int .i64 0, .int .i64 0, .int .i64 0, .int .i64 0, .int .i64 0, .int .i64 0] 27 (0, 0)) (by (with_reducible repeat (first | refine blk_drewN ?_ _ | refine blk_drew ?_ | refine blk_alloc ?_ _)); exact BK418.out)) : gb429 ≠ gb418)); have n8_ := Aside0.mk ((by rw [hg]; exact Nat.ne_of_lt (blk_lt (g := gb420) (o := .cells #[.int .i64 (wrap64 ((bt a0 0) / 16)), .int .i64 t421, .int .i64 t423, .int .i64 0, .int .i64 0, .int .i64 0, .int .i64 0, .int .i64 0, .int .i64 0] 27 (0, 0)) (by (with_reducible repeat (first | refine blk_drewN ?_ _ | refine blk_drew ?_ | refine blk_alloc ?_ _)); exact BK420.out)) : gb420 ≠ gb429)); have n9_ := Aside0.mk ((by rw [hg]; exact Nat.ne_of_gt (blk_lt (g := gb420) (o := .cells #[.int .i64 (wrap64 ((bt a0 0) / 16)), .int .i64 t421, .int .i64 t423, .int .i64 0, .int .i64 0, .int .i64 0, .int .i64 0, .int .i64 0, .int .i64 0] 27 (0, 0)) (by (with_reducible repeat (first | refine blk_drewN ?_ _ | refine blk_drew ?_ | refine blk_alloc ?_ _)); exact BK420.out)) : gb429 ≠ gb420)); clear BK418; clear BK420; clear HB; have BK418 := n0_; have BK420 := n1_; have HB := n2_; have BK429 := n3_; have GW429 := n4_; have GE429 := n5_; have NB418_429 := n6_; have NB429_418 := n7_; have NB420_429 := n8_; have NB429_420 := n9_; clear n0_ n1_ n2_ n3_ n4_ n5_ n6_ n7_ n8_ n9_; clear hb hbox hg; have hnb32 := NB429_418.out; have hnc32 := NB418_429.out; have hnb33 := NB429_420.out; have hnc33 := NB420_429.out; obtain ⟨hcz34_0, hcz34_1, hcz34_2⟩ := cel3 BK429.out; obtain ⟨hfz34_0, hfz34_1, hfz34_2⟩ := frz3 BK429.out) | ((with_reducible refine gate_callee (f := 51) rfl ?_); refine goesL_ (some 52) rfl rfl Try.func51 (by kernel_rfl) rfl #[.string a0, .int .i64 7] rfl (by (try simp only [List.map_toArray, List.map_cons, List.map_nil]); first | done | rfl | (simp only [List.length_drop, List.length_take]; rfl)) ?_; (with_reducible refine (address_Decode.calls a0 7 t430 t431 t432 t433 _ A17.out).mono ?_); rintro e w35 ⟨rfl, hb⟩; refine ⟨_, rfl, ?_⟩; have n0_ := Aside0.mk (blk_below (g := gb418) (o := .cells #[.int .i64 0, .int .i64 0, .int .i64 0, .int .i64 0, .int .i64 0, .int .i64 0, .int .i64 0, .int .i64 0, .int .i64 0] 27 (0, 0)) (by (with_reducible repeat (first | refine blk_drewN ?_ _ | refine blk_drew ?_ | refine blk_alloc ?_ _)); refine blk_far ?_ NB418_429.out _; (with_reducible repeat (first | refine blk_drewN ?_ _ | refine blk_drew ?_ | refine blk_alloc ?_ _)); refine blk_far ?_ NB418_429.out _; (with_reducible repeat (first | refine blk_drewN ?_ _ | refine blk_drew ?_ | refine blk_alloc ?_ _)); refine blk_far ?_ NB418_429.out _; (with_reducible repeat (first | refine blk_drewN ?_ _ | refine blk_drew ?_ | refine blk_alloc ?_ _)); exact BK418.out) hb); have n1_ := Aside0.mk (blk_below (g := gb420) (o := .cells #[.int .i64 (wrap64 ((bt a0 0) / 16)), .int .i64 t421, .int .i64 t423, .int .i64 0, .int .i64 0, .int .i64 0, .int .i64 0, .int .i64 0, .int .i64 0] 27 (0, 0)) (by (with_reducible repeat (first | refine blk_drewN ?_ _ | refine blk_drew ?_ | refine blk_alloc ?_ _)); refine blk_far ?_ NB420_429.out _; (with_reducible repeat (first | refine blk_drewN ?_ _ | refine blk_drew ?_ | refine blk_alloc ?_ _)); refine blk_far ?_ NB420_429.out _; (with_reducible repeat (first | refine blk_drewN ?_ _ | refine blk_drew ?_ | refine blk_alloc ?_ _)); refine blk_far ?_ NB420_429.out _; (with_reducible repeat (first | refine blk_drewN ?_ _ | refine blk_drew ?_ | refine blk_alloc ?_ _)); exact BK420.out) hb); have n2_ := Aside0.mk (blk_below (g := gb429) (o := .cells #[.int .i64 t425, .int .i64 t426, .int .i64 t427] 25 (0, 0)) (by (with_reducible repeat (first | refine blk_drewN ?_ _ | refine blk_drew ?_ | refine blk_alloc ?_ _)); refine blk_put (cs := #[.int .i64 t425, .int .i64 t426, .int .i64 0]) ?_ 2 _ rfl; (with_reducible repeat (first | refine blk_drewN ?_ _ | refine blk_drew ?_ | refine blk_alloc ?_ _)); refine blk_put (cs := #[.int .i64 t425, .int .i64 0, .int .i64 0]) ?_ 1 _ rfl; (with_reducible repeat (first | refine blk_drewN ?_ _ | refine blk_drew ?_ | refine blk_alloc ?_ _)); refine blk_put (cs := #[.int .i64 0, .int .i64 0, .int .i64 0]) ?_ 0 _ rfl; (with_reducible repeat (first | refine blk_drewN ?_ _ | refine blk_drew ?_ | refine blk_alloc ?_ _)); exact BK429.out) hb); have n3_ := Aside0.mk (below_step (by repeat (first | (with_reducible first | exact HB.out | apply below_alloc | apply pw_below_drewN | apply below_drew1 | refine below_set ?_ GE418.out | refine below_set ?_ GE420.out | refine below_set ?_ GE429.out) | exact HB.out)) hb); clear BK418; clear BK420; clear BK429; clear HB; have BK418 := n0_; have BK420 := n1_; have BK429 := n2_; have HB := n3_; clear n0_ n1_ n2_ n3_; (try clear hb); (try clear hb2); (try clear hk); (try clear hi)) | ((with_reducible refine gate_dst (N := 9) rfl ?_); refine box_event ?hg (N := 9) ?hd (cs := #[.int .i64 0, .int .i64 0, .int .i64 0]) (t := 25) ?hr ?_; (case hd => rfl); (case hg => rfl); (case hr => first | (go_simp; done) | (go_simp; rfl)); intro gb434 hg w36 hbox hb; have n0_ := Aside0.mk (blk_below (g := gb418) (o := .cells #[.int .i64 0, .int .i64 0, .int .i64 0, .int .i64 0, .int .i64 0, .int .i64 0, .int .i64 0, .int .i64 0, .int .i64 0] 27 (0, 0)) (by (with_reducible repeat (first | refine blk_drewN ?_ _ | refine blk_drew ?_ | refine blk_alloc ?_ _)); exact BK418.out) hb); have n1_ := Aside0.mk (blk_below (g := gb420) (o := .cells #[.int .i64 (wrap64 ((bt a0 0) / 16)), .int .i64 t421, .int .i64 t423, .int .i64 0, .int .i64 0, .int .i64 0, .int .i64 0, .int .i64 0, .int .i64 0] 27 (0, 0)) (by (with_reducible repeat (first | refine blk_drewN ?_ _ | refine blk_drew ?_ | refine blk_alloc ?_ _)); exact BK420.out) hb); have n2_ := Aside0.mk (blk_below (g := gb429) (o := .cells #[.int .i64 t425, .int .i64 t426, .int .i64 t427] 25 (0, 0)) (by (with_reducible repeat (first | refine blk_drewN ?_ _ | refine blk_drew ?_ | refine blk_alloc ?_ _)); exact BK429.out) hb); have n3_ := Aside0.mk (below_step (by repeat (first | (with_reducible first | exact HB.out | apply below_alloc | apply pw_below_drewN | apply below_drew1 | refine below_set ?_ GE418.out | refine below_set ?_ GE420.out | refine below_set ?_ GE429.out) | exact HB.out)) hb); have n4_ := Aside0.mk (hbox); have n5_ := Aside0.mk ((by rw [hg]; exact (below_size (by repeat (first | (with_reducible first | exact HB.out | apply below_alloc | apply pw_below_drewN | apply below_drew1 | refine below_set ?_ GE418.out | refine below_set ?_ GE420.out | refine below_set ?_ GE429.out) | exact HB.out))) : w.heap.size ≤ gb434)); have n6_ := Aside0.mk ((by rw [hg]; exact (below_size (by repeat (first | (with_reducible first | exact HB.out | apply below_alloc | apply pw_below_drewN | apply below_drew1 | refine below_set ?_ GE418.out | refine below_set ?_ GE420.out | refine below_set ?_ GE429.out) | exact HB.out))) : w.heap.size ≤ gb434)); have n7_ := Aside0.mk ((by rw [hg]; exact Nat.ne_of_lt (blk_lt (g := gb418) (o := .cells #[.int .i64 0, .int .i64 0, .int .i64 0, .int .i64 0, .int .i64 0, .int .i64 0, .int .i64 0, .int .i64 0, .int .i64 0] 27 (0, 0)) (by (with_reducible repeat (first | refine blk_drewN ?_ _ | refine blk_drew ?_ | refine blk_alloc ?_ _)); exact BK418.out)) : gb418 ≠ gb434)); have n8_ := Aside0.mk ((by rw [hg]; exact Nat.ne_of_gt (blk_lt (g := gb418) (o := .cells #[.int .i64 0, .int .i64 0, .int .i64 0, .int .i64 0, .int .i64 0, .int .i64 0, .int .i64 0, .int .i64 0, .int .i64 0] 27 (0, 0)) (by (with_reducible repeat (first | refine blk_drewN ?_ _ | refine blk_drew ?_ | refine blk_alloc ?_ _)); exact BK418.out)) : gb434 ≠ gb418)); have n9_ := Aside0.mk ((by rw [hg]; exact Nat.ne_of_lt (blk_lt (g := gb420) (o := .cells #[.int .i64 (wrap64 ((bt a0 0) / 16)), .int .i64 t421, .int .i64 t423, .int .i64 0, .int .i64 0, .int .i64 0, .int .i64 0, .int .i64 0, .int .i64 0] 27 (0, 0)) (by (with_reducible repeat (first | refine blk_drewN ?_ _ | refine blk_drew ?_ | refine blk_alloc ?_ _)); exact BK420.out)) : gb420 ≠ gb434)); have n10_ := Aside0.mk ((by rw [hg]; exact Nat.ne_of_gt (blk_lt (g := gb420) (o := .cells #[.int .i64 (wrap64 ((bt a0 0) / 16)), .int .i64 t421, .int .i64 t423, .int .i64 0, .int .i64 0, .int .i64 0, .int .i64 0, .int .i64 0, .int .i64 0] 27 (0, 0)) (by (with_reducible repeat (first | refine blk_drewN ?_ _ | refine blk_drew ?_ | refine blk_alloc ?_ _)); exact BK420.out)) : gb434 ≠ gb420)); have n11_ := Aside0.mk ((by rw [hg]; exact Nat.ne_of_lt (blk_lt (g := gb429) (o := .cells #[.int .i64 t425, .int .i64 t426, .int .i64 t427] 25 (0, 0)) (by (with_reducible repeat (first | refine blk_drewN ?_ _ | refine blk_drew ?_ | refine blk_alloc ?_ _)); exact BK429.out)) : gb429 ≠ gb434)); have n12_ := Aside0.mk ((by rw [hg]; exact Nat.ne_of_gt (blk_lt (g := gb429) (o := .cells #[.int .i64 t425, .int .i64 t426, .int .i64 t427] 25 (0, 0)) (by (with_reducible repeat (first | refine blk_drewN ?_ _ | refine blk_drew ?_ | refine blk_alloc ?_ _)); exact BK429.out)) : gb434 ≠ gb429)); clear BK418; clear BK420; clear BK429; clear HB; have BK418 := n0_; have BK420 := n1_; have BK429 := n2_; have HB := n3_; have BK434 := n4_; have GW434 := n5_; have GE434 := n6_; have NB418_434 := n7_; have NB434_418 := n8_; have NB420_434 := n9_; have NB434_420 := n10_; have NB429_434 := n11_; have NB434_429 := n12_; clear n0_ n1_ n2_ n3_ n4_ n5_ n6_ n7_ n8_ n9_ n10_ n11_ n12_; clear hb hbox hg; have hnb37 := NB434_418.out; have hnc37 := NB418_434.out; have hnb38 := NB434_420.out; have hnc38 := NB420_434.out; have hnb39 := NB434_429.out; have hnc39 := NB429_434.out; obtain ⟨hcz40_0, hcz40_1, hcz40_2⟩ := cel3 BK434.out; obtain ⟨hfz40_0, hfz40_1, hfz40_2⟩ := frz3 BK434.out))
               have n0_ : Aside0 ((((w36.setCell ⟨gb434, 0, none⟩ (.int .i64 t430)).setCell ⟨gb434, 1, none⟩ (.int .i64 t431)).setCell ⟨gb434, 2, none⟩ (.int .i64 t432)).heap[gb418]? = some (.cells #[.int .i64 0, .int .i64 0, .int .i64 0, .int .i64 0, .int .i64 0, .int .i64 0, .int .i64 0, .int .i64 0, .int .i64 0] 27 (0, 0))) := ⟨by (with_reducible repeat (first | refine blk_drewN ?_ _ | refine blk_drew ?_ | refine blk_alloc ?_ _)); refine blk_far ?_ NB418_434.out _; (with_reducible repeat (first | refine blk_drewN ?_ _ | refine blk_drew ?_ | refine blk_alloc ?_ _)); refine blk_far ?_ NB418_434.out _; (with_reducible repeat (first | refine blk_drewN ?_ _ | refine blk_drew ?_ | refine blk_alloc ?_ _)); refine blk_far ?_ NB418_434.out _; (with_reducible repeat (first | refine blk_drewN ?_ _ | refine blk_drew ?_ | refine blk_alloc ?_ _)); exact BK418.out⟩
               have n1_ : Aside0 ((((w36.setCell ⟨gb434, 0, none⟩ (.int .i64 t430)).setCell ⟨gb434, 1, none⟩ (.int .i64 t431)).setCell ⟨gb434, 2, none⟩ (.int .i64 t432)).heap[gb420]? = some (.cells #[.int .i64 (wrap64 ((bt a0 0) / 16)), .int .i64 t421, .int .i64 t423, .int .i64 0, .int .i64 0, .int .i64 0, .int .i64 0, .int .i64 0, .int .i64 0] 27 (0, 0))) := ⟨by (with_reducible repeat (first | refine blk_drewN ?_ _ | refine blk_drew ?_ | refine blk_alloc ?_ _)); refine blk_far ?_ NB420_434.out _; (with_reducible repeat (first | refine blk_drewN ?_ _ | refine blk_drew ?_ | refine blk_alloc ?_ _)); refine blk_far ?_ NB420_434.out _; (with_reducible repeat (first | refine blk_drewN ?_ _ | refine blk_drew ?_ | refine blk_alloc ?_ _)); refine blk_far ?_ NB420_434.out _; (with_reducible repeat (first | refine blk_drewN ?_ _ | refine blk_drew ?_ | refine blk_alloc ?_ _)); exact BK420.out⟩
               have n2_ : Aside0 ((((w36.setCell ⟨gb434, 0, none⟩ (.int .i64 t430)).setCell ⟨gb434, 1, none⟩ (.int .i64 t431)).setCell ⟨gb434, 2, none⟩ (.int .i64 t432)).heap[gb429]? = some (.cells #[.int .i64 t425, .int .i64 t426, .int .i64 t427] 25 (0, 0))) := ⟨by (with_reducible repeat (first | refine blk_drewN ?_ _ | refine blk_drew ?_ | refine blk_alloc ?_ _)); refine blk_far ?_ NB429_434.out _; (with_reducible repeat (first | refine blk_drewN ?_ _ | refine blk_drew ?_ | refine blk_alloc ?_ _)); refine blk_far ?_ NB429_434.out _; (with_reducible repeat (first | refine blk_drewN ?_ _ | refine blk_drew ?_ | refine blk_alloc ?_ _)); refine blk_far ?_ NB429_434.out _; (with_reducible repeat (first | refine blk_drewN ?_ _ | refine blk_drew ?_ | refine blk_alloc ?_ _)); exact BK429.out⟩
               have n3_ : Aside0 ((((w36.setCell ⟨gb434, 0, none⟩ (.int .i64 t430)).setCell ⟨gb434, 1, none⟩ (.int .i64 t431)).setCell ⟨gb434, 2, none⟩ (.int .i64 t432)).heap[gb434]? = some (.cells #[.int .i64 t430, .int .i64 t431, .int .i64 t432] 25 (0, 0))) := ⟨by (with_reducible repeat (first | refine blk_drewN ?_ _ | refine blk_drew ?_ | refine blk_alloc ?_ _)); refine blk_put (cs := #[.int .i64 t430, .int .i64 t431, .int .i64 0]) ?_ 2 _ rfl; (with_reducible repeat (first | refine blk_drewN ?_ _ | refine blk_drew ?_ | refine blk_alloc ?_ _)); refine blk_put (cs := #[.int .i64 t430, .int .i64 0, .int .i64 0]) ?_ 1 _ rfl; (with_reducible repeat (first | refine blk_drewN ?_ _ | refine blk_drew ?_ | refine blk_alloc ?_ _)); refine blk_put (cs := #[.int .i64 0, .int .i64 0, .int .i64 0]) ?_ 0 _ rfl; (with_reducible repeat (first | refine blk_drewN ?_ _ | refine blk_drew ?_ | refine blk_alloc ?_ _)); exact BK434.out⟩
               have n4_ : Aside0 (Below w.heap.size w (((w36.setCell ⟨gb434, 0, none⟩ (.int .i64 t430)).setCell ⟨gb434, 1, none⟩ (.int .i64 t431)).setCell ⟨gb434, 2, none⟩ (.int .i64 t432))) := ⟨by repeat (first | (with_reducible first | exact HB.out | apply below_alloc | apply pw_below_drewN | apply below_drew1 | refine below_set ?_ GE418.out | refine below_set ?_ GE420.out | refine below_set ?_ GE429.out | refine below_set ?_ GE434.out) | exact HB.out)⟩
               (try clear BK418)
               (try clear BK420)
               (try clear BK429)
               (try clear BK434)
               (try clear HB)
               generalize (((w36.setCell ⟨gb434, 0, none⟩ (.int .i64 t430)).setCell ⟨gb434, 1, none⟩ (.int .i64 t431)).setCell ⟨gb434, 2, none⟩ (.int .i64 t432)) = w41 at n0_ n1_ n2_ n3_ n4_ ⊢
               have BK418 := n0_
               have BK420 := n1_
               have BK429 := n2_
               have BK434 := n3_
               have HB := n4_
               clear n0_ n1_ n2_ n3_ n4_
               have n0_ := Aside0.mk (blk_drew BK418.out)
               have n1_ := Aside0.mk (blk_drew BK420.out)
               have n2_ := Aside0.mk (blk_drew BK429.out)
               have n3_ := Aside0.mk (blk_drew BK434.out)
               have n4_ := Aside0.mk (below_drew1 HB.out)
               clear BK418
               clear BK420
               clear BK429
               clear BK434
               clear HB
               have BK418 := n0_
               have BK420 := n1_
               have BK429 := n2_
               have BK434 := n3_
               have HB := n4_
               clear n0_ n1_ n2_ n3_ n4_
               refine start_ (n := 6) (S := fun w' => w'.cell? ⟨gb429, 0, none⟩ = some (.int .i64 t425) ∧ w'.cell? ⟨gb429, 1, none⟩ = some (.int .i64 t426) ∧ w'.cell? ⟨gb429, 2, none⟩ = some (.int .i64 t427) ∧ w'.cell? ⟨gb434, 0, none⟩ = some (.int .i64 t430) ∧ w'.cell? ⟨gb434, 1, none⟩ = some (.int .i64 t431) ∧ w'.cell? ⟨gb434, 2, none⟩ = some (.int .i64 t432)) (ds := []) #[false, false, false, false, false, false] (by kernel_rfl) rfl rfl ⟨(blk_cell BK429.out 0).trans rfl, (blk_cell BK429.out 1).trans rfl, (blk_cell BK429.out 2).trans rfl, (blk_cell BK434.out 0).trans rfl, (blk_cell BK434.out 1).trans rfl, (blk_cell BK434.out 2).trans rfl⟩ (fun hHeld => ?_)
               generalize w41.drew = w42 at BK418 BK420 BK429 BK434 HB hHeld ⊢
               refine take_ (i := 0) (N := some 55) (v := ?_) (a' := ?_) (mS 6 1) rfl rfl (by kernel_rfl) (fun _ _ _ h => h) (Or.inl ⟨by rfl, ?_⟩) hHeld ?_ ?_
               rotate_left
               · rintro w' ⟨s0, s1, s2, s3, s4, s5⟩
                 go_simp
                 with_reducible rfl
               rotate_left
               · simp only [Act.put, List.setIfInBounds_toArray, List.set_cons_zero, List.set_cons_succ, i64_w, i32_w]
                 rfl
               refine pure_ (i := 2) (N := some 57) (v := ?_) (a' := ?_) (mS 6 5) rfl rfl (by kernel_rfl) (fun _ _ _ h => h) (Or.inl ⟨by rfl, ?_⟩) ?_ ?_
               rotate_left
               · intro w'
                 go_simp
                 with_reducible rfl
               rotate_left
               · simp only [Act.put, List.setIfInBounds_toArray, List.set_cons_zero, List.set_cons_succ, i64_w, i32_w]
                 rfl
               refine take_ (i := 1) (N := some 56) (v := ?_) (a' := ?_) (mS 6 7) rfl rfl (by kernel_rfl) (fun _ _ _ h => h) (Or.inl ⟨by rfl, ?_⟩) hHeld ?_ ?_
               rotate_left
               · rintro w' ⟨s0, s1, s2, s3, s4, s5⟩
                 go_simp
                 with_reducible rfl
               rotate_left
               · simp only [Act.put, List.setIfInBounds_toArray, List.set_cons_zero, List.set_cons_succ, i64_w, i32_w]
                 rfl
               refine one_ (i := 3) (N := none) (mS 6 15) rfl rfl (by kernel_rfl) (by decide) (fun K hK => ?_)
               have hs43 : w42.cell? ⟨gb420, 3, none⟩ = some (.int .i64 0) := (blk_cell BK420.out 3).trans rfl
               have hfs43 := blk_frozen BK420.out 3
               have hns43_0 := NB418_420.out
               have hns43_2 := NB429_420.out
               have hns43_3 := NB434_420.out
               have hms43_0 := NB420_418.out
               have hms43_2 := NB420_429.out
               have hms43_3 := NB420_434.out
               have hs44 : w42.cell? ⟨gb420, 4, none⟩ = some (.int .i64 0) := (blk_cell BK420.out 4).trans rfl
               have hfs44 := blk_frozen BK420.out 4
               have hns44_0 := NB418_420.out
               have hns44_2 := NB429_420.out
               have hns44_3 := NB434_420.out
               have hms44_0 := NB420_418.out
               have hms44_2 := NB420_429.out
               have hms44_3 := NB420_434.out
               have hs45 : w42.cell? ⟨gb420, 5, none⟩ = some (.int .i64 0) := (blk_cell BK420.out 5).trans rfl
               have hfs45 := blk_frozen BK420.out 5
               have hns45_0 := NB418_420.out
               have hns45_2 := NB429_420.out
               have hns45_3 := NB434_420.out
               have hms45_0 := NB420_418.out
               have hms45_2 := NB420_429.out
               have hms45_3 := NB420_434.out
               refine skip_ (w1 := ?_) (by rfl) rfl ?_ ?_
               rotate_left
               · go_simp
                 rfl
               refine hK.out _ _ ⟨((cell_far (p := ⟨gb420, _, none⟩) NB429_420.out _).trans (((cell_far (p := ⟨gb420, _, none⟩) NB429_420.out _).trans (((cell_far (p := ⟨gb420, _, none⟩) NB429_420.out _).trans (hHeld.1)))))), ((cell_far (p := ⟨gb420, _, none⟩) NB429_420.out _).trans (((cell_far (p := ⟨gb420, _, none⟩) NB429_420.out _).trans (((cell_far (p := ⟨gb420, _, none⟩) NB429_420.out _).trans (hHeld.2.1)))))), ((cell_far (p := ⟨gb420, _, none⟩) NB429_420.out _).trans (((cell_far (p := ⟨gb420, _, none⟩) NB429_420.out _).trans (((cell_far (p := ⟨gb420, _, none⟩) NB429_420.out _).trans (hHeld.2.2.1)))))), ((cell_far (p := ⟨gb420, _, none⟩) NB434_420.out _).trans (((cell_far (p := ⟨gb420, _, none⟩) NB434_420.out _).trans (((cell_far (p := ⟨gb420, _, none⟩) NB434_420.out _).trans (hHeld.2.2.2.1)))))), ((cell_far (p := ⟨gb420, _, none⟩) NB434_420.out _).trans (((cell_far (p := ⟨gb420, _, none⟩) NB434_420.out _).trans (((cell_far (p := ⟨gb420, _, none⟩) NB434_420.out _).trans (hHeld.2.2.2.2.1)))))), ((cell_far (p := ⟨gb420, _, none⟩) NB434_420.out _).trans (((cell_far (p := ⟨gb420, _, none⟩) NB434_420.out _).trans (((cell_far (p := ⟨gb420, _, none⟩) NB434_420.out _).trans (hHeld.2.2.2.2.2))))))⟩ (fun hHeld => ?_)
               clear hK K
               refine pure_ (i := 4) (N := some 58) (v := ?_) (a' := ?_) (mS 6 31) rfl rfl (by kernel_rfl) (fun _ _ _ h => h) (Or.inl ⟨by rfl, ?_⟩) ?_ ?_
               rotate_left
               · intro w'
                 go_simp
                 with_reducible rfl
               rotate_left
               · simp only [Act.put, List.setIfInBounds_toArray, List.set_cons_zero, List.set_cons_succ, i64_w, i32_w]
                 rfl
               refine one_ (i := 5) (N := none) (mS 6 63) rfl rfl (by kernel_rfl) (by decide) (fun K hK => ?_)
               have hs46 : w42.cell? ⟨gb420, 6, none⟩ = some (.int .i64 0) := (blk_cell BK420.out 6).trans rfl
               have hfs46 := blk_frozen BK420.out 6
               have hns46_0 := NB418_420.out
               have hns46_2 := NB429_420.out
               have hns46_3 := NB434_420.out
               have hms46_0 := NB420_418.out
               have hms46_2 := NB420_429.out
               have hms46_3 := NB420_434.out
               have hs47 : w42.cell? ⟨gb420, 7, none⟩ = some (.int .i64 0) := (blk_cell BK420.out 7).trans rfl
               have hfs47 := blk_frozen BK420.out 7
               have hns47_0 := NB418_420.out
               have hns47_2 := NB429_420.out
               have hns47_3 := NB434_420.out
               have hms47_0 := NB420_418.out
               have hms47_2 := NB420_429.out
               have hms47_3 := NB420_434.out
               have hs48 : w42.cell? ⟨gb420, 8, none⟩ = some (.int .i64 0) := (blk_cell BK420.out 8).trans rfl
               have hfs48 := blk_frozen BK420.out 8
               have hns48_0 := NB418_420.out
               have hns48_2 := NB429_420.out
               have hns48_3 := NB434_420.out
               have hms48_0 := NB420_418.out
               have hms48_2 := NB420_429.out
               have hms48_3 := NB420_434.out
               refine skip_ (w1 := ?_) (by rfl) rfl ?_ ?_
               rotate_left
               · go_simp
                 rfl
               refine hK.out _ _ ⟨((cell_far (p := ⟨gb420, _, none⟩) NB429_420.out _).trans (((cell_far (p := ⟨gb420, _, none⟩) NB429_420.out _).trans (((cell_far (p := ⟨gb420, _, none⟩) NB429_420.out _).trans (hHeld.1)))))), ((cell_far (p := ⟨gb420, _, none⟩) NB429_420.out _).trans (((cell_far (p := ⟨gb420, _, none⟩) NB429_420.out _).trans (((cell_far (p := ⟨gb420, _, none⟩) NB429_420.out _).trans (hHeld.2.1)))))), ((cell_far (p := ⟨gb420, _, none⟩) NB429_420.out _).trans (((cell_far (p := ⟨gb420, _, none⟩) NB429_420.out _).trans (((cell_far (p := ⟨gb420, _, none⟩) NB429_420.out _).trans (hHeld.2.2.1)))))), ((cell_far (p := ⟨gb420, _, none⟩) NB434_420.out _).trans (((cell_far (p := ⟨gb420, _, none⟩) NB434_420.out _).trans (((cell_far (p := ⟨gb420, _, none⟩) NB434_420.out _).trans (hHeld.2.2.2.1)))))), ((cell_far (p := ⟨gb420, _, none⟩) NB434_420.out _).trans (((cell_far (p := ⟨gb420, _, none⟩) NB434_420.out _).trans (((cell_far (p := ⟨gb420, _, none⟩) NB434_420.out _).trans (hHeld.2.2.2.2.1)))))), ((cell_far (p := ⟨gb420, _, none⟩) NB434_420.out _).trans (((cell_far (p := ⟨gb420, _, none⟩) NB434_420.out _).trans (((cell_far (p := ⟨gb420, _, none⟩) NB434_420.out _).trans (hHeld.2.2.2.2.2))))))⟩ (fun hHeld => ?_)
               clear hK K
               refine done_ (by kernel_rfl) ?_
               have hcz49_0 : w42.cell? ⟨gb420, 0, none⟩ = some (.int .i64 (wrap64 ((bt a0 0) / 16))) := (blk_cell BK420.out 0).trans rfl
               have hcz49_1 : w42.cell? ⟨gb420, 1, none⟩ = some (.int .i64 t421) := (blk_cell BK420.out 1).trans rfl
               have hcz49_2 : w42.cell? ⟨gb420, 2, none⟩ = some (.int .i64 t423) := (blk_cell BK420.out 2).trans rfl
               have hcz49_3 : w42.cell? ⟨gb420, 3, none⟩ = some (.int .i64 0) := (blk_cell BK420.out 3).trans rfl
               have hcz49_4 : w42.cell? ⟨gb420, 4, none⟩ = some (.int .i64 0) := (blk_cell BK420.out 4).trans rfl
               have hcz49_5 : w42.cell? ⟨gb420, 5, none⟩ = some (.int .i64 0) := (blk_cell BK420.out 5).trans rfl
               have hcz49_6 : w42.cell? ⟨gb420, 6, none⟩ = some (.int .i64 0) := (blk_cell BK420.out 6).trans rfl
               have hcz49_7 : w42.cell? ⟨gb420, 7, none⟩ = some (.int .i64 0) := (blk_cell BK420.out 7).trans rfl
               have hcz49_8 : w42.cell? ⟨gb420, 8, none⟩ = some (.int .i64 0) := (blk_cell BK420.out 8).trans rfl
               have hfz49_0 := blk_frozen BK420.out 0
               have hfz49_1 := blk_frozen BK420.out 1
               have hfz49_2 := blk_frozen BK420.out 2
               have hfz49_3 := blk_frozen BK420.out 3
               have hfz49_4 := blk_frozen BK420.out 4
               have hfz49_5 := blk_frozen BK420.out 5
               have hfz49_6 := blk_frozen BK420.out 6
               have hfz49_7 := blk_frozen BK420.out 7
               have hfz49_8 := blk_frozen BK420.out 8
               go_upto_region 13 with (first | ((with_reducible refine gate_callee (f := 18) rfl ?_); refine goesL_ (some 61) rfl rfl Try.func18 (by kernel_rfl) rfl #[.agg #[.int .i64 (wrap64 ((bt a0 0) / 16)), .int .i64 t421, .int .i64 t423, .int .i64 t425, .int .i64 t426, .int .i64 t427, .int .i64 t430, .int .i64 t431, .int .i64 t432]] rfl (by (try simp only [List.map_toArray, List.map_cons, List.map_nil]); first | done | rfl | (simp only [List.length_drop, List.length_take]; rfl)) ?_; (with_reducible refine (subchannel_Encode.calls (wrap64 ((bt a0 0) / 16)) t421 t423 t425 t426 t427 t430 t431 t432 t435 t436 _ A18.out).mono ?_); rintro e w50 ⟨rfl, hb⟩; refine ⟨_, rfl, ?_⟩; have n0_ := Aside0.mk (blk_below (g := gb418) (o := .cells #[.int .i64 0, .int .i64 0, .int .i64 0, .int .i64 0, .int .i64 0, .int .i64 0, .int .i64 0, .int .i64 0, .int .i64 0] 27 (0, 0)) (by (with_reducible repeat (first | refine blk_drewN ?_ _ | refine blk_drew ?_ | refine blk_alloc ?_ _)); refine blk_far ?_ NB418_420.out _; (with_reducible repeat (first | refine blk_drewN ?_ _ | refine blk_drew ?_ | refine blk_alloc ?_ _)); refine blk_far ?_ NB418_420.out _; (with_reducible repeat (first | refine blk_drewN ?_ _ | refine blk_drew ?_ | refine blk_alloc ?_ _)); refine blk_far ?_ NB418_420.out _; (with_reducible repeat (first | refine blk_drewN ?_ _ | refine blk_drew ?_ | refine blk_alloc ?_ _)); refine blk_far ?_ NB418_420.out _; (with_reducible repeat (first | refine blk_drewN ?_ _ | refine blk_drew ?_ | refine blk_alloc ?_ _)); refine blk_far ?_ NB418_420.out _; (with_reducible repeat (first | refine blk_drewN ?_ _ | refine blk_drew ?_ | refine blk_alloc ?_ _)); refine blk_far ?_ NB418_420.out _; (with_reducible repeat (first | refine blk_drewN ?_ _ | refine blk_drew ?_ | refine blk_alloc ?_ _)); exact BK418.out) hb); have n1_ := Aside0.mk (blk_below (g := gb420) (o := .cells #[.int .i64 (wrap64 ((bt a0 0) / 16)), .int .i64 t421, .int .i64 t423, .int .i64 t425, .int .i64 t426, .int .i64 t427, .int .i64 t430, .int .i64 t431, .int .i64 t432] 27 (0, 0)) (by (with_reducible repeat (first | refine blk_drewN ?_ _ | refine blk_drew ?_ | refine blk_alloc ?_ _)); refine blk_put (cs := #[.int .i64 (wrap64 ((bt a0 0) / 16)), .int .i64 t421, .int .i64 t423, .int .i64 t425, .int .i64 t426, .int .i64 t427, .int .i64 t430, .int .i64 t431, .int .i64 0]) ?_ 8 _ rfl; (with_reducible repeat (first | refine blk_drewN ?_ _ | refine blk_drew ?_ | refine blk_alloc ?_ _)); refine blk_put (cs := #[.int .i64 (wrap64 ((bt a0 0) / 16)), .int .i64 t421, .int .i64 t423, .int .i64 t425, .int .i64 t426, .int .i64 t427, .int .i64 t430, .int .i64 0, .int .i64 0]) ?_ 7 _ rfl; (with_reducible repeat (first | refine blk_drewN ?_ _ | refine blk_drew ?_ | refine blk_alloc ?_ _)); refine blk_put (cs := #[.int .i64 (wrap64 ((bt a0 0) / 16)), .int .i64 t421, .int .i64 t423, .int .i64 t425, .int .i64 t426, .int .i64 t427, .int .i64 0, .int .i64 0, .int .i64 0]) ?_ 6 _ rfl; (with_reducible repeat (first | refine blk_drewN ?_ _ | refine blk_drew ?_ | refine blk_alloc ?_ _)); refine blk_put (cs := #[.int .i64 (wrap64 ((bt a0 0) / 16)), .int .i64 t421, .int .i64 t423, .int .i64 t425, .int .i64 t426, .int .i64 0, .int .i64 0, .int .i64 0, .int .i64 0]) ?_ 5 _ rfl; (with_reducible repeat (first | refine blk_drewN ?_ _ | refine blk_drew ?_ | refine blk_alloc ?_ _)); refine blk_put (cs := #[.int .i64 (wrap64 ((bt a0 0) / 16)), .int .i64 t421, .int .i64 t423, .int .i64 t425, .int .i64 0, .int .i64 0, .int .i64 0, .int .i64 0, .int .i64 0]) ?_ 4 _ rfl; (with_reducible repeat (first | refine blk_drewN ?_ _ | refine blk_drew ?_ | refine blk_alloc ?_ _)); refine blk_put (cs := #[.int .i64 (wrap64 ((bt a0 0) / 16)), .int .i64 t421, .int .i64 t423, .int .i64 0, .int .i64 0, .int .i64 0, .int .i64 0, .int .i64 0, .int .i64 0]) ?_ 3 _ rfl; (with_reducible repeat (first | refine blk_drewN ?_ _ | refine blk_drew ?_ | refine blk_alloc ?_ _)); exact BK420.out) hb); have n2_ := Aside0.mk (blk_below (g := gb429) (o := .cells #[.int .i64 t425, .int .i64 t426, .int .i64 t427] 25 (0, 0)) (by (with_reducible repeat (first | refine blk_drewN ?_ _ | refine blk_drew ?_ | refine blk_alloc ?_ _)); refine blk_far ?_ NB429_420.out _; (with_reducible repeat (first | refine blk_drewN ?_ _ | refine blk_drew ?_ | refine blk_alloc ?_ _)); refine blk_far ?_ NB429_420.out _; (with_reducible repeat (first | refine blk_drewN ?_ _ | refine blk_drew ?_ | refine blk_alloc ?_ _)); refine blk_far ?_ NB429_420.out _; (with_reducible repeat (first | refine blk_drewN ?_ _ | refine blk_drew ?_ | refine blk_alloc ?_ _)); refine blk_far ?_ NB429_420.out _; (with_reducible repeat (first | refine blk_drewN ?_ _ | refine blk_drew ?_ | refine blk_alloc ?_ _)); refine blk_far ?_ NB429_420.out _; (with_reducible repeat (first | refine blk_drewN ?_ _ | refine blk_drew ?_ | refine blk_alloc ?_ _)); refine blk_far ?_ NB429_420.out _; (with_reducible repeat (first | refine blk_drewN ?_ _ | refine blk_drew ?_ | refine blk_alloc ?_ _)); exact BK429.out) hb); have n3_ := Aside0.mk (blk_below (g := gb434) (o := .cells #[.int .i64 t430, .int .i64 t431, .int .i64 t432] 25 (0, 0)) (by (with_reducible repeat (first | refine blk_drewN ?_ _ | refine blk_drew ?_ | refine blk_alloc ?_ _)); refine blk_far ?_ NB434_420.out _; (with_reducible repeat (first | refine blk_drewN ?_ _ | refine blk_drew ?_ | refine blk_alloc ?_ _)); refine blk_far ?_ NB434_420.out _; (with_reducible repeat (first | refine blk_drewN ?_ _ | refine blk_drew ?_ | refine blk_alloc ?_ _)); refine blk_far ?_ NB434_420.out _; (with_reducible repeat (first | refine blk_drewN ?_ _ | refine blk_drew ?_ | refine blk_alloc ?_ _)); refine blk_far ?_ NB434_420.out _; (with_reducible repeat (first | refine blk_drewN ?_ _ | refine blk_drew ?_ | refine blk_alloc ?_ _)); refine blk_far ?_ NB434_420.out _; (with_reducible repeat (first | refine blk_drewN ?_ _ | refine blk_drew ?_ | refine blk_alloc ?_ _)); refine blk_far ?_ NB434_420.out _; (with_reducible repeat (first | refine blk_drewN ?_ _ | refine blk_drew ?_ | refine blk_alloc ?_ _)); exact BK434.out) hb); have n4_ := Aside0.mk (below_step (by repeat (first | (with_reducible first | exact HB.out | apply below_alloc | apply pw_below_drewN | apply below_drew1 | refine below_set ?_ GE418.out | refine below_set ?_ GE420.out | refine below_set ?_ GE429.out | refine below_set ?_ GE434.out) | exact HB.out)) hb); clear BK418; clear BK420; clear BK429; clear BK434; clear HB; have BK418 := n0_; have BK420 := n1_; have BK429 := n2_; have BK434 := n3_; have HB := n4_; clear n0_ n1_ n2_ n3_ n4_; (try clear hb); (try clear hb2); (try clear hk); (try clear hi)))
               (try simp only [Act.put, List.setIfInBounds_toArray, List.set_cons_zero, List.set_cons_succ])
               go_cut [86] (fun v86 wc => ∃ (kq : Nat) (x86_18 : Bool), v86 = .bool x86_18 ∧ Aside0 (subchannel_Decode.j0 kq x86_18 (wrap64 ((bt a0 0) / 16)) t421 t423 t425 t426 t427 t430 t431 t432 = some (r1, r2, r3, r4, r5, r6, r7, r8, r9, r10)) ∧ Aside0 (kq ≤ k) ∧ Aside0 (wc.heap[gb418]? = some (.cells #[.int .i64 0, .int .i64 0, .int .i64 0, .int .i64 0, .int .i64 0, .int .i64 0, .int .i64 0, .int .i64 0, .int .i64 0] 27 (0, 0))) ∧ Aside0 (wc.heap[gb420]? = some (.cells #[.int .i64 (wrap64 ((bt a0 0) / 16)), .int .i64 t421, .int .i64 t423, .int .i64 t425, .int .i64 t426, .int .i64 t427, .int .i64 t430, .int .i64 t431, .int .i64 t432] 27 (0, 0))) ∧ Aside0 (wc.heap[gb429]? = some (.cells #[.int .i64 t425, .int .i64 t426, .int .i64 t427] 25 (0, 0))) ∧ Aside0 (wc.heap[gb434]? = some (.cells #[.int .i64 t430, .int .i64 t431, .int .i64 t432] 25 (0, 0))) ∧ Aside0 (Below w.heap.size w wc))
               case first =>
                have H := HC19.out
                clear HC19
                by_cases c51 : t422 = true
                · subst c51
                  have H1 : (if t424 = true then (if t428 = 0 then (if t433 = 0 then (if t436 = 0 then (subchannel_Decode.j0 k (t435.toList != a0.toList) (wrap64 ((bt a0 0) / 16)) t421 t423 t425 t426 t427 t430 t431 t432) else (subchannel_Decode.j0 k true (wrap64 ((bt a0 0) / 16)) t421 t423 t425 t426 t427 t430 t431 t432)) else (subchannel_Decode.j0 k true (wrap64 ((bt a0 0) / 16)) t421 t423 t425 t426 t427 t430 t431 t432)) else (subchannel_Decode.j0 k true (wrap64 ((bt a0 0) / 16)) t421 t423 t425 t426 t427 t430 t431 t432)) else (subchannel_Decode.j0 k true (wrap64 ((bt a0 0) / 16)) t421 t423 t425 t426 t427 t430 t431 t432)) = some (r1, r2, r3, r4, r5, r6, r7, r8, r9, r10) := by rw [if_pos rfl] at H; exact H
                  clear H
                  have H := H1
                  clear H1
                  by_cases c52 : t424 = true
                  · subst c52
                    have H1 : (if t428 = 0 then (if t433 = 0 then (if t436 = 0 then (subchannel_Decode.j0 k (t435.toList != a0.toList) (wrap64 ((bt a0 0) / 16)) t421 t423 t425 t426 t427 t430 t431 t432) else (subchannel_Decode.j0 k true (wrap64 ((bt a0 0) / 16)) t421 t423 t425 t426 t427 t430 t431 t432)) else (subchannel_Decode.j0 k true (wrap64 ((bt a0 0) / 16)) t421 t423 t425 t426 t427 t430 t431 t432)) else (subchannel_Decode.j0 k true (wrap64 ((bt a0 0) / 16)) t421 t423 t425 t426 t427 t430 t431 t432)) = some (r1, r2, r3, r4, r5, r6, r7, r8, r9, r10) := by rw [if_pos rfl] at H; exact H
                    clear H
                    have H := H1
                    clear H1
                    by_cases c53 : t428 = 0
                    · rw [if_pos c53] at H
                      have c53b0 : (t428 == 0) = true := beq_iff_eq.mpr c53
                      have c53b1 : (t428 != 0) = false := bne_eq_false_iff_eq.mpr c53
                      clear c53
                      (first | rw [c53b0] | (simp only [i64_w, i32_w]; rw [c53b0]) | skip)
                      by_cases c54 : t433 = 0
                      · rw [if_pos c54] at H
                        have c54b0 : (t433 == 0) = true := beq_iff_eq.mpr c54
                        have c54b1 : (t433 != 0) = false := bne_eq_false_iff_eq.mpr c54
                        clear c54
                        by_cases c55 : t436 = 0
                        · rw [if_pos c55] at H
                          have c55b0 : (t436 == 0) = true := beq_iff_eq.mpr c55
                          have c55b1 : (t436 != 0) = false := bne_eq_false_iff_eq.mpr c55
                          clear c55
                          have H' := Aside0.mk H
                          clear H
                          go_wp2
                          go_meet
                          case rel => exact ⟨_, ((t435.toList != a0.toList)), (by first | rfl | (simp; done) | (simp [*]; done)), H', ⟨by first | omega | exact Nat.le_refl _⟩, ⟨by (with_reducible repeat (first | refine blk_drewN ?_ _ | refine blk_drew ?_ | refine blk_alloc ?_ _)); exact BK418.out⟩, ⟨by (with_reducible repeat (first | refine blk_drewN ?_ _ | refine blk_drew ?_ | refine blk_alloc ?_ _)); exact BK420.out⟩, ⟨by (with_reducible repeat (first | refine blk_drewN ?_ _ | refine blk_drew ?_ | refine blk_alloc ?_ _)); exact BK429.out⟩, ⟨by (with_reducible repeat (first | refine blk_drewN ?_ _ | refine blk_drew ?_ | refine blk_alloc ?_ _)); exact BK434.out⟩, ⟨by repeat (first | (with_reducible first | exact HB.out | apply below_alloc | apply pw_below_drewN | apply below_drew1 | refine below_set ?_ GE418.out | refine below_set ?_ GE420.out | refine below_set ?_ GE429.out | refine below_set ?_ GE434.out) | exact HB.out)⟩⟩
                        · rw [if_neg c55] at H
                          have c55b0 : (t436 == 0) = false := beq_eq_false_iff_ne.mpr c55
                          have c55b1 : (t436 != 0) = true := bne_iff_ne.mpr c55
                          have H' := Aside0.mk H
                          clear H
                          go_wp2
                          go_meet
                          case rel => exact ⟨_, (true), (by first | rfl | (simp; done) | (simp [*]; done)), H', ⟨by first | omega | exact Nat.le_refl _⟩, ⟨by (with_reducible repeat (first | refine blk_drewN ?_ _ | refine blk_drew ?_ | refine blk_alloc ?_ _)); exact BK418.out⟩, ⟨by (with_reducible repeat (first | refine blk_drewN ?_ _ | refine blk_drew ?_ | refine blk_alloc ?_ _)); exact BK420.out⟩, ⟨by (with_reducible repeat (first | refine blk_drewN ?_ _ | refine blk_drew ?_ | refine blk_alloc ?_ _)); exact BK429.out⟩, ⟨by (with_reducible repeat (first | refine blk_drewN ?_ _ | refine blk_drew ?_ | refine blk_alloc ?_ _)); exact BK434.out⟩, ⟨by repeat (first | (with_reducible first | exact HB.out | apply below_alloc | apply pw_below_drewN | apply below_drew1 | refine below_set ?_ GE418.out | refine below_set ?_ GE420.out | refine below_set ?_ GE429.out | refine below_set ?_ GE434.out) | exact HB.out)⟩⟩
                      · rw [if_neg c54] at H
                        have c54b0 : (t433 == 0) = false := beq_eq_false_iff_ne.mpr c54
                        have c54b1 : (t433 != 0) = true := bne_iff_ne.mpr c54
                        have H' := Aside0.mk H
                        clear H
                        go_wp2
                        go_meet
                        case rel => exact ⟨_, (true), (by first | rfl | (simp; done) | (simp [*]; done)), H', ⟨by first | omega | exact Nat.le_refl _⟩, ⟨by (with_reducible repeat (first | refine blk_drewN ?_ _ | refine blk_drew ?_ | refine blk_alloc ?_ _)); exact BK418.out⟩, ⟨by (with_reducible repeat (first | refine blk_drewN ?_ _ | refine blk_drew ?_ | refine blk_alloc ?_ _)); exact BK420.out⟩, ⟨by (with_reducible repeat (first | refine blk_drewN ?_ _ | refine blk_drew ?_ | refine blk_alloc ?_ _)); exact BK429.out⟩, ⟨by (with_reducible repeat (first | refine blk_drewN ?_ _ | refine blk_drew ?_ | refine blk_alloc ?_ _)); exact BK434.out⟩, ⟨by repeat (first | (with_reducible first | exact HB.out | apply below_alloc | apply pw_below_drewN | apply below_drew1 | refine below_set ?_ GE418.out | refine below_set ?_ GE420.out | refine below_set ?_ GE429.out | refine below_set ?_ GE434.out) | exact HB.out)⟩⟩
                    · rw [if_neg c53] at H
                      have c53b0 : (t428 == 0) = false := beq_eq_false_iff_ne.mpr c53
                      have c53b1 : (t428 != 0) = true := bne_iff_ne.mpr c53
                      (first | rw [c53b0] | (simp only [i64_w, i32_w]; rw [c53b0]) | skip)
                      have H' := Aside0.mk H
                      clear H
                      go_wp2
                      go_meet
                      case rel => exact ⟨_, (true), (by first | rfl | (simp; done) | (simp [*]; done)), H', ⟨by first | omega | exact Nat.le_refl _⟩, ⟨by (with_reducible repeat (first | refine blk_drewN ?_ _ | refine blk_drew ?_ | refine blk_alloc ?_ _)); exact BK418.out⟩, ⟨by (with_reducible repeat (first | refine blk_drewN ?_ _ | refine blk_drew ?_ | refine blk_alloc ?_ _)); exact BK420.out⟩, ⟨by (with_reducible repeat (first | refine blk_drewN ?_ _ | refine blk_drew ?_ | refine blk_alloc ?_ _)); exact BK429.out⟩, ⟨by (with_reducible repeat (first | refine blk_drewN ?_ _ | refine blk_drew ?_ | refine blk_alloc ?_ _)); exact BK434.out⟩, ⟨by repeat (first | (with_reducible first | exact HB.out | apply below_alloc | apply pw_below_drewN | apply below_drew1 | refine below_set ?_ GE418.out | refine below_set ?_ GE420.out | refine below_set ?_ GE429.out | refine below_set ?_ GE434.out) | exact HB.out)⟩⟩
                  · replace c52 := Bool.eq_false_iff.mpr c52
                    subst c52
                    have H1 : (subchannel_Decode.j0 k true (wrap64 ((bt a0 0) / 16)) t421 t423 t425 t426 t427 t430 t431 t432) = some (r1, r2, r3, r4, r5, r6, r7, r8, r9, r10) := by rw [if_neg (show ¬ (false = true) by decide)] at H; exact H
                    clear H
                    have H := H1
                    clear H1
                    have H' := Aside0.mk H
                    clear H
                    go_wp2
                    go_meet
                    case rel => exact ⟨_, (true), (by first | rfl | (simp; done) | (simp [*]; done)), H', ⟨by first | omega | exact Nat.le_refl _⟩, ⟨by (with_reducible repeat (first | refine blk_drewN ?_ _ | refine blk_drew ?_ | refine blk_alloc ?_ _)); exact BK418.out⟩, ⟨by (with_reducible repeat (first | refine blk_drewN ?_ _ | refine blk_drew ?_ | refine blk_alloc ?_ _)); exact BK420.out⟩, ⟨by (with_reducible repeat (first | refine blk_drewN ?_ _ | refine blk_drew ?_ | refine blk_alloc ?_ _)); exact BK429.out⟩, ⟨by (with_reducible repeat (first | refine blk_drewN ?_ _ | refine blk_drew ?_ | refine blk_alloc ?_ _)); exact BK434.out⟩, ⟨by repeat (first | (with_reducible first | exact HB.out | apply below_alloc | apply pw_below_drewN | apply below_drew1 | refine below_set ?_ GE418.out | refine below_set ?_ GE420.out | refine below_set ?_ GE429.out | refine below_set ?_ GE434.out) | exact HB.out)⟩⟩
                · replace c51 := Bool.eq_false_iff.mpr c51
                  subst c51
                  have H1 : (subchannel_Decode.j0 k true (wrap64 ((bt a0 0) / 16)) t421 t423 t425 t426 t427 t430 t431 t432) = some (r1, r2, r3, r4, r5, r6, r7, r8, r9, r10) := by rw [if_neg (show ¬ (false = true) by decide)] at H; exact H
                  clear H
                  have H := H1
                  clear H1
                  have H' := Aside0.mk H
                  clear H
                  go_wp2
                  go_meet
                  case rel => exact ⟨_, (true), (by first | rfl | (simp; done) | (simp [*]; done)), H', ⟨by first | omega | exact Nat.le_refl _⟩, ⟨by (with_reducible repeat (first | refine blk_drewN ?_ _ | refine blk_drew ?_ | refine blk_alloc ?_ _)); exact BK418.out⟩, ⟨by (with_reducible repeat (first | refine blk_drewN ?_ _ | refine blk_drew ?_ | refine blk_alloc ?_ _)); exact BK420.out⟩, ⟨by (with_reducible repeat (first | refine blk_drewN ?_ _ | refine blk_drew ?_ | refine blk_alloc ?_ _)); exact BK429.out⟩, ⟨by (with_reducible repeat (first | refine blk_drewN ?_ _ | refine blk_drew ?_ | refine blk_alloc ?_ _)); exact BK434.out⟩, ⟨by repeat (first | (with_reducible first | exact HB.out | apply below_alloc | apply pw_below_drewN | apply below_drew1 | refine below_set ?_ GE418.out | refine below_set ?_ GE420.out | refine below_set ?_ GE429.out | refine below_set ?_ GE434.out) | exact HB.out)⟩⟩
               case rest =>
                clear HC19
                try clear c1
                try clear p1
                try clear q1
                try clear hx1
                try clear qi1
                try clear c2
                try clear c2b0
                try clear c2b1
                try clear p2
                try clear c3
                try clear c3b0
                try clear c3b1
                try clear c4
                try clear c4b0
                try clear c4b1
                try clear c5
                try clear c6
                try clear c6b0
                try clear p6
                try clear c7
                try clear c7b0
                try clear c7b1
                try clear c8
                try clear c8b0
                try clear c8b1
                try clear p9
                try clear q9
                try clear hx9
                try clear qi9
                try clear c10
                try clear c10b0
                try clear c10b1
                try clear p11
                try clear q11
                try clear hx11
                try clear qi11
                try clear c13
                try clear c13b0
                try clear c13b1
                try clear p14
                try clear q14
                try clear hx14
                try clear qi14
                try clear c18
                try clear c23
                try clear c24
                try clear c32
                try clear c33
                try clear c37
                try clear c38
                try clear c39
                try clear c43
                try clear c50
                try clear c51
                try clear c52
                try clear c53
                try clear c53b0
                try clear c53b1
                try clear c54
                try clear c54b0
                try clear c54b1
                try clear c55
                try clear c55b0
                try clear c55b1
                try clear hcz25_0
                try clear hcz25_1
                try clear hcz25_2
                try clear hcz25_3
                try clear hcz25_4
                try clear hcz25_5
                try clear hcz25_6
                try clear hcz25_7
                try clear hcz25_8
                try clear hcz27_0
                try clear hcz27_1
                try clear hcz27_2
                try clear hcz27_3
                try clear hcz27_4
                try clear hcz27_5
                try clear hcz27_6
                try clear hcz27_7
                try clear hcz27_8
                try clear hcz29_0
                try clear hcz29_1
                try clear hcz29_2
                try clear hcz29_3
                try clear hcz29_4
                try clear hcz29_5
                try clear hcz29_6
                try clear hcz29_7
                try clear hcz29_8
                try clear hcz34_0
                try clear hcz34_1
                try clear hcz34_2
                try clear hcz40_0
                try clear hcz40_1
                try clear hcz40_2
                try clear hcz49_0
                try clear hcz49_1
                try clear hcz49_2
                try clear hcz49_3
                try clear hcz49_4
                try clear hcz49_5
                try clear hcz49_6
                try clear hcz49_7
                try clear hcz49_8
                try clear hfz25_0
                try clear hfz25_1
                try clear hfz25_2
                try clear hfz25_3
                try clear hfz25_4
                try clear hfz25_5
                try clear hfz25_6
                try clear hfz25_7
                try clear hfz25_8
                try clear hfz27_0
                try clear hfz27_1
                try clear hfz27_2
                try clear hfz27_3
                try clear hfz27_4
                try clear hfz27_5
                try clear hfz27_6
                try clear hfz27_7
                try clear hfz27_8
                try clear hfz29_0
                try clear hfz29_1
                try clear hfz29_2
                try clear hfz29_3
                try clear hfz29_4
                try clear hfz29_5
                try clear hfz29_6
                try clear hfz29_7
                try clear hfz29_8
                try clear hfz34_0
                try clear hfz34_1
                try clear hfz34_2
                try clear hfz40_0
                try clear hfz40_1
                try clear hfz40_2
                try clear hfz49_0
                try clear hfz49_1
                try clear hfz49_2
                try clear hfz49_3
                try clear hfz49_4
                try clear hfz49_5
                try clear hfz49_6
                try clear hfz49_7
                try clear hfz49_8
                try clear p11
                try clear p14
                try clear p9
                try clear q11
                try clear q14
                try clear q9
                obtain ⟨kq, x86_18, rfl, HA, HJ18, BK418, BK420, BK429, BK434, HB⟩ := hcut
                cases kq with
                | zero => exact absurd HA.out (by simp [subchannel_Decode.j0])
                | succ kj18 =>
                 have H := HA.out
                 clear HA
                 simp only [subchannel_Decode.j0] at H
                 by_cases c56 : x86_18 = true
                 · subst c56
                   have H1 : (some (0, 0, 0, 0, 0, 0, 0, 0, 0, 10)) = some (r1, r2, r3, r4, r5, r6, r7, r8, r9, r10) := by rw [if_pos rfl] at H; exact H
                   clear H
                   have H := H1
                   clear H1
                   simp only [Option.some.injEq, Prod.mk.injEq] at H
                   obtain ⟨rfl, rfl, rfl, rfl, rfl, rfl, rfl, rfl, rfl, rfl⟩ := H
                   have hnb57 := NB418_420.out
                   have hnc57 := NB420_418.out
                   have hnb58 := NB418_429.out
                   have hnc58 := NB429_418.out
                   have hnb59 := NB418_434.out
                   have hnc59 := NB434_418.out
                   have hcz60_0 : wc.cell? ⟨gb418, 0, none⟩ = some (.int .i64 0) := (blk_cell BK418.out 0).trans rfl
                   have hcz60_1 : wc.cell? ⟨gb418, 1, none⟩ = some (.int .i64 0) := (blk_cell BK418.out 1).trans rfl
                   have hcz60_2 : wc.cell? ⟨gb418, 2, none⟩ = some (.int .i64 0) := (blk_cell BK418.out 2).trans rfl
                   have hcz60_3 : wc.cell? ⟨gb418, 3, none⟩ = some (.int .i64 0) := (blk_cell BK418.out 3).trans rfl
                   have hcz60_4 : wc.cell? ⟨gb418, 4, none⟩ = some (.int .i64 0) := (blk_cell BK418.out 4).trans rfl
                   have hcz60_5 : wc.cell? ⟨gb418, 5, none⟩ = some (.int .i64 0) := (blk_cell BK418.out 5).trans rfl
                   have hcz60_6 : wc.cell? ⟨gb418, 6, none⟩ = some (.int .i64 0) := (blk_cell BK418.out 6).trans rfl
                   have hcz60_7 : wc.cell? ⟨gb418, 7, none⟩ = some (.int .i64 0) := (blk_cell BK418.out 7).trans rfl
                   have hcz60_8 : wc.cell? ⟨gb418, 8, none⟩ = some (.int .i64 0) := (blk_cell BK418.out 8).trans rfl
                   have hfz60_0 := blk_frozen BK418.out 0
                   have hfz60_1 := blk_frozen BK418.out 1
                   have hfz60_2 := blk_frozen BK418.out 2
                   have hfz60_3 := blk_frozen BK418.out 3
                   have hfz60_4 := blk_frozen BK418.out 4
                   have hfz60_5 := blk_frozen BK418.out 5
                   have hfz60_6 := blk_frozen BK418.out 6
                   have hfz60_7 := blk_frozen BK418.out 7
                   have hfz60_8 := blk_frozen BK418.out 8
                   go_wp2
                   refine bodyPost_ret (results_ct rfl _ _ gb418 27 #[.int .i64 0, .int .i64 0, .int .i64 0, .int .i64 0, .int .i64 0, .int .i64 0, .int .i64 0, .int .i64 0, .int .i64 0] (0, 0) _ rfl (by (with_reducible repeat (first | refine blk_drewN ?_ _ | refine blk_drew ?_ | refine blk_alloc ?_ _)); refine blk_put (cs := #[.int .i64 0, .int .i64 0, .int .i64 0, .int .i64 0, .int .i64 0, .int .i64 0, .int .i64 0, .int .i64 0, .int .i64 0]) ?_ 8 _ rfl; (with_reducible repeat (first | refine blk_drewN ?_ _ | refine blk_drew ?_ | refine blk_alloc ?_ _)); refine blk_put (cs := #[.int .i64 0, .int .i64 0, .int .i64 0, .int .i64 0, .int .i64 0, .int .i64 0, .int .i64 0, .int .i64 0, .int .i64 0]) ?_ 7 _ rfl; (with_reducible repeat (first | refine blk_drewN ?_ _ | refine blk_drew ?_ | refine blk_alloc ?_ _)); refine blk_put (cs := #[.int .i64 0, .int .i64 0, .int .i64 0, .int .i64 0, .int .i64 0, .int .i64 0, .int .i64 0, .int .i64 0, .int .i64 0]) ?_ 6 _ rfl; (with_reducible repeat (first | refine blk_drewN ?_ _ | refine blk_drew ?_ | refine blk_alloc ?_ _)); refine blk_put (cs := #[.int .i64 0, .int .i64 0, .int .i64 0, .int .i64 0, .int .i64 0, .int .i64 0, .int .i64 0, .int .i64 0, .int .i64 0]) ?_ 5 _ rfl; (with_reducible repeat (first | refine blk_drewN ?_ _ | refine blk_drew ?_ | refine blk_alloc ?_ _)); refine blk_put (cs := #[.int .i64 0, .int .i64 0, .int .i64 0, .int .i64 0, .int .i64 0, .int .i64 0, .int .i64 0, .int .i64 0, .int .i64 0]) ?_ 4 _ rfl; (with_reducible repeat (first | refine blk_drewN ?_ _ | refine blk_drew ?_ | refine blk_alloc ?_ _)); refine blk_put (cs := #[.int .i64 0, .int .i64 0, .int .i64 0, .int .i64 0, .int .i64 0, .int .i64 0, .int .i64 0, .int .i64 0, .int .i64 0]) ?_ 3 _ rfl; (with_reducible repeat (first | refine blk_drewN ?_ _ | refine blk_drew ?_ | refine blk_alloc ?_ _)); refine blk_put (cs := #[.int .i64 0, .int .i64 0, .int .i64 0, .int .i64 0, .int .i64 0, .int .i64 0, .int .i64 0, .int .i64 0, .int .i64 0]) ?_ 2 _ rfl; (with_reducible repeat (first | refine blk_drewN ?_ _ | refine blk_drew ?_ | refine blk_alloc ?_ _)); refine blk_put (cs := #[.int .i64 0, .int .i64 0, .int .i64 0, .int .i64 0, .int .i64 0, .int .i64 0, .int .i64 0, .int .i64 0, .int .i64 0]) ?_ 1 _ rfl; (with_reducible repeat (first | refine blk_drewN ?_ _ | refine blk_drew ?_ | refine blk_alloc ?_ _)); refine blk_put (cs := #[.int .i64 0, .int .i64 0, .int .i64 0, .int .i64 0, .int .i64 0, .int .i64 0, .int .i64 0, .int .i64 0, .int .i64 0]) ?_ 0 _ rfl; (with_reducible repeat (first | refine blk_drewN ?_ _ | refine blk_drew ?_ | refine blk_alloc ?_ _)); exact BK418.out) Try.underlying27 rfl (by kernel_rfl)) rfl ?_
                   exact ⟨by first | rfl | (simp [errW_none, errW_some] <;> rfl) | (simp [*, errW_none, errW_some] <;> rfl), by repeat (first | (with_reducible first | exact HB.out | apply below_alloc | apply pw_below_drewN | apply below_drew1 | refine below_set ?_ GE418.out | refine below_set ?_ GE420.out | refine below_set ?_ GE429.out | refine below_set ?_ GE434.out) | exact HB.out)⟩
                 · replace c56 := Bool.eq_false_iff.mpr c56
                   subst c56
                   have H1 : (some ((wrap64 ((bt a0 0) / 16)), t421, t423, t425, t426, t427, t430, t431, t432, 0)) = some (r1, r2, r3, r4, r5, r6, r7, r8, r9, r10) := by rw [if_neg (show ¬ (false = true) by decide)] at H; exact H
                   clear H
                   have H := H1
                   clear H1
                   simp only [Option.some.injEq, Prod.mk.injEq] at H
                   obtain ⟨rfl, rfl, rfl, rfl, rfl, rfl, rfl, rfl, rfl, rfl⟩ := H
                   have hnb61 := NB420_418.out
                   have hnc61 := NB418_420.out
                   have hnb62 := NB420_429.out
                   have hnc62 := NB429_420.out
                   have hnb63 := NB420_434.out
                   have hnc63 := NB434_420.out
                   have hcz64_0 : wc.cell? ⟨gb420, 0, none⟩ = some (.int .i64 (wrap64 ((bt a0 0) / 16))) := (blk_cell BK420.out 0).trans rfl
                   have hcz64_1 : wc.cell? ⟨gb420, 1, none⟩ = some (.int .i64 t421) := (blk_cell BK420.out 1).trans rfl
                   have hcz64_2 : wc.cell? ⟨gb420, 2, none⟩ = some (.int .i64 t423) := (blk_cell BK420.out 2).trans rfl
                   have hcz64_3 : wc.cell? ⟨gb420, 3, none⟩ = some (.int .i64 t425) := (blk_cell BK420.out 3).trans rfl
                   have hcz64_4 : wc.cell? ⟨gb420, 4, none⟩ = some (.int .i64 t426) := (blk_cell BK420.out 4).trans rfl
                   have hcz64_5 : wc.cell? ⟨gb420, 5, none⟩ = some (.int .i64 t427) := (blk_cell BK420.out 5).trans rfl
                   have hcz64_6 : wc.cell? ⟨gb420, 6, none⟩ = some (.int .i64 t430) := (blk_cell BK420.out 6).trans rfl
                   have hcz64_7 : wc.cell? ⟨gb420, 7, none⟩ = some (.int .i64 t431) := (blk_cell BK420.out 7).trans rfl
                   have hcz64_8 : wc.cell? ⟨gb420, 8, none⟩ = some (.int .i64 t432) := (blk_cell BK420.out 8).trans rfl
                   have hfz64_0 := blk_frozen BK420.out 0
                   have hfz64_1 := blk_frozen BK420.out 1
                   have hfz64_2 := blk_frozen BK420.out 2
                   have hfz64_3 := blk_frozen BK420.out 3
                   have hfz64_4 := blk_frozen BK420.out 4
                   have hfz64_5 := blk_frozen BK420.out 5
                   have hfz64_6 := blk_frozen BK420.out 6
                   have hfz64_7 := blk_frozen BK420.out 7
                   have hfz64_8 := blk_frozen BK420.out 8
                   have hnb65 := NB418_429.out
                   have hnc65 := NB429_418.out
                   have hnb66 := NB418_434.out
                   have hnc66 := NB434_418.out
                   have hcz67_0 : wc.cell? ⟨gb418, 0, none⟩ = some (.int .i64 0) := (blk_cell BK418.out 0).trans rfl
                   have hcz67_1 : wc.cell? ⟨gb418, 1, none⟩ = some (.int .i64 0) := (blk_cell BK418.out 1).trans rfl
                   have hcz67_2 : wc.cell? ⟨gb418, 2, none⟩ = some (.int .i64 0) := (blk_cell BK418.out 2).trans rfl
                   have hcz67_3 : wc.cell? ⟨gb418, 3, none⟩ = some (.int .i64 0) := (blk_cell BK418.out 3).trans rfl
                   have hcz67_4 : wc.cell? ⟨gb418, 4, none⟩ = some (.int .i64 0) := (blk_cell BK418.out 4).trans rfl
                   have hcz67_5 : wc.cell? ⟨gb418, 5, none⟩ = some (.int .i64 0) := (blk_cell BK418.out 5).trans rfl
                   have hcz67_6 : wc.cell? ⟨gb418, 6, none⟩ = some (.int .i64 0) := (blk_cell BK418.out 6).trans rfl
                   have hcz67_7 : wc.cell? ⟨gb418, 7, none⟩ = some (.int .i64 0) := (blk_cell BK418.out 7).trans rfl
                   have hcz67_8 : wc.cell? ⟨gb418, 8, none⟩ = some (.int .i64 0) := (blk_cell BK418.out 8).trans rfl
                   have hfz67_0 := blk_frozen BK418.out 0
                   have hfz67_1 := blk_frozen BK418.out 1
                   have hfz67_2 := blk_frozen BK418.out 2
                   have hfz67_3 := blk_frozen BK418.out 3
                   have hfz67_4 := blk_frozen BK418.out 4
                   have hfz67_5 := blk_frozen BK418.out 5
                   have hfz67_6 := blk_frozen BK418.out 6
                   have hfz67_7 := blk_frozen BK418.out 7
                   have hfz67_8 := blk_frozen BK418.out 8
                   go_wp2
                   refine bodyPost_ret (results_ct rfl _ _ gb418 27 #[.int .i64 (wrap64 ((bt a0 0) / 16)), .int .i64 t421, .int .i64 t423, .int .i64 t425, .int .i64 t426, .int .i64 t427, .int .i64 t430, .int .i64 t431, .int .i64 t432] (0, 0) _ rfl (by (with_reducible repeat (first | refine blk_drewN ?_ _ | refine blk_drew ?_ | refine blk_alloc ?_ _)); refine blk_put (cs := #[.int .i64 (wrap64 ((bt a0 0) / 16)), .int .i64 t421, .int .i64 t423, .int .i64 t425, .int .i64 t426, .int .i64 t427, .int .i64 t430, .int .i64 t431, .int .i64 0]) ?_ 8 _ rfl; (with_reducible repeat (first | refine blk_drewN ?_ _ | refine blk_drew ?_ | refine blk_alloc ?_ _)); refine blk_put (cs := #[.int .i64 (wrap64 ((bt a0 0) / 16)), .int .i64 t421, .int .i64 t423, .int .i64 t425, .int .i64 t426, .int .i64 t427, .int .i64 t430, .int .i64 0, .int .i64 0]) ?_ 7 _ rfl; (with_reducible repeat (first | refine blk_drewN ?_ _ | refine blk_drew ?_ | refine blk_alloc ?_ _)); refine blk_put (cs := #[.int .i64 (wrap64 ((bt a0 0) / 16)), .int .i64 t421, .int .i64 t423, .int .i64 t425, .int .i64 t426, .int .i64 t427, .int .i64 0, .int .i64 0, .int .i64 0]) ?_ 6 _ rfl; (with_reducible repeat (first | refine blk_drewN ?_ _ | refine blk_drew ?_ | refine blk_alloc ?_ _)); refine blk_put (cs := #[.int .i64 (wrap64 ((bt a0 0) / 16)), .int .i64 t421, .int .i64 t423, .int .i64 t425, .int .i64 t426, .int .i64 0, .int .i64 0, .int .i64 0, .int .i64 0]) ?_ 5 _ rfl; (with_reducible repeat (first | refine blk_drewN ?_ _ | refine blk_drew ?_ | refine blk_alloc ?_ _)); refine blk_put (cs := #[.int .i64 (wrap64 ((bt a0 0) / 16)), .int .i64 t421, .int .i64 t423, .int .i64 t425, .int .i64 0, .int .i64 0, .int .i64 0, .int .i64 0, .int .i64 0]) ?_ 4 _ rfl; (with_reducible repeat (first | refine blk_drewN ?_ _ | refine blk_drew ?_ | refine blk_alloc ?_ _)); refine blk_put (cs := #[.int .i64 (wrap64 ((bt a0 0) / 16)), .int .i64 t421, .int .i64 t423, .int .i64 0, .int .i64 0, .int .i64 0, .int .i64 0, .int .i64 0, .int .i64 0]) ?_ 3 _ rfl; (with_reducible repeat (first | refine blk_drewN ?_ _ | refine blk_drew ?_ | refine blk_alloc ?_ _)); refine blk_put (cs := #[.int .i64 (wrap64 ((bt a0 0) / 16)), .int .i64 t421, .int .i64 0, .int .i64 0, .int .i64 0, .int .i64 0, .int .i64 0, .int .i64 0, .int .i64 0]) ?_ 2 _ rfl; (with_reducible repeat (first | refine blk_drewN ?_ _ | refine blk_drew ?_ | refine blk_alloc ?_ _)); refine blk_put (cs := #[.int .i64 (wrap64 ((bt a0 0) / 16)), .int .i64 0, .int .i64 0, .int .i64 0, .int .i64 0, .int .i64 0, .int .i64 0, .int .i64 0, .int .i64 0]) ?_ 1 _ rfl; (with_reducible repeat (first | refine blk_drewN ?_ _ | refine blk_drew ?_ | refine blk_alloc ?_ _)); refine blk_put (cs := #[.int .i64 0, .int .i64 0, .int .i64 0, .int .i64 0, .int .i64 0, .int .i64 0, .int .i64 0, .int .i64 0, .int .i64 0]) ?_ 0 _ rfl; (with_reducible repeat (first | refine blk_drewN ?_ _ | refine blk_drew ?_ | refine blk_alloc ?_ _)); exact BK418.out) Try.underlying27 rfl (by kernel_rfl)) rfl ?_
                   exact ⟨by first | rfl | (simp [errW_none, errW_some] <;> rfl) | (simp [*, errW_none, errW_some] <;> rfl), by repeat (first | (with_reducible first | exact HB.out | apply below_alloc | apply pw_below_drewN | apply below_drew1 | refine below_set ?_ GE418.out | refine below_set ?_ GE420.out | refine below_set ?_ GE429.out | refine below_set ?_ GE434.out) | exact HB.out)⟩
             · rw [if_neg c13] at H
               exact absurd H (by simp)
           · rw [if_neg c10] at H
             exact absurd H (by simp)
         · rw [if_neg c8] at H
           exact absurd H (by simp)
       · rw [if_neg c7] at H
         have c7b0 : (t419.toList == (a0.extract 10 a0.size).toList) = false := beq_eq_false_iff_ne.mpr c7
         have c7b1 : (t419.toList != (a0.extract 10 a0.size).toList) = true := bne_iff_ne.mpr c7
         simp only [Option.some.injEq, Prod.mk.injEq] at H
         obtain ⟨rfl, rfl, rfl, rfl, rfl, rfl, rfl, rfl, rfl, rfl⟩ := H
         go_enter Try.func23, Try.ntmps23
         try go_wp2_with (first | ((with_reducible refine gate_dst (N := 2) rfl ?_); refine box_event ?hg (N := 2) ?hd (cs := #[.int .i64 0, .int .i64 0, .int .i64 0, .int .i64 0, .int .i64 0, .int .i64 0, .int .i64 0, .int .i64 0, .int .i64 0]) (t := 27) ?hr ?_; (case hd => rfl); (case hg => rfl); (case hr => first | (go_simp; done) | (go_simp; rfl)); intro gb418 hg w68 hbox hb; have n0_ := Aside0.mk (below_step (by repeat (first | (with_reducible first | exact HB.out | apply below_alloc | apply pw_below_drewN | apply below_drew1) | exact HB.out)) hb); have n1_ := Aside0.mk (hbox); have n2_ := Aside0.mk ((by rw [hg]; exact (below_size (by repeat (first | (with_reducible first | exact HB.out | apply below_alloc | apply pw_below_drewN | apply below_drew1) | exact HB.out))) : w.heap.size ≤ gb418)); have n3_ := Aside0.mk ((by rw [hg]; exact (below_size (by repeat (first | (with_reducible first | exact HB.out | apply below_alloc | apply pw_below_drewN | apply below_drew1) | exact HB.out))) : w.heap.size ≤ gb418)); clear HB; have HB := n0_; have BK418 := n1_; have GW418 := n2_; have GE418 := n3_; clear n0_ n1_ n2_ n3_; clear hb hbox hg))
         have n0_ := Aside0.mk (blk_drew BK418.out)
         have n1_ := Aside0.mk (below_drew1 HB.out)
         clear BK418
         clear HB
         have BK418 := n0_
         have HB := n1_
         clear n0_ n1_
         refine start_ (n := 7) (S := fun w' => True) (ds := []) #[false, false, false, false, false, false, false] (by kernel_rfl) rfl rfl trivial (fun hHeld => ?_)
         generalize w68.drew = w69 at BK418 HB hHeld ⊢
         refine pure_ (i := 0) (N := some 19) (v := ?_) (a' := ?_) (mS 7 1) rfl rfl (by kernel_rfl) (fun _ _ _ h => h) (Or.inl ⟨by rfl, ?_⟩) ?_ ?_
         rotate_left
         · intro w'
           go_simp
           with_reducible rfl
         rotate_left
         · simp only [Act.put, List.setIfInBounds_toArray, List.set_cons_zero, List.set_cons_succ, i64_w, i32_w]
           rfl
         refine pure_ (i := 1) (N := some 20) (v := ?_) (a' := ?_) (mS 7 3) rfl rfl (by kernel_rfl) (fun _ _ _ h => h) (Or.inl ⟨by rfl, ?_⟩) ?_ ?_
         rotate_left
         · intro w'
           go_simp
           with_reducible rfl
         rotate_left
         · simp only [Act.put, List.setIfInBounds_toArray, List.set_cons_zero, List.set_cons_succ, i64_w, i32_w]
           rfl
         refine pure_ (i := 3) (N := some 22) (v := ?_) (a' := ?_) (mS 7 11) rfl rfl (by kernel_rfl) (fun _ _ _ h => h) (Or.inl ⟨by rfl, ?_⟩) ?_ ?_
         rotate_left
         · intro w'
           go_simp
           with_reducible rfl
         rotate_left
         · simp only [Act.put, List.setIfInBounds_toArray, List.set_cons_zero, List.set_cons_succ, i64_w, i32_w]
           rfl
         refine pure_ (i := 4) (N := some 23) (v := ?_) (a' := ?_) (mS 7 27) rfl rfl (by kernel_rfl) (fun _ _ _ h => h) (Or.inl ⟨by rfl, ?_⟩) ?_ ?_
         rotate_left
         · intro w'
           go_simp
           with_reducible rfl
         rotate_left
         · simp only [Act.put, List.setIfInBounds_toArray, List.set_cons_zero, List.set_cons_succ, i64_w, i32_w]
           rfl
         refine one_ (i := 2) (N := some 21) (mS 7 31) rfl rfl (by kernel_rfl) (by decide) (fun K hK => ?_)
         refine goes_ Try.func43 (by kernel_rfl) rfl #[.string (a0.extract 0 10)] (by rfl) rfl rfl (by (try simp only [List.map_toArray, List.map_cons, List.map_nil]); first | done | rfl | (simp only [List.length_drop, List.length_take]; rfl)) ?_
         with_reducible refine (subchannel_check.calls (a0.extract 0 10) t419 _ A5.out).mono ?_
         rintro e w70 ⟨rfl, hb⟩
         refine ⟨_, rfl, ?_⟩
         have n0_ := Aside0.mk (blk_below (g := gb418) (o := .cells #[.int .i64 0, .int .i64 0, .int .i64 0, .int .i64 0, .int .i64 0, .int .i64 0, .int .i64 0, .int .i64 0, .int .i64 0] 27 (0, 0)) (by (with_reducible repeat (first | refine blk_drewN ?_ _ | refine blk_drew ?_ | refine blk_alloc ?_ _)); exact BK418.out) hb)
         have n1_ := Aside0.mk (below_step (by repeat (first | (with_reducible first | exact HB.out | apply below_alloc | apply pw_below_drewN | apply below_drew1 | refine below_set ?_ GE418.out) | exact HB.out)) hb)
         clear BK418
         clear HB
         have BK418 := n0_
         have HB := n1_
         clear n0_ n1_
         (try clear hb)
         (try clear hb2)
         (try clear hk)
         (try clear hi)
         refine hK.out _ _ trivial (fun hHeld => ?_)
         clear hK K
         refine norm_ (a' := ?_) ?_ ?_
         rotate_left
         · show Act.put _ (some 21) _ = _
           simp only [Act.put, List.setIfInBounds_toArray, List.set_cons_zero, List.set_cons_succ, i64_w, i32_w]
           rfl
         refine pure_ (i := 5) (N := some 24) (v := ?_) (a' := ?_) (mS 7 63) rfl rfl (by kernel_rfl) (fun _ _ _ h => h) (Or.inl ⟨by rfl, ?_⟩) ?_ ?_
         rotate_left
         · intro w'
           go_simp
           with_reducible rfl
         rotate_left
         · simp only [Act.put, List.setIfInBounds_toArray, List.set_cons_zero, List.set_cons_succ, i64_w, i32_w]
           rfl
         refine pure_ (i := 6) (N := some 18) (v := ?_) (a' := ?_) (mS 7 127) rfl rfl (by kernel_rfl) (fun _ _ _ h => h) (Or.inl ⟨by rfl, ?_⟩) ?_ ?_
         rotate_left
         · intro w'
           go_simp
           with_reducible rfl
         rotate_left
         · simp only [Act.put, List.setIfInBounds_toArray, List.set_cons_zero, List.set_cons_succ, i64_w, i32_w]
           rfl
         refine done_ (by kernel_rfl) ?_
         have hcz71_0 : w70.cell? ⟨gb418, 0, none⟩ = some (.int .i64 0) := (blk_cell BK418.out 0).trans rfl
         have hcz71_1 : w70.cell? ⟨gb418, 1, none⟩ = some (.int .i64 0) := (blk_cell BK418.out 1).trans rfl
         have hcz71_2 : w70.cell? ⟨gb418, 2, none⟩ = some (.int .i64 0) := (blk_cell BK418.out 2).trans rfl
         have hcz71_3 : w70.cell? ⟨gb418, 3, none⟩ = some (.int .i64 0) := (blk_cell BK418.out 3).trans rfl
         have hcz71_4 : w70.cell? ⟨gb418, 4, none⟩ = some (.int .i64 0) := (blk_cell BK418.out 4).trans rfl
         have hcz71_5 : w70.cell? ⟨gb418, 5, none⟩ = some (.int .i64 0) := (blk_cell BK418.out 5).trans rfl
         have hcz71_6 : w70.cell? ⟨gb418, 6, none⟩ = some (.int .i64 0) := (blk_cell BK418.out 6).trans rfl
         have hcz71_7 : w70.cell? ⟨gb418, 7, none⟩ = some (.int .i64 0) := (blk_cell BK418.out 7).trans rfl
         have hcz71_8 : w70.cell? ⟨gb418, 8, none⟩ = some (.int .i64 0) := (blk_cell BK418.out 8).trans rfl
         have hfz71_0 := blk_frozen BK418.out 0
         have hfz71_1 := blk_frozen BK418.out 1
         have hfz71_2 := blk_frozen BK418.out 2
         have hfz71_3 := blk_frozen BK418.out 3
         have hfz71_4 := blk_frozen BK418.out 4
         have hfz71_5 := blk_frozen BK418.out 5
         have hfz71_6 := blk_frozen BK418.out 6
         have hfz71_7 := blk_frozen BK418.out 7
         have hfz71_8 := blk_frozen BK418.out 8
         try go_wp2
         refine bodyPost_ret (results_ct rfl _ _ gb418 27 #[.int .i64 0, .int .i64 0, .int .i64 0, .int .i64 0, .int .i64 0, .int .i64 0, .int .i64 0, .int .i64 0, .int .i64 0] (0, 0) _ rfl (by (with_reducible repeat (first | refine blk_drewN ?_ _ | refine blk_drew ?_ | refine blk_alloc ?_ _)); refine blk_put (cs := #[.int .i64 0, .int .i64 0, .int .i64 0, .int .i64 0, .int .i64 0, .int .i64 0, .int .i64 0, .int .i64 0, .int .i64 0]) ?_ 8 _ rfl; (with_reducible repeat (first | refine blk_drewN ?_ _ | refine blk_drew ?_ | refine blk_alloc ?_ _)); refine blk_put (cs := #[.int .i64 0, .int .i64 0, .int .i64 0, .int .i64 0, .int .i64 0, .int .i64 0, .int .i64 0, .int .i64 0, .int .i64 0]) ?_ 7 _ rfl; (with_reducible repeat (first | refine blk_drewN ?_ _ | refine blk_drew ?_ | refine blk_alloc ?_ _)); refine blk_put (cs := #[.int .i64 0, .int .i64 0, .int .i64 0, .int .i64 0, .int .i64 0, .int .i64 0, .int .i64 0, .int .i64 0, .int .i64 0]) ?_ 6 _ rfl; (with_reducible repeat (first | refine blk_drewN ?_ _ | refine blk_drew ?_ | refine blk_alloc ?_ _)); refine blk_put (cs := #[.int .i64 0, .int .i64 0, .int .i64 0, .int .i64 0, .int .i64 0, .int .i64 0, .int .i64 0, .int .i64 0, .int .i64 0]) ?_ 5 _ rfl; (with_reducible repeat (first | refine blk_drewN ?_ _ | refine blk_drew ?_ | refine blk_alloc ?_ _)); refine blk_put (cs := #[.int .i64 0, .int .i64 0, .int .i64 0, .int .i64 0, .int .i64 0, .int .i64 0, .int .i64 0, .int .i64 0, .int .i64 0]) ?_ 4 _ rfl; (with_reducible repeat (first | refine blk_drewN ?_ _ | refine blk_drew ?_ | refine blk_alloc ?_ _)); refine blk_put (cs := #[.int .i64 0, .int .i64 0, .int .i64 0, .int .i64 0, .int .i64 0, .int .i64 0, .int .i64 0, .int .i64 0, .int .i64 0]) ?_ 3 _ rfl; (with_reducible repeat (first | refine blk_drewN ?_ _ | refine blk_drew ?_ | refine blk_alloc ?_ _)); refine blk_put (cs := #[.int .i64 0, .int .i64 0, .int .i64 0, .int .i64 0, .int .i64 0, .int .i64 0, .int .i64 0, .int .i64 0, .int .i64 0]) ?_ 2 _ rfl; (with_reducible repeat (first | refine blk_drewN ?_ _ | refine blk_drew ?_ | refine blk_alloc ?_ _)); refine blk_put (cs := #[.int .i64 0, .int .i64 0, .int .i64 0, .int .i64 0, .int .i64 0, .int .i64 0, .int .i64 0, .int .i64 0, .int .i64 0]) ?_ 1 _ rfl; (with_reducible repeat (first | refine blk_drewN ?_ _ | refine blk_drew ?_ | refine blk_alloc ?_ _)); refine blk_put (cs := #[.int .i64 0, .int .i64 0, .int .i64 0, .int .i64 0, .int .i64 0, .int .i64 0, .int .i64 0, .int .i64 0, .int .i64 0]) ?_ 0 _ rfl; (with_reducible repeat (first | refine blk_drewN ?_ _ | refine blk_drew ?_ | refine blk_alloc ?_ _)); exact BK418.out) Try.underlying27 rfl (by kernel_rfl)) rfl ?_
         exact ⟨by first | rfl | (simp [errW_none, errW_some] <;> rfl) | (simp [*, errW_none, errW_some] <;> rfl), by repeat (first | (with_reducible first | exact HB.out | apply below_alloc | apply pw_below_drewN | apply below_drew1 | refine below_set ?_ GE418.out) | exact HB.out)⟩
     · rw [if_neg c4] at H
       exact absurd H (by simp)
   · rw [if_neg c3] at H
     exact absurd H (by simp)
 · rw [if_neg c2] at H
   have c2b0 : ((a0.size : Int) == 12) = false := beq_eq_false_iff_ne.mpr c2
   have c2b1 : ((a0.size : Int) != 12) = true := bne_iff_ne.mpr c2
   simp only [Option.some.injEq, Prod.mk.injEq] at H
   obtain ⟨rfl, rfl, rfl, rfl, rfl, rfl, rfl, rfl, rfl, rfl⟩ := H
   go_enter Try.func23, Try.ntmps23
   go_wp2_with (first | ((with_reducible refine gate_dst (N := 2) rfl ?_); refine box_event ?hg (N := 2) ?hd (cs := #[.int .i64 0, .int .i64 0, .int .i64 0, .int .i64 0, .int .i64 0, .int .i64 0, .int .i64 0, .int .i64 0, .int .i64 0]) (t := 27) ?hr ?_; (case hd => rfl); (case hg => rfl); (case hr => first | (go_simp; done) | (go_simp; rfl)); intro gb418 hg w72 hbox hb; have n0_ := Aside0.mk (below_step (by repeat (first | (with_reducible first | exact HB.out | apply below_alloc | apply pw_below_drewN | apply below_drew1) | exact HB.out)) hb); have n1_ := Aside0.mk (hbox); have n2_ := Aside0.mk ((by rw [hg]; exact (below_size (by repeat (first | (with_reducible first | exact HB.out | apply below_alloc | apply pw_below_drewN | apply below_drew1) | exact HB.out))) : w.heap.size ≤ gb418)); have n3_ := Aside0.mk ((by rw [hg]; exact (below_size (by repeat (first | (with_reducible first | exact HB.out | apply below_alloc | apply pw_below_drewN | apply below_drew1) | exact HB.out))) : w.heap.size ≤ gb418)); clear HB; have HB := n0_; have BK418 := n1_; have GW418 := n2_; have GE418 := n3_; clear n0_ n1_ n2_ n3_; clear hb hbox hg; have hcz73_0 : w72.cell? ⟨gb418, 0, none⟩ = some (.int .i64 0) := (blk_cell BK418.out 0).trans rfl; have hcz73_1 : w72.cell? ⟨gb418, 1, none⟩ = some (.int .i64 0) := (blk_cell BK418.out 1).trans rfl; have hcz73_2 : w72.cell? ⟨gb418, 2, none⟩ = some (.int .i64 0) := (blk_cell BK418.out 2).trans rfl; have hcz73_3 : w72.cell? ⟨gb418, 3, none⟩ = some (.int .i64 0) := (blk_cell BK418.out 3).trans rfl; have hcz73_4 : w72.cell? ⟨gb418, 4, none⟩ = some (.int .i64 0) := (blk_cell BK418.out 4).trans rfl; have hcz73_5 : w72.cell? ⟨gb418, 5, none⟩ = some (.int .i64 0) := (blk_cell BK418.out 5).trans rfl; have hcz73_6 : w72.cell? ⟨gb418, 6, none⟩ = some (.int .i64 0) := (blk_cell BK418.out 6).trans rfl; have hcz73_7 : w72.cell? ⟨gb418, 7, none⟩ = some (.int .i64 0) := (blk_cell BK418.out 7).trans rfl; have hcz73_8 : w72.cell? ⟨gb418, 8, none⟩ = some (.int .i64 0) := (blk_cell BK418.out 8).trans rfl; have hfz73_0 := blk_frozen BK418.out 0; have hfz73_1 := blk_frozen BK418.out 1; have hfz73_2 := blk_frozen BK418.out 2; have hfz73_3 := blk_frozen BK418.out 3; have hfz73_4 := blk_frozen BK418.out 4; have hfz73_5 := blk_frozen BK418.out 5; have hfz73_6 := blk_frozen BK418.out 6; have hfz73_7 := blk_frozen BK418.out 7; have hfz73_8 := blk_frozen BK418.out 8))
   refine bodyPost_ret (results_ct rfl _ _ gb418 27 #[.int .i64 0, .int .i64 0, .int .i64 0, .int .i64 0, .int .i64 0, .int .i64 0, .int .i64 0, .int .i64 0, .int .i64 0] (0, 0) _ rfl (by (with_reducible repeat (first | refine blk_drewN ?_ _ | refine blk_drew ?_ | refine blk_alloc ?_ _)); refine blk_put (cs := #[.int .i64 0, .int .i64 0, .int .i64 0, .int .i64 0, .int .i64 0, .int .i64 0, .int .i64 0, .int .i64 0, .int .i64 0]) ?_ 8 _ rfl; (with_reducible repeat (first | refine blk_drewN ?_ _ | refine blk_drew ?_ | refine blk_alloc ?_ _)); refine blk_put (cs := #[.int .i64 0, .int .i64 0, .int .i64 0, .int .i64 0, .int .i64 0, .int .i64 0, .int .i64 0, .int .i64 0, .int .i64 0]) ?_ 7 _ rfl; (with_reducible repeat (first | refine blk_drewN ?_ _ | refine blk_drew ?_ | refine blk_alloc ?_ _)); refine blk_put (cs := #[.int .i64 0, .int .i64 0, .int .i64 0, .int .i64 0, .int .i64 0, .int .i64 0, .int .i64 0, .int .i64 0, .int .i64 0]) ?_ 6 _ rfl; (with_reducible repeat (first | refine blk_drewN ?_ _ | refine blk_drew ?_ | refine blk_alloc ?_ _)); refine blk_put (cs := #[.int .i64 0, .int .i64 0, .int .i64 0, .int .i64 0, .int .i64 0, .int .i64 0, .int .i64 0, .int .i64 0, .int .i64 0]) ?_ 5 _ rfl; (with_reducible repeat (first | refine blk_drewN ?_ _ | refine blk_drew ?_ | refine blk_alloc ?_ _)); refine blk_put (cs := #[.int .i64 0, .int .i64 0, .int .i64 0, .int .i64 0, .int .i64 0, .int .i64 0, .int .i64 0, .int .i64 0, .int .i64 0]) ?_ 4 _ rfl; (with_reducible repeat (first | refine blk_drewN ?_ _ | refine blk_drew ?_ | refine blk_alloc ?_ _)); refine blk_put (cs := #[.int .i64 0, .int .i64 0, .int .i64 0, .int .i64 0, .int .i64 0, .int .i64 0, .int .i64 0, .int .i64 0, .int .i64 0]) ?_ 3 _ rfl; (with_reducible repeat (first | refine blk_drewN ?_ _ | refine blk_drew ?_ | refine blk_alloc ?_ _)); refine blk_put (cs := #[.int .i64 0, .int .i64 0, .int .i64 0, .int .i64 0, .int .i64 0, .int .i64 0, .int .i64 0, .int .i64 0, .int .i64 0]) ?_ 2 _ rfl; (with_reducible repeat (first | refine blk_drewN ?_ _ | refine blk_drew ?_ | refine blk_alloc ?_ _)); refine blk_put (cs := #[.int .i64 0, .int .i64 0, .int .i64 0, .int .i64 0, .int .i64 0, .int .i64 0, .int .i64 0, .int .i64 0, .int .i64 0]) ?_ 1 _ rfl; (with_reducible repeat (first | refine blk_drewN ?_ _ | refine blk_drew ?_ | refine blk_alloc ?_ _)); refine blk_put (cs := #[.int .i64 0, .int .i64 0, .int .i64 0, .int .i64 0, .int .i64 0, .int .i64 0, .int .i64 0, .int .i64 0, .int .i64 0]) ?_ 0 _ rfl; (with_reducible repeat (first | refine blk_drewN ?_ _ | refine blk_drew ?_ | refine blk_alloc ?_ _)); exact BK418.out) Try.underlying27 rfl (by kernel_rfl)) rfl ?_
   exact ⟨by first | rfl | (simp [errW_none, errW_some] <;> rfl) | (simp [*, errW_none, errW_some] <;> rfl), by repeat (first | (with_reducible first | exact HB.out | apply below_alloc | apply pw_below_drewN | apply below_drew1 | refine below_set ?_ GE418.out) | exact HB.out)⟩
end Go.Proofs.Ytpmkibggmkibeaa.G
namespace Go.Proofs.Ytpmkibggmkibeaa.G
open Go.RowKit Go.Proofs.YtpmkibggmkibeaaW.PrintWords Go.Proofs.YtpmkibggmkibeaaW.PrintLast Go.Proofs.YtpmkibggmkibeaaW.PrintMore
set_option linter.unusedVariables false
def qvB (c t p m1 s1 f1 m2 s2 f2 : Int) : Bool := decide (0 ≤ c ∧ c ≤ 15) && (decide (0 ≤ t ∧ t ≤ 99) || t == 170) && (decide (0 ≤ p ∧ p ≤ 99) || decide (160 ≤ p ∧ p ≤ 162)) && msfB m1 s1 f1 && msfB m2 s2 f2
theorem some_ite (b c : Bool) : (if b = true then some c else some false) = some (b && c) := by cases b <;> rfl
theorem valid_eq (c t p m1 s1 f1 m2 s2 f2 : Int) : subchannel_valid.f c t p m1 s1 f1 m2 s2 f2 = some (qvB c t p m1 s1 f1 m2 s2 f2) := by
 unfold subchannel_valid.f qvB address_Valid.f
 simp only [between_dec, Option.bind_some]
 generalize decide (0 ≤ c ∧ c ≤ 15) = b1
 generalize decide (0 ≤ t ∧ t ≤ 99) = b2
 generalize decide (0 ≤ p ∧ p ≤ 99) = b3
 generalize decide (160 ≤ p ∧ p ≤ 162) = b4
 generalize msfB m1 s1 f1 = b5
 generalize msfB m2 s2 f2 = b6
 by_cases h : t = 170
 · subst h
   cases b1 <;> cases b2 <;> cases b3 <;> cases b4 <;> cases b5 <;> cases b6 <;> rfl
 · rw [show (t == 170) = false from beq_eq_false_iff_ne.mpr h, if_neg h]
   cases b1 <;> cases b2 <;> cases b3 <;> cases b4 <;> cases b5 <;> cases b6 <;> rfl
theorem refMsf (m s f : Int) : masterdiscref06_Valid.f m s f = some (msfB m s f) := by
 unfold masterdiscref06_Valid.f msfB
 by_cases h1 : m ≥ 0
 case neg => rw [if_neg h1, decide_eq_false (by omega)]
 rw [if_pos h1]
 by_cases h2 : m ≤ 99
 case neg => rw [if_neg h2, decide_eq_false (by omega)]
 rw [if_pos h2]
 by_cases h3 : s ≥ 0
 case neg => rw [if_neg h3, decide_eq_false (by omega)]
 rw [if_pos h3]
 by_cases h4 : s ≤ 59
 case neg => rw [if_neg h4, decide_eq_false (by omega)]
 rw [if_pos h4]
 by_cases h5 : f ≥ 0
 case neg => rw [if_neg h5, decide_eq_false (by omega)]
 rw [if_pos h5]
 congr 1
 rw [decide_eq_decide]
 omega
theorem refValid_j1 (K : Nat) (b3 b4 : Bool) (c t p m1 s1 f1 m2 s2 f2 : Int) : masterdiscref10_Valid.j1 (K + 1) b3 b4 c t p m1 s1 f1 m2 s2 f2 = some (decide (0 ≤ c ∧ c ≤ 15) && b3 && b4 && msfB m1 s1 f1 && msfB m2 s2 f2) := by
 simp only [masterdiscref10_Valid.j1, refMsf, Option.bind_some]
 by_cases h1 : c ≥ 0
 case neg => rw [if_neg h1, decide_eq_false (by omega)]; rfl
 rw [if_pos h1]
 by_cases h2 : c ≤ 15
 case neg => rw [if_neg h2, decide_eq_false (by omega)]; rfl
 rw [if_pos h2, decide_eq_true (by omega)]
 generalize msfB m1 s1 f1 = b5
 generalize msfB m2 s2 f2 = b6
 cases b3 <;> cases b4 <;> cases b5 <;> cases b6 <;> rfl
theorem refValid_j0 (K : Nat) (b3 : Bool) (c t p m1 s1 f1 m2 s2 f2 : Int) : masterdiscref10_Valid.j0 (K + 2) b3 c t p m1 s1 f1 m2 s2 f2 = some (decide (0 ≤ c ∧ c ≤ 15) && b3 && (decide (0 ≤ p ∧ p ≤ 99) || decide (160 ≤ p ∧ p ≤ 162)) && msfB m1 s1 f1 && msfB m2 s2 f2) := by
 simp only [masterdiscref10_Valid.j0, refValid_j1]
 generalize decide (0 ≤ c ∧ c ≤ 15) = bc
 by_cases h1 : p ≥ 0
 · rw [if_pos h1]
   by_cases h2 : p ≤ 99
   · rw [if_pos h2, decide_eq_true (show 0 ≤ p ∧ p ≤ 99 by omega), Bool.true_or]
   · rw [if_neg h2, decide_eq_false (show ¬ (0 ≤ p ∧ p ≤ 99) by omega), Bool.false_or]
     by_cases h3 : p ≥ 160
     · rw [if_pos h3, decide_eq_decide.mpr (show (p ≤ 162 ↔ 160 ≤ p ∧ p ≤ 162) by omega)]
     · rw [if_neg h3, decide_eq_false (show ¬ (160 ≤ p ∧ p ≤ 162) by omega)]
 · rw [if_neg h1, if_neg (by omega), decide_eq_false (show ¬ (0 ≤ p ∧ p ≤ 99) by omega), decide_eq_false (show ¬ (160 ≤ p ∧ p ≤ 162) by omega)]
   rfl
theorem refValid_eq (K : Nat) (c t p m1 s1 f1 m2 s2 f2 : Int) : masterdiscref10_Valid.f (K + 2) c t p m1 s1 f1 m2 s2 f2 = some (qvB c t p m1 s1 f1 m2 s2 f2) := by
 unfold masterdiscref10_Valid.f qvB
 simp only [refValid_j0]
 by_cases h1 : t ≥ 0
 · rw [if_pos h1]
   by_cases h2 : t ≤ 99
   · rw [if_pos h2, decide_eq_true (show 0 ≤ t ∧ t ≤ 99 by omega), Bool.true_or]
   · rw [if_neg h2, decide_eq_false (show ¬ (0 ≤ t ∧ t ≤ 99) by omega), Bool.false_or]
 · rw [if_neg h1, decide_eq_false (show ¬ (0 ≤ t ∧ t ≤ 99) by omega), Bool.false_or]
theorem qv_parts {c t p m1 s1 f1 m2 s2 f2 : Int} (h : qvB c t p m1 s1 f1 m2 s2 f2 = true) : (0 ≤ c ∧ c ≤ 15) ∧ (0 ≤ t ∧ t ≤ 99 ∨ isSp t = true) ∧ (0 ≤ p ∧ p ≤ 99 ∨ isSp p = true) ∧ msfB m1 s1 f1 = true ∧ msfB m2 s2 f2 = true ∧ (0 ≤ t ∧ t ≤ 99 ∨ t = 170) ∧ (0 ≤ p ∧ p ≤ 99 ∨ 160 ≤ p ∧ p ≤ 162) := by
 simp only [qvB, Bool.and_eq_true, Bool.or_eq_true, decide_eq_true_eq, beq_iff_eq] at h
 obtain ⟨⟨⟨⟨h1, h2⟩, h3⟩, h4⟩, h5⟩ := h
 refine ⟨h1, ?_, ?_, h4, h5, h2, h3⟩
 · rcases h2 with h2 | h2
   · exact Or.inl h2
   · right; subst h2; rfl
 · rcases h3 with h3 | h3
   · exact Or.inl h3
   · right
     have : p = 160 ∨ p = 161 ∨ p = 162 := by omega
     rcases this with h | h | h <;> subst h <;> rfl
def adS (m s f : Int) : ByteArray := strOfNums [((endian_BCD.f m).getD (0, 0)).1, ((endian_BCD.f s).getD (0, 0)).1, ((endian_BCD.f f).getD (0, 0)).1]
theorem bcd_get (n : Int) : ∃ x e, endian_BCD.f n = some (x, e) ∧ ((endian_BCD.f n).getD (0, 0)).1 = x ∧ masterdiscref01_BCD.f n = some (x, e) := by
 obtain ⟨x, e, h1, h2, -⟩ := BCD_all n
 exact ⟨x, e, h1, by rw [h1]; rfl, h2⟩
theorem enc1_eq {m s f : Int} (h : msfB m s f = true) : subchannel_Encode_1.f m s f = some (adS m s f) := by
 obtain ⟨x0, e0, h0, g0, -⟩ := bcd_get m
 obtain ⟨x1, e1, h1, g1, -⟩ := bcd_get s
 obtain ⟨x2, e2, h2, g2, -⟩ := bcd_get f
 unfold subchannel_Encode_1.f address_Encode.f address_Encode_1.f adS
 rw [if_pos h, g0, g1, g2, h0, h1, h2]
 simp only [Option.bind_some]
 rw [if_pos (by simp [size_strOfNums])]
 rfl
theorem refenc_eq {m s f : Int} (h : msfB m s f = true) : masterdiscref06_Encode.f m s f = some (adS m s f, 0) := by
 obtain ⟨x0, e0, h0, g0, r0⟩ := bcd_get m
 obtain ⟨x1, e1, h1, g1, r1⟩ := bcd_get s
 obtain ⟨x2, e2, h2, g2, r2⟩ := bcd_get f
 unfold masterdiscref06_Encode.f adS
 rw [refMsf, h, g0, g1, g2]
 simp only [Option.bind_some]
 rw [if_pos trivial, r0, r1, r2]
 rfl
def datS (c t p m1 s1 f1 m2 s2 f2 : Int) : ByteArray := strOfNums [c * 16 + 1, (subchannel_number.f t).getD 0, (subchannel_number.f p).getD 0] ++ adS m1 s1 f1 ++ (⟨#[0]⟩ : ByteArray) ++ adS m2 s2 f2
def encS (c t p m1 s1 f1 m2 s2 f2 : Int) : ByteArray := datS c t p m1 s1 f1 m2 s2 f2 ++ chkS (datS c t p m1 s1 f1 m2 s2 f2)
theorem adS_size (m s f : Int) : (adS m s f).size = 3 := size_strOfNums _
theorem datS_size (c t p m1 s1 f1 m2 s2 f2 : Int) : (datS c t p m1 s1 f1 m2 s2 f2).size = 10 := by
 unfold datS
 simp only [ByteArray.size_append, adS_size, size_strOfNums]
 rfl
theorem chkS_size (s : ByteArray) : (chkS s).size = 2 := size_strOfNums _
theorem encS_size (c t p m1 s1 f1 m2 s2 f2 : Int) : (encS c t p m1 s1 f1 m2 s2 f2).size = 12 := by
 unfold encS
 rw [ByteArray.size_append, datS_size, chkS_size]
theorem encode_eq (c t p m1 s1 f1 m2 s2 f2 : Int) : subchannel_Encode.f c t p m1 s1 f1 m2 s2 f2 = if qvB c t p m1 s1 f1 m2 s2 f2 = true then some (encS c t p m1 s1 f1 m2 s2 f2, 0) else some (⟨#[]⟩, 1) := by
 unfold subchannel_Encode.f
 rw [valid_eq]
 simp only [Option.bind_some]
 by_cases h : qvB c t p m1 s1 f1 m2 s2 f2 = true
 case neg => rw [if_neg h, if_neg h]
 rw [if_pos h, if_pos h]
 obtain ⟨hc, ht, hp, h1, h2, -, -⟩ := qv_parts h
 obtain ⟨b1, e1, -, -, -⟩ := number_byte ht
 obtain ⟨b2, e2, -, -, -⟩ := number_byte hp
 have hd : datS c t p m1 s1 f1 m2 s2 f2 = strOfNums [c * 16 + 1, b1, b2] ++ adS m1 s1 f1 ++ (⟨#[0]⟩ : ByteArray) ++ adS m2 s2 f2 := by
  unfold datS
  rw [e1, e2]
  rfl
 have hsz := datS_size c t p m1 s1 f1 m2 s2 f2
 unfold encS
 rw [e1, e2, enc1_eq h1, enc1_eq h2, (ctl_all hc.1 hc.2).1]
 simp only [Option.bind_some]
 rw [← hd, check_plain _ (by omega)]
 have z3 : (strOfNums [c * 16 + 1, b1, b2]).size = 3 := size_strOfNums _
 rw [if_pos (by rw [z3, adS_size]; decide), if_pos (by simp only [ByteArray.size_append, z3, adS_size]; decide), if_pos (by simp only [ByteArray.size_append, z3, adS_size]; decide)]
 simp only [Option.bind_some]
 rw [if_pos (by rw [hsz, chkS_size]; decide)]
theorem refencode_eq (c t p m1 s1 f1 m2 s2 f2 : Int) : masterdiscref10_Encode.f 101 c t p m1 s1 f1 m2 s2 f2 = if qvB c t p m1 s1 f1 m2 s2 f2 = true then some (encS c t p m1 s1 f1 m2 s2 f2, 0) else some (⟨#[]⟩, 1) := by
 unfold masterdiscref10_Encode.f
 rw [refValid_eq 99]
 simp only [Option.bind_some]
 by_cases h : qvB c t p m1 s1 f1 m2 s2 f2 = true
 case neg => rw [if_neg h, if_neg h]
 rw [if_pos h, if_pos h]
 obtain ⟨hc, ht, hp, h1, h2, -, -⟩ := qv_parts h
 obtain ⟨b1, e1, -, -, -⟩ := number_byte ht
 obtain ⟨b2, e2, -, -, -⟩ := number_byte hp
 have hd : datS c t p m1 s1 f1 m2 s2 f2 = strOfNums [c * 16 + 1, b1, b2] ++ adS m1 s1 f1 ++ (⟨#[0]⟩ : ByteArray) ++ adS m2 s2 f2 := by
  unfold datS
  rw [e1, e2]
  rfl
 have hsz := datS_size c t p m1 s1 f1 m2 s2 f2
 unfold encS
 rw [← number_eq ht, ← number_eq hp, e1, e2, refenc_eq h1, refenc_eq h2, (ctl_all hc.1 hc.2).2]
 simp only [Option.bind_some]
 have hck := refcheck_plain (datS c t p m1 s1 f1 m2 s2 f2) (by omega)
 rw [hsz] at hck
 rw [← hd, hck]
 have z3 : (strOfNums [c * 16 + 1, b1, b2]).size = 3 := size_strOfNums _
 rw [if_pos (by rw [z3, adS_size]; decide), if_pos (by simp only [ByteArray.size_append, z3, adS_size]; decide), if_pos (by simp only [ByteArray.size_append, z3, adS_size]; decide)]
 simp only [Option.bind_some]
 rw [if_pos (by rw [hsz, chkS_size]; decide)]
theorem bt_lit (l : List Int) (r : ByteArray) (i : Nat) (h : i < l.length) (hb : 0 ≤ l[i] ∧ l[i] ≤ 255) : bt (strOfNums l ++ r) (i : Int) = l[i] := by
 have hs := size_strOfNums l
 unfold bt
 rw [Int.toNat_natCast, dif_pos (by rw [ByteArray.size_append]; omega)]
 rw [ByteArray.getElem_append_left (by omega)]
 have : (strOfNums l)[i]'(by omega) = UInt8.ofNat (l[i]).toNat := by
  rw [ByteArray.getElem_eq_getElem_data]
  simp [strOfNums]
 rw [this]
 simp
 omega
theorem app_assoc (a b c : ByteArray) : a ++ b ++ c = a ++ (b ++ c) := ByteArray.append_assoc
theorem encS_head {c t p m1 s1 f1 m2 s2 f2 : Int} (h : qvB c t p m1 s1 f1 m2 s2 f2 = true) :
 bt (encS c t p m1 s1 f1 m2 s2 f2) 0 = c * 16 + 1 ∧ subchannel_number.f t = some (bt (encS c t p m1 s1 f1 m2 s2 f2) 1) ∧ subchannel_number.f p = some (bt (encS c t p m1 s1 f1 m2 s2 f2) 2) ∧ bt (encS c t p m1 s1 f1 m2 s2 f2) 6 = 0 := by
 obtain ⟨hc, ht, hp, h1, h2, -, -⟩ := qv_parts h
 obtain ⟨b1, e1, l1, u1, -⟩ := number_byte ht
 obtain ⟨b2, e2, l2, u2, -⟩ := number_byte hp
 have hd : encS c t p m1 s1 f1 m2 s2 f2 = strOfNums [c * 16 + 1, b1, b2] ++ (adS m1 s1 f1 ++ ((⟨#[0]⟩ : ByteArray) ++ (adS m2 s2 f2 ++ chkS (datS c t p m1 s1 f1 m2 s2 f2)))) := by
  show datS c t p m1 s1 f1 m2 s2 f2 ++ chkS (datS c t p m1 s1 f1 m2 s2 f2) = _
  have : datS c t p m1 s1 f1 m2 s2 f2 = strOfNums [c * 16 + 1, b1, b2] ++ adS m1 s1 f1 ++ (⟨#[0]⟩ : ByteArray) ++ adS m2 s2 f2 := by
   unfold datS; rw [e1, e2]; rfl
  conv => lhs; lhs; rw [this]
  simp only [app_assoc]
 have z3 : (strOfNums [c * 16 + 1, b1, b2]).size = 3 := size_strOfNums _
 have b60 : bt (encS c t p m1 s1 f1 m2 s2 f2) 6 = 0 := by
  have hd2 : encS c t p m1 s1 f1 m2 s2 f2 = (strOfNums [c * 16 + 1, b1, b2] ++ adS m1 s1 f1) ++ ((⟨#[0]⟩ : ByteArray) ++ (adS m2 s2 f2 ++ chkS (datS c t p m1 s1 f1 m2 s2 f2))) := by
   rw [hd]; simp only [app_assoc]
  have hz : (strOfNums [c * 16 + 1, b1, b2] ++ adS m1 s1 f1).size = 6 := by rw [ByteArray.size_append, z3, adS_size]
  rw [hd2]
  unfold bt
  rw [dif_pos (by show 6 < _; simp only [ByteArray.size_append, z3, adS_size]; have : (⟨#[0]⟩ : ByteArray).size = 1 := rfl; omega)]
  rw [ByteArray.getElem_append_right (by show _ ≤ 6; omega)]
  have he : ((6 : Int).toNat - (strOfNums [c * 16 + 1, b1, b2] ++ adS m1 s1 f1).size) = 0 := by rw [hz]; rfl
  rw [ByteArray.getElem_append_left (by rw [he]; decide)]
  simp only [he]
  rfl
 have q0 := bt_lit [c * 16 + 1, b1, b2] (adS m1 s1 f1 ++ ((⟨#[0]⟩ : ByteArray) ++ (adS m2 s2 f2 ++ chkS (datS c t p m1 s1 f1 m2 s2 f2)))) 0 (by simp) (by show 0 ≤ c * 16 + 1 ∧ c * 16 + 1 ≤ 255; omega)
 have q1 := bt_lit [c * 16 + 1, b1, b2] (adS m1 s1 f1 ++ ((⟨#[0]⟩ : ByteArray) ++ (adS m2 s2 f2 ++ chkS (datS c t p m1 s1 f1 m2 s2 f2)))) 1 (by simp) ⟨l1, u1⟩
 have q2 := bt_lit [c * 16 + 1, b1, b2] (adS m1 s1 f1 ++ ((⟨#[0]⟩ : ByteArray) ++ (adS m2 s2 f2 ++ chkS (datS c t p m1 s1 f1 m2 s2 f2)))) 2 (by simp) ⟨l2, u2⟩
 rw [← hd] at q0 q1 q2
 refine ⟨q0, ?_, ?_, b60⟩
 · rw [e1]; exact congrArg some q1.symm
 · rw [e2]; exact congrArg some q2.symm
end Go.Proofs.Ytpmkibggmkibeaa.G
namespace Go.Proofs.Ytpmkibggmkibeaa.G
open Go.RowKit Go.Proofs.YtpmkibggmkibeaaW.PrintWords Go.Proofs.YtpmkibggmkibeaaW.PrintLast Go.Proofs.YtpmkibggmkibeaaW.PrintMore
attribute [local go_sem] max2_int min2_int max_two min_two max_three min_three max_four min_four
set_option linter.unusedVariables false
set_option linter.unusedSimpArgs false
theorem bytes_event {P : Program} {ops : Array Oper} {rest : List Oper} {o : Oper} {a : Act} {Q : Exit → Act → World → Prop} {W : World} (hgd : o.guard = none) {N : Tmp} (_hd : o.dst = some N) (s : ByteArray) (e : TypeId)
 (hrun : (execOp a.eval o).run P W = .ok (.value (.slice (some ⟨W.heap.size, 0, none⟩) s.size (grownCap W s.size 0 e))) (W.drew.alloc (.cells (bytesRow s (grownCap W s.size 0 e)) e ((bytesRow s (grownCap W s.size 0 e)).size, (bytesRow s (grownCap W s.size 0 e)).size + 1))))
 (h : ∀ g cap, g = W.heap.size → ∀ w1, w1.heap[g]? = some (.cells (bytesRow s cap) e ((bytesRow s cap).size, (bytesRow s cap).size + 1)) → Below W.heap.size W w1 → wpList P ops Q rest (a.put o.dst (.slice (some ⟨g, 0, none⟩) s.size cap)) w1) : wpList P ops Q (o :: rest) a W :=
 Kd.event_run hgd hrun (h _ _ rfl _ (blk_new W.drew _) (below_alloc (below_drew (Below.refl _ _)) _))
theorem bytes_run {a : Act} {o : Oper} {W : World} (s : ByteArray) (src dst e : TypeId) (x : Operand) (ho : o.op = .convert src dst x) (hx : a.eval x = .string s) (hs : Try.prog.underlying src = some .string) (hd : Try.prog.underlying dst = some (.slice e)) (he : Try.prog.underlying e = some (.int .u8)) :
 (execOp a.eval o).run Try.prog W = .ok (.value (.slice (some ⟨W.heap.size, 0, none⟩) s.size (grownCap W s.size 0 e))) (W.drew.alloc (.cells (bytesRow s (grownCap W s.size 0 e)) e ((bytesRow s (grownCap W s.size 0 e)).size, (bytesRow s (grownCap W s.size 0 e)).size + 1))) := by
 have hk := run_bytes_of_string (P := Try.prog) W src dst e s hs hd he
 simp [execOp, ho, hx, hk]
def V0 (x a2 : Int) : Int := Go.bits .xor .u8 x (IntKind.u8.wrap a2)
def V1 (x a2 : Int) : Int := Go.bits .xor .u8 x (IntKind.u8.wrap (a2 / 256))
theorem put_fr {w : World} {g : Nat} {t : TypeId} {cs : Array Value} {fr : Nat × Nat} (h : w.heap[g]? = some (.cells cs t fr)) (i : Nat) (u : Value) : (w.setCell ⟨g, i, none⟩ u).heap[g]? = some (.cells (cs.setIfInBounds i u) t fr) := by
 simp [World.setCell, Array.getElem?_modify, h]
theorem frozen_fr {w : World} {g : Nat} {t : TypeId} {cs : Array Value} {a b : Nat} (h : w.heap[g]? = some (.cells cs t (a, b))) (i : Nat) (hi : i < a) : w.frozen? ⟨g, i, none⟩ = false := by
 simp [World.frozen?, h]
 omega
theorem cell_fr {w : World} {g : Nat} {t : TypeId} {cs : Array Value} {fr : Nat × Nat} (h : w.heap[g]? = some (.cells cs t fr)) (i : Nat) : w.cell? ⟨g, i, none⟩ = cs[i]? := cell_of_row w g i cs t fr h
theorem back_run {a : Act} {o : Oper} {W : World} {g cap n : Nat} {cs : Array Value} {t : TypeId} {fr : Nat × Nat} (src dst e : TypeId) (x : Operand) (ho : o.op = .convert src dst x) (l : List UInt8) (hn : n = l.length) (hx : a.eval x = .slice (some ⟨g, 0, none⟩) n cap) (hd : Try.prog.underlying dst = some .string) (hs : Try.prog.underlying src = some (.slice e)) (he : Try.prog.underlying e = some (.int .u8))
 (hg : W.heap[g]? = some (.cells cs t fr)) (hc : ∀ j (hj : j < l.length), cs[j]? = some (.int .u8 (l[j].toNat : Int))) :
 (execOp a.eval o).run Try.prog W = .ok (.value (.string ⟨l.toArray⟩)) W := by
 subst hn
 have hk := run_convert_bytes_back (P := Try.prog) W src dst e ⟨g, 0, none⟩ cap l hs he hd (fun j hj => by
  have e1 : (⟨g, 0, none⟩ : Addr).add j = ⟨g, j, none⟩ := by simp [Addr.add]; omega
  rw [e1, cell_fr hg]
  exact hc j hj)
 simp [execOp, ho, hx, hk]
theorem row_size (s : ByteArray) (cap : Nat) : s.size ≤ (bytesRow s cap).size := by
 unfold bytesRow
 rw [Array.size_append, Array.size_map]
 exact Nat.le_add_right _ _
set_option maxHeartbeats 8000000 in
set_option maxRecDepth 100000 in
theorem det_quit (a0_0 a0_1 a0_2 a0_3 a0_4 a0_5 a0_6 a0_7 a0_8 : Int) (a1 a2 : Int) (s : ByteArray) (t : Int) (w : World) (hE : subchannel_Encode.f a0_0 a0_1 a0_2 a0_3 a0_4 a0_5 a0_6 a0_7 a0_8 = some (s, t)) (hA : masterdisclaw10_awake.f = some true) (hq : ¬ t = 0 ∨ a2 = 0) :
 Calls Try.prog 8 #[.agg #[.int .i64 a0_0, .int .i64 a0_1, .int .i64 a0_2, .int .i64 a0_3, .int .i64 a0_4, .int .i64 a0_5, .int .i64 a0_6, .int .i64 a0_7, .int .i64 a0_8], .int .u8 a1, .int .u16 a2] w fun e w' => e = .returned (.bool true) ∧ Below w.heap.size w w' := by
 have hu27 := Try.underlying27
 have HB := Aside0.mk (Below.refl w.heap.size w)
 have A3 := Aside0.mk hA
 have A8 := Aside0.mk hE
 clear hA hE
 by_cases ht : t = 0
 · obtain rfl : a2 = 0 := by rcases hq with h | h; exact absurd ht h; exact h
   clear hq
   have hb0 : (t == 0) = true := beq_iff_eq.mpr ht
   have hb1 : (t != 0) = false := bne_eq_false_iff_eq.mpr ht
   clear ht
   go_enter Try.func8, Try.ntmps8
   go_wp2_with (first | ((with_reducible refine gate_dst (N := 3) rfl ?_); (try (refine gate_guard (by rfl) ?_; dsimp only)); refine box_event ?hg (N := 3) ?hd (cs := #[.int .i64 a0_0, .int .i64 a0_1, .int .i64 a0_2, .int .i64 a0_3, .int .i64 a0_4, .int .i64 a0_5, .int .i64 a0_6, .int .i64 a0_7, .int .i64 a0_8]) (t := 27) ?hr ?_; (case hd => rfl); (case hg => rfl); (case hr => first | (go_simp; done) | (go_simp; rfl)); intro gb0 hg w1 hbox hb; have n0_ := Aside0.mk (below_step (by repeat (first | (with_reducible first | exact HB.out | apply below_alloc | apply pw_below_drewN | apply below_drew1) | exact HB.out)) hb); have n1_ := Aside0.mk (hbox); have n2_ := Aside0.mk ((by rw [hg]; exact (below_size (by repeat (first | (with_reducible first | exact HB.out | apply below_alloc | apply pw_below_drewN | apply below_drew1) | exact HB.out))) : w.heap.size ≤ gb0)); clear HB; have HB := n0_; have BK0 := n1_; have GE0 := n2_; clear n0_ n1_ n2_; clear hb hbox hg) | ((with_reducible refine gate_callee (f := 10) rfl ?_); refine goesL_ (some 12) rfl rfl Try.func10 (by kernel_rfl) rfl #[] rfl (by (try simp only [List.map_toArray, List.map_cons, List.map_nil]); first | done | rfl | (simp only [List.length_drop, List.length_take]; rfl)) ?_; (with_reducible refine (masterdisclaw10_awake.calls  true _ A3.out).mono ?_); rintro e w2 ⟨rfl, hb⟩; refine ⟨_, rfl, ?_⟩; have n0_ := Aside0.mk (blk_below (g := gb0) (o := .cells #[.int .i64 a0_0, .int .i64 a0_1, .int .i64 a0_2, .int .i64 a0_3, .int .i64 a0_4, .int .i64 a0_5, .int .i64 a0_6, .int .i64 a0_7, .int .i64 a0_8] 27 (0, 0)) (by (with_reducible repeat (first | refine blk_drewN ?_ _ | refine blk_drew ?_ | refine blk_alloc ?_ _)); exact BK0.out) hb); have n1_ := Aside0.mk (below_step (by repeat (first | (with_reducible first | exact HB.out | apply below_alloc | apply pw_below_drewN | apply below_drew1 | refine below_set ?_ GE0.out) | exact HB.out)) hb); clear BK0; clear HB; have BK0 := n0_; have HB := n1_; clear n0_ n1_; (try clear hb); have hcz0_0 : w2.cell? ⟨gb0, 0, none⟩ = some (.int .i64 a0_0) := (blk_cell BK0.out 0).trans rfl; have hcz0_1 : w2.cell? ⟨gb0, 1, none⟩ = some (.int .i64 a0_1) := (blk_cell BK0.out 1).trans rfl; have hcz0_2 : w2.cell? ⟨gb0, 2, none⟩ = some (.int .i64 a0_2) := (blk_cell BK0.out 2).trans rfl; have hcz0_3 : w2.cell? ⟨gb0, 3, none⟩ = some (.int .i64 a0_3) := (blk_cell BK0.out 3).trans rfl; have hcz0_4 : w2.cell? ⟨gb0, 4, none⟩ = some (.int .i64 a0_4) := (blk_cell BK0.out 4).trans rfl; have hcz0_5 : w2.cell? ⟨gb0, 5, none⟩ = some (.int .i64 a0_5) := (blk_cell BK0.out 5).trans rfl; have hcz0_6 : w2.cell? ⟨gb0, 6, none⟩ = some (.int .i64 a0_6) := (blk_cell BK0.out 6).trans rfl; have hcz0_7 : w2.cell? ⟨gb0, 7, none⟩ = some (.int .i64 a0_7) := (blk_cell BK0.out 7).trans rfl; have hcz0_8 : w2.cell? ⟨gb0, 8, none⟩ = some (.int .i64 a0_8) := (blk_cell BK0.out 8).trans rfl; have hfz0_0 := blk_frozen BK0.out 0; have hfz0_1 := blk_frozen BK0.out 1; have hfz0_2 := blk_frozen BK0.out 2; have hfz0_3 := blk_frozen BK0.out 3; have hfz0_4 := blk_frozen BK0.out 4; have hfz0_5 := blk_frozen BK0.out 5; have hfz0_6 := blk_frozen BK0.out 6; have hfz0_7 := blk_frozen BK0.out 7; have hfz0_8 := blk_frozen BK0.out 8) | ((with_reducible refine gate_callee (f := 18) rfl ?_); refine goesL_ (some 16) rfl rfl Try.func18 (by kernel_rfl) rfl #[.agg #[.int .i64 a0_0, .int .i64 a0_1, .int .i64 a0_2, .int .i64 a0_3, .int .i64 a0_4, .int .i64 a0_5, .int .i64 a0_6, .int .i64 a0_7, .int .i64 a0_8]] rfl (by (try simp only [List.map_toArray, List.map_cons, List.map_nil]); first | done | rfl | (simp only [List.length_drop, List.length_take]; rfl)) ?_; (with_reducible refine (subchannel_Encode.calls a0_0 a0_1 a0_2 a0_3 a0_4 a0_5 a0_6 a0_7 a0_8 s t _ A8.out).mono ?_); rintro e w3 ⟨rfl, hb⟩; refine ⟨_, rfl, ?_⟩; have n0_ := Aside0.mk (blk_below (g := gb0) (o := .cells #[.int .i64 a0_0, .int .i64 a0_1, .int .i64 a0_2, .int .i64 a0_3, .int .i64 a0_4, .int .i64 a0_5, .int .i64 a0_6, .int .i64 a0_7, .int .i64 a0_8] 27 (0, 0)) (by (with_reducible repeat (first | refine blk_drewN ?_ _ | refine blk_drew ?_ | refine blk_alloc ?_ _)); exact BK0.out) hb); have n1_ := Aside0.mk (below_step (by repeat (first | (with_reducible first | exact HB.out | apply below_alloc | apply pw_below_drewN | apply below_drew1 | refine below_set ?_ GE0.out) | exact HB.out)) hb); clear BK0; clear HB; have BK0 := n0_; have HB := n1_; clear n0_ n1_; (try clear hb)))
   go_ret
   exact ⟨by first | rfl | (simp [*, errW_none, errW_some] <;> rfl), (by repeat (first | (with_reducible first | exact HB.out | apply below_alloc | apply pw_below_drewN | apply below_drew1 | refine below_set ?_ GE0.out) | exact HB.out))⟩
 · clear hq
   have hb0 : (t == 0) = false := beq_eq_false_iff_ne.mpr ht
   have hb1 : (t != 0) = true := bne_iff_ne.mpr ht
   clear ht
   go_enter Try.func8, Try.ntmps8
   go_wp2_with (first | ((with_reducible refine gate_dst (N := 3) rfl ?_); (try (refine gate_guard (by rfl) ?_; dsimp only)); refine box_event ?hg (N := 3) ?hd (cs := #[.int .i64 a0_0, .int .i64 a0_1, .int .i64 a0_2, .int .i64 a0_3, .int .i64 a0_4, .int .i64 a0_5, .int .i64 a0_6, .int .i64 a0_7, .int .i64 a0_8]) (t := 27) ?hr ?_; (case hd => rfl); (case hg => rfl); (case hr => first | (go_simp; done) | (go_simp; rfl)); intro gb0 hg w1 hbox hb; have n0_ := Aside0.mk (below_step (by repeat (first | (with_reducible first | exact HB.out | apply below_alloc | apply pw_below_drewN | apply below_drew1) | exact HB.out)) hb); have n1_ := Aside0.mk (hbox); have n2_ := Aside0.mk ((by rw [hg]; exact (below_size (by repeat (first | (with_reducible first | exact HB.out | apply below_alloc | apply pw_below_drewN | apply below_drew1) | exact HB.out))) : w.heap.size ≤ gb0)); clear HB; have HB := n0_; have BK0 := n1_; have GE0 := n2_; clear n0_ n1_ n2_; clear hb hbox hg) | ((with_reducible refine gate_callee (f := 10) rfl ?_); refine goesL_ (some 12) rfl rfl Try.func10 (by kernel_rfl) rfl #[] rfl (by (try simp only [List.map_toArray, List.map_cons, List.map_nil]); first | done | rfl | (simp only [List.length_drop, List.length_take]; rfl)) ?_; (with_reducible refine (masterdisclaw10_awake.calls  true _ A3.out).mono ?_); rintro e w2 ⟨rfl, hb⟩; refine ⟨_, rfl, ?_⟩; have n0_ := Aside0.mk (blk_below (g := gb0) (o := .cells #[.int .i64 a0_0, .int .i64 a0_1, .int .i64 a0_2, .int .i64 a0_3, .int .i64 a0_4, .int .i64 a0_5, .int .i64 a0_6, .int .i64 a0_7, .int .i64 a0_8] 27 (0, 0)) (by (with_reducible repeat (first | refine blk_drewN ?_ _ | refine blk_drew ?_ | refine blk_alloc ?_ _)); exact BK0.out) hb); have n1_ := Aside0.mk (below_step (by repeat (first | (with_reducible first | exact HB.out | apply below_alloc | apply pw_below_drewN | apply below_drew1 | refine below_set ?_ GE0.out) | exact HB.out)) hb); clear BK0; clear HB; have BK0 := n0_; have HB := n1_; clear n0_ n1_; (try clear hb); have hcz0_0 : w2.cell? ⟨gb0, 0, none⟩ = some (.int .i64 a0_0) := (blk_cell BK0.out 0).trans rfl; have hcz0_1 : w2.cell? ⟨gb0, 1, none⟩ = some (.int .i64 a0_1) := (blk_cell BK0.out 1).trans rfl; have hcz0_2 : w2.cell? ⟨gb0, 2, none⟩ = some (.int .i64 a0_2) := (blk_cell BK0.out 2).trans rfl; have hcz0_3 : w2.cell? ⟨gb0, 3, none⟩ = some (.int .i64 a0_3) := (blk_cell BK0.out 3).trans rfl; have hcz0_4 : w2.cell? ⟨gb0, 4, none⟩ = some (.int .i64 a0_4) := (blk_cell BK0.out 4).trans rfl; have hcz0_5 : w2.cell? ⟨gb0, 5, none⟩ = some (.int .i64 a0_5) := (blk_cell BK0.out 5).trans rfl; have hcz0_6 : w2.cell? ⟨gb0, 6, none⟩ = some (.int .i64 a0_6) := (blk_cell BK0.out 6).trans rfl; have hcz0_7 : w2.cell? ⟨gb0, 7, none⟩ = some (.int .i64 a0_7) := (blk_cell BK0.out 7).trans rfl; have hcz0_8 : w2.cell? ⟨gb0, 8, none⟩ = some (.int .i64 a0_8) := (blk_cell BK0.out 8).trans rfl; have hfz0_0 := blk_frozen BK0.out 0; have hfz0_1 := blk_frozen BK0.out 1; have hfz0_2 := blk_frozen BK0.out 2; have hfz0_3 := blk_frozen BK0.out 3; have hfz0_4 := blk_frozen BK0.out 4; have hfz0_5 := blk_frozen BK0.out 5; have hfz0_6 := blk_frozen BK0.out 6; have hfz0_7 := blk_frozen BK0.out 7; have hfz0_8 := blk_frozen BK0.out 8) | ((with_reducible refine gate_callee (f := 18) rfl ?_); refine goesL_ (some 16) rfl rfl Try.func18 (by kernel_rfl) rfl #[.agg #[.int .i64 a0_0, .int .i64 a0_1, .int .i64 a0_2, .int .i64 a0_3, .int .i64 a0_4, .int .i64 a0_5, .int .i64 a0_6, .int .i64 a0_7, .int .i64 a0_8]] rfl (by (try simp only [List.map_toArray, List.map_cons, List.map_nil]); first | done | rfl | (simp only [List.length_drop, List.length_take]; rfl)) ?_; (with_reducible refine (subchannel_Encode.calls a0_0 a0_1 a0_2 a0_3 a0_4 a0_5 a0_6 a0_7 a0_8 s t _ A8.out).mono ?_); rintro e w3 ⟨rfl, hb⟩; refine ⟨_, rfl, ?_⟩; have n0_ := Aside0.mk (blk_below (g := gb0) (o := .cells #[.int .i64 a0_0, .int .i64 a0_1, .int .i64 a0_2, .int .i64 a0_3, .int .i64 a0_4, .int .i64 a0_5, .int .i64 a0_6, .int .i64 a0_7, .int .i64 a0_8] 27 (0, 0)) (by (with_reducible repeat (first | refine blk_drewN ?_ _ | refine blk_drew ?_ | refine blk_alloc ?_ _)); exact BK0.out) hb); have n1_ := Aside0.mk (below_step (by repeat (first | (with_reducible first | exact HB.out | apply below_alloc | apply pw_below_drewN | apply below_drew1 | refine below_set ?_ GE0.out) | exact HB.out)) hb); clear BK0; clear HB; have BK0 := n0_; have HB := n1_; clear n0_ n1_; (try clear hb)))
   go_ret
   exact ⟨by first | rfl | (simp [*, errW_none, errW_some] <;> rfl), (by repeat (first | (with_reducible first | exact HB.out | apply below_alloc | apply pw_below_drewN | apply below_drew1 | refine below_set ?_ GE0.out) | exact HB.out))⟩
end Go.Proofs.Ytpmkibggmkibeaa.G
namespace Go.Proofs.Ytpmkibggmkibeaa.G
open Go.RowKit Go.Proofs.YtpmkibggmkibeaaW.PrintWords Go.Proofs.YtpmkibggmkibeaaW.PrintLast Go.Proofs.YtpmkibggmkibeaaW.PrintMore
set_option linter.unusedVariables false
theorem regK_succ (c : BitVec 16) (s : ByteArray) (k : Nat) : regK c s (k + 1) = Crc.oneS (regK c s k) (BitVec.ofInt 8 (bt s (k : Int))) := Crc.one_eq _ _
theorem reg_pre (c : BitVec 16) {s r : ByteArray} : ∀ (n : Nat), (∀ j : Nat, j < n → bt s (j : Int) = bt r (j : Int)) → regK c s n = regK c r n
 | 0, _ => rfl
 | n + 1, h => by rw [regK_succ, regK_succ, reg_pre c n (fun j hj => h j (by omega)), h n (by omega)]
theorem reg_back (c : BitVec 16) {s r : ByteArray} (m : Nat) : ∀ (d : Nat), (∀ j : Nat, m ≤ j → j < m + d → bt s (j : Int) = bt r (j : Int)) → regK c s (m + d) = regK c r (m + d) → regK c s m = regK c r m
 | 0, _, e => e
 | d + 1, h, e => by
  refine reg_back c m d (fun j h1 h2 => h j h1 (by omega)) ?_
  have e2 : regK c s (m + d + 1) = regK c r (m + d + 1) := e
  rw [regK_succ, regK_succ, h (m + d) (by omega) (by omega)] at e2
  exact Crc.ext_inj [_] _ _ e2
theorem byte_eq {x y : Int} (hx : 0 ≤ x ∧ x ≤ 255) (hy : 0 ≤ y ∧ y ≤ 255) (h : BitVec.ofInt 8 x = BitVec.ofInt 8 y) : x = y := by
 have h2 := congrArg BitVec.toNat h
 rw [BitVec.toNat_ofInt, BitVec.toNat_ofInt] at h2
 omega
theorem bt_extract (s : ByteArray) (a b j : Nat) (hb : b ≤ s.size) (hj : a + j < b) : bt (s.extract a b) (j : Int) = bt s ((a + j : Nat) : Int) := by
 unfold bt
 rw [Int.toNat_natCast, Int.toNat_natCast, dif_pos (by rw [ByteArray.size_extract]; omega), dif_pos (by omega), ByteArray.getElem_extract]
theorem chk_bytes (s : ByteArray) (hs : s.size = 12) (hc : chkS (s.extract 0 10) = s.extract 10 s.size) :
 (65535 - ((regK 0#16 s 10).toNat : Int)) / 256 = bt s 10 ∧ (65535 - ((regK 0#16 s 10).toNat : Int)) % 256 = bt s 11 := by
 have hz : (s.extract 0 10).size = 10 := by rw [ByteArray.size_extract]; omega
 have hr : chkZ (s.extract 0 10) = 65535 - ((regK 0#16 s 10).toNat : Int) := by
  unfold chkZ regZ
  rw [hz, reg_pre 0#16 10 (fun j hj => by have := bt_extract s 0 10 j (by omega) (by omega); simpa using this)]
 have hl := (regK 0#16 s 10).isLt
 have b0 := bt_lit [chkZ (s.extract 0 10) / 256, chkZ (s.extract 0 10) % 256] ByteArray.empty 0 (by simp) (by show 0 ≤ chkZ (s.extract 0 10) / 256 ∧ chkZ (s.extract 0 10) / 256 ≤ 255; rw [hr]; omega)
 have b1 := bt_lit [chkZ (s.extract 0 10) / 256, chkZ (s.extract 0 10) % 256] ByteArray.empty 1 (by simp) (by show 0 ≤ chkZ (s.extract 0 10) % 256 ∧ chkZ (s.extract 0 10) % 256 ≤ 255; rw [hr]; omega)
 rw [ByteArray.append_empty] at b0 b1
 have e0 := bt_extract s 10 12 0 (by omega) (by omega)
 have e1 := bt_extract s 10 12 1 (by omega) (by omega)
 have hc2 : strOfNums [chkZ (s.extract 0 10) / 256, chkZ (s.extract 0 10) % 256] = s.extract 10 12 := by rw [← hs]; exact hc
 rw [hc2] at b0 b1
 constructor
 · rw [← hr]; exact b0.symm.trans e0
 · rw [← hr]; exact b1.symm.trans e1
theorem chk_ne (s r : ByteArray) (hs : s.size = 12) (hr : r.size = 12) (k : Nat) (hk : k ≤ 10) (same : ∀ j : Nat, j ≠ k → j ≠ k + 1 → bt s (j : Int) = bt r (j : Int)) (diff : ¬ (bt s (k : Int) = bt r (k : Int) ∧ bt s ((k + 1 : Nat) : Int) = bt r ((k + 1 : Nat) : Int)))
 (hc : chkS (s.extract 0 10) = s.extract 10 s.size) : chkS (r.extract 0 10) ≠ r.extract 10 r.size := by
 intro hd
 obtain ⟨p0, p1⟩ := chk_bytes s hs hc
 obtain ⟨q0, q1⟩ := chk_bytes r hr hd
 have ls := (regK 0#16 s 10).isLt
 have lr := (regK 0#16 r 10).isLt
 have hpre : regK 0#16 s k = regK 0#16 r k := reg_pre 0#16 k (fun j hj => same j (by omega) (by omega))
 by_cases k8 : k ≤ 8
 · have s10 : bt s 10 = bt r 10 := same 10 (by omega) (by omega)
   have s11 : bt s 11 = bt r 11 := same 11 (by omega) (by omega)
   have hz : regK 0#16 s 10 = regK 0#16 r 10 := BitVec.eq_of_toNat_eq (by omega)
   have hz2 : regK 0#16 s (k + 2 + (8 - k)) = regK 0#16 r (k + 2 + (8 - k)) := by
    rw [show k + 2 + (8 - k) = 10 by omega]; exact hz
   have hb := reg_back 0#16 (k + 2) (8 - k) (fun j h1 h2 => same j (by omega) (by omega)) hz2
   rw [show k + 2 = k + 1 + 1 from rfl, regK_succ, regK_succ, regK_succ, regK_succ, hpre] at hb
   obtain ⟨e1, e2⟩ := Crc.two_inj hb
   exact diff ⟨byte_eq (bt_range _ _) (bt_range _ _) e1, byte_eq (bt_range _ _) (bt_range _ _) e2⟩
 · by_cases k9 : k = 9
   · subst k9
     have s11 : bt s 11 = bt r 11 := same 11 (by omega) (by omega)
     have hs9 := regK_succ 0#16 s 9
     have hr9 := regK_succ 0#16 r 9
     rw [hpre] at hs9
     have hm : (Crc.oneS (regK 0#16 r 9) (BitVec.ofInt 8 (bt s ((9 : Nat) : Int)))).toNat % 256 = (Crc.oneS (regK 0#16 r 9) (BitVec.ofInt 8 (bt r ((9 : Nat) : Int)))).toNat % 256 := by
      rw [← hs9, ← hr9]
      show (regK 0#16 s 10).toNat % 256 = (regK 0#16 r 10).toNat % 256
      omega
     have e9 := byte_eq (bt_range _ _) (bt_range _ _) (Crc.oneS_lo hm)
     have hz : regK 0#16 s 10 = regK 0#16 r 10 := by
      show regK 0#16 s (9 + 1) = regK 0#16 r (9 + 1)
      rw [hs9, hr9, e9]
     refine diff ⟨e9, ?_⟩
     show bt s 10 = bt r 10
     rw [← p0, ← q0, hz]
   · obtain rfl : k = 10 := by omega
     refine diff ⟨?_, ?_⟩
     · show bt s 10 = bt r 10
       rw [← p0, ← q0, hpre]
     · show bt s 11 = bt r 11
       rw [← p1, ← q1, hpre]
theorem wrapu8 (y : Int) : IntKind.u8.wrap y = y % 256 := by
 simp [IntKind.wrap, IntKind.bits, IntKind.signed]
theorem xorb (x y : Int) : Go.bits .xor .u8 x y = ((BitVec.ofInt 8 x ^^^ BitVec.ofInt 8 y).toNat : Int) := by
 have hl := (BitVec.ofInt 8 x ^^^ BitVec.ofInt 8 y).isLt
 show IntKind.u8.wrap (((BitVec.ofInt 8 x ^^^ BitVec.ofInt 8 y : BitVec 8).toNat : Nat) : Int) = _
 rw [wrapu8]
 omega
theorem wrap8 (y : Int) : BitVec.ofInt 8 (IntKind.u8.wrap y) = BitVec.ofInt 8 y := by
 apply BitVec.eq_of_toNat_eq
 rw [wrapu8, BitVec.toNat_ofInt, BitVec.toNat_ofInt]
 omega
theorem xor_same {x y : Int} (hx : 0 ≤ x ∧ x ≤ 255) (h : Go.bits .xor .u8 x (IntKind.u8.wrap y) = x) : y % 256 = 0 := by
 rw [xorb, wrap8] at h
 have h2 : BitVec.ofInt 8 x ^^^ BitVec.ofInt 8 y = BitVec.ofInt 8 x := by
  apply BitVec.eq_of_toNat_eq
  rw [BitVec.toNat_ofInt x]
  omega
 have h3 : BitVec.ofInt 8 y = 0#8 := by
  have := congrArg (BitVec.ofInt 8 x ^^^ ·) h2
  simpa [← BitVec.xor_assoc] using this
 have h4 := congrArg BitVec.toNat h3
 rw [BitVec.toNat_ofInt] at h4
 simp at h4
 omega
def mutL (s : ByteArray) (k : Nat) (a2 : Int) : List UInt8 := (s.data.toList.set k (UInt8.ofNat (V0 (bt s (k : Int)) a2).toNat)).set (k + 1) (UInt8.ofNat (V1 (bt s ((k + 1 : Nat) : Int)) a2).toNat)
theorem V0_range (x a2 : Int) : 0 ≤ V0 x a2 ∧ V0 x a2 ≤ 255 := by
 unfold V0
 rw [xorb]
 have := (BitVec.ofInt 8 x ^^^ BitVec.ofInt 8 (IntKind.u8.wrap a2)).isLt
 omega
theorem V1_range (x a2 : Int) : 0 ≤ V1 x a2 ∧ V1 x a2 ≤ 255 := V0_range x (a2 / 256)
theorem ofNat_toNat {v : Int} (h : 0 ≤ v ∧ v ≤ 255) : ((UInt8.ofNat v.toNat).toNat : Int) = v := by
 simp
 omega
theorem mutL_len (s : ByteArray) (k : Nat) (a2 : Int) : (mutL s k a2).length = s.size := by
 unfold mutL
 rw [List.length_set, List.length_set, Array.length_toList]
 rfl
theorem bt_nat (s : ByteArray) (j : Nat) (h : j < s.size) : bt s (j : Int) = ((s.data.toList[j]'(by rw [Array.length_toList]; exact h)).toNat : Int) := by
 unfold bt
 rw [Int.toNat_natCast, dif_pos h]
 rfl
theorem bt_list (l : List UInt8) (j : Nat) (h : j < l.length) : bt ⟨l.toArray⟩ (j : Int) = (l[j].toNat : Int) := by
 rw [bt_nat _ _ (by show j < l.toArray.size; simpa using h)]
theorem mutL_at (s : ByteArray) (k : Nat) (a2 : Int) (j : Nat) (hj : j < (mutL s k a2).length) : ((mutL s k a2)[j].toNat : Int) = if k + 1 = j then V1 (bt s ((k + 1 : Nat) : Int)) a2 else if k = j then V0 (bt s (k : Int)) a2 else bt s (j : Int) := by
 have hz := mutL_len s k a2
 revert hj hz
 unfold mutL
 intro hj hz
 rw [List.getElem_set]
 by_cases h1 : k + 1 = j
 · rw [if_pos h1, if_pos h1, ofNat_toNat (V1_range _ _)]
 rw [if_neg h1, if_neg h1, List.getElem_set]
 by_cases h2 : k = j
 · rw [if_pos h2, if_pos h2, ofNat_toNat (V0_range _ _)]
 rw [if_neg h2, if_neg h2, bt_nat s j (by omega)]
theorem row_at (s : ByteArray) (cap j : Nat) (h : j < s.size) : (bytesRow s cap)[j]? = some (.int .u8 (bt s (j : Int))) := by
 unfold bytesRow
 rw [Array.getElem?_append_left (by rw [Array.size_map]; exact h), Array.getElem?_map, bt_nat s j h, Array.getElem?_eq_getElem h]
 rfl
theorem row_mut (s : ByteArray) (k : Nat) (a2 : Int) (hk : k + 1 < s.size) (cap j : Nat) (hj : j < (mutL s k a2).length) :
 (((bytesRow s cap).setIfInBounds k (.int .u8 (V0 (bt s (k : Int)) a2))).setIfInBounds (k + 1) (.int .u8 (V1 (bt s ((k + 1 : Nat) : Int)) a2)))[j]? = some (.int .u8 ((mutL s k a2)[j].toNat : Int)) := by
 have hz := mutL_len s k a2
 have hr := row_size s cap
 rw [mutL_at, Array.getElem?_setIfInBounds, Array.getElem?_setIfInBounds, Array.size_setIfInBounds]
 by_cases h1 : k + 1 = j
 · rw [if_pos h1, if_pos h1, if_pos (by omega)]
 rw [if_neg h1, if_neg h1]
 by_cases h2 : k = j
 · rw [if_pos h2, if_pos h2, if_pos (by omega)]
 rw [if_neg h2, if_neg h2, row_at s cap j (by omega)]
theorem str_eqD (a b : ByteArray) : a.toList = b.toList → a = b := by
 rw [Lib.toList_data, Lib.toList_data]
 intro h
 have := Array.toList_inj.mp h
 cases a; cases b
 exact congrArg _ this
theorem dec_checkD (s : ByteArray) (hs : s.size = 12) (hc : chkS (s.extract 0 10) ≠ s.extract 10 s.size) (k : Nat) : subchannel_Decode.f k s = some (0, 0, 0, 0, 0, 0, 0, 0, 0, 9) := by
 have c1 := check_plain (s.extract 0 10) (by rw [ByteArray.size_extract]; omega)
 unfold subchannel_Decode.f
 rw [if_pos (by omega), if_pos (by omega), if_pos (by omega), c1]
 simp only [Option.bind_some]
 rw [if_neg (fun h => hc (str_eqD _ _ h))]
theorem dec_mut {c t p m1 s1 f1 m2 s2 f2 : Int} (h : qvB c t p m1 s1 f1 m2 s2 f2 = true) (k : Nat) (hk : k ≤ 10) (a2 : Int) (h0 : 0 ≤ a2) (hw : a2 < 65536) (hn : ¬ a2 = 0) :
 subchannel_Decode.f 101 ⟨(mutL (encS c t p m1 s1 f1 m2 s2 f2) k a2).toArray⟩ = some (0, 0, 0, 0, 0, 0, 0, 0, 0, 9) := by
 have hs := encS_size c t p m1 s1 f1 m2 s2 f2
 have hz := datS_size c t p m1 s1 f1 m2 s2 f2
 have x1 : (encS c t p m1 s1 f1 m2 s2 f2).extract 0 10 = datS c t p m1 s1 f1 m2 s2 f2 := ByteArray.extract_append_eq_left hz.symm
 have x2 : (encS c t p m1 s1 f1 m2 s2 f2).extract 10 (encS c t p m1 s1 f1 m2 s2 f2).size = chkS (datS c t p m1 s1 f1 m2 s2 f2) := by
  rw [hs]
  exact ByteArray.extract_append_eq_right hz.symm (by rw [hz, chkS_size])
 have hc : chkS ((encS c t p m1 s1 f1 m2 s2 f2).extract 0 10) = (encS c t p m1 s1 f1 m2 s2 f2).extract 10 (encS c t p m1 s1 f1 m2 s2 f2).size := by rw [x1, x2]
 revert hc hs
 generalize encS c t p m1 s1 f1 m2 s2 f2 = s
 intro hs hc
 have hl := mutL_len s k a2
 have hr : (⟨(mutL s k a2).toArray⟩ : ByteArray).size = 12 := by
  show (mutL s k a2).toArray.size = 12
  rw [List.size_toArray]; omega
 have hat : ∀ j : Nat, j < 12 → bt ⟨(mutL s k a2).toArray⟩ (j : Int) = if k + 1 = j then V1 (bt s ((k + 1 : Nat) : Int)) a2 else if k = j then V0 (bt s (k : Int)) a2 else bt s (j : Int) := fun j hj => by
  rw [bt_list _ j (by omega), mutL_at]
 refine dec_checkD _ hr (chk_ne s _ hs hr k hk (fun j h1 h2 => ?_) ?_ hc) 101
 · by_cases h12 : j < 12
   · rw [hat j h12, if_neg (by omega), if_neg (by omega)]
   · unfold bt
     rw [Int.toNat_natCast, dif_neg (by omega), dif_neg (by omega)]
 · rw [hat k (by omega), hat (k + 1) (by omega), if_neg (by omega), if_pos rfl, if_pos rfl]
   rintro ⟨e0, e1⟩
   have z0 := xor_same (bt_range s (k : Int)) e0.symm
   have z1 := xor_same (bt_range s ((k + 1 : Nat) : Int)) e1.symm
   omega
end Go.Proofs.Ytpmkibggmkibeaa.G
