/- Texts of one claim, merged by a program of this session; what is proved stands in the last of them. -/
import Derived.Deep.RegionHeld3
import Derived.Deep.RegionWith
import Derived.Outline
import Derived.Test.YtpmkibggmkibeaaKg1
import Derived.Test.YtpmkibggmkibeaaKg3
namespace Go.Proofs.Ytpmkibggmkibeaa.G
open Go.RowKit Go.Proofs.YtpmkibggmkibeaaW.PrintWords Go.Proofs.YtpmkibggmkibeaaW.PrintLast Go.Proofs.YtpmkibggmkibeaaW.PrintMore
attribute [local go_sem] max2_int min2_int max_two min_two max_three min_three max_four min_four   -- for this text's walks alone
set_option linter.unusedVariables false
set_option linter.unusedSimpArgs false
def subchannel_Encode.f (a0_0 : Int) (a0_1 : Int) (a0_2 : Int) (a0_3 : Int) (a0_4 : Int) (a0_5 : Int) (a0_6 : Int) (a0_7 : Int) (a0_8 : Int) : Option (ByteArray × Int) := (subchannel_valid.f a0_0 a0_1 a0_2 a0_3 a0_4 a0_5 a0_6 a0_7 a0_8).bind fun t160 => (if t160 = true then ((subchannel_number.f a0_1).bind fun t161 => ((subchannel_number.f a0_2).bind fun t162 => ((some (([(Go.bits .or .i64 (wrap64 (a0_0 * 16)) 1) % 256, t161, t162] : List Int) : List Int)).bind fun y163 => ((subchannel_Encode_1.f a0_3 a0_4 a0_5).bind fun t166 => (if (strOfNums y163).size + t166.size ≤ 9223372036854775807 then (if ((strOfNums y163) ++ t166).size + 1 ≤ 9223372036854775807 then ((subchannel_Encode_1.f a0_6 a0_7 a0_8).bind fun t167 => (if (((strOfNums y163) ++ t166) ++ (⟨#[0]⟩ : ByteArray)).size + t167.size ≤ 9223372036854775807 then ((subchannel_check.f ((((strOfNums y163) ++ t166) ++ (⟨#[0]⟩ : ByteArray)) ++ t167)).bind fun t168 => (if ((((strOfNums y163) ++ t166) ++ (⟨#[0]⟩ : ByteArray)) ++ t167).size + t168.size ≤ 9223372036854775807 then (some (((((strOfNums y163) ++ t166) ++ (⟨#[0]⟩ : ByteArray)) ++ t167) ++ t168, 0)) else (none))) else (none))) else (none)) else (none)))))) else (some ((⟨#[]⟩ : ByteArray), 1)))
def subchannel_Encode.T4 : Bool × List (List Nat × List Nat) := (true, [([], []), ([0], [0]), ([1], [1]), ([2], [2]), ([3], [3]), ([], []), ([5], [5]), ([6], [6]), ([], []), ([8], [8]), ([9, 7], [9]), ([4, 7, 10], [4, 7, 10]), ([11], [11]), ([], []), ([], []), ([14], [14]), ([13, 15, 10], [13, 15]), ([12, 16], [12, 16]), ([17], [17]), ([], []), ([], []), ([20], [20]), ([19, 21, 16], [19, 21]), ([18, 22], [18, 22]), ([23, 22, 0, 1, 2, 3, 4, 5, 6, 7, 8, 9, 10, 11, 12, 13, 14, 15, 16, 17, 18, 19, 20, 21, 22, 23], [23])])
def subchannel_Encode.B4 : List Nat := [0, 1, 3, 7, 15, 0, 32, 96, 0, 256, 992, 2047, 4095, 0, 0, 16384, 59360, 131071, 262143, 0, 0, 1048576, 3794912, 8388607, 16777215]
theorem subchannel_Encode.tab4 : rtab .any (opsOf Try.f18 4) = subchannel_Encode.T4 := by kernel_rfl
theorem subchannel_Encode.bits4 : waitsOk subchannel_Encode.T4.2 subchannel_Encode.B4 = true := by kernel_rfl
set_option maxHeartbeats 8000000 in
set_option maxRecDepth 100000 in
theorem subchannel_Encode.calls (a0_0 : Int) (a0_1 : Int) (a0_2 : Int) (a0_3 : Int) (a0_4 : Int) (a0_5 : Int) (a0_6 : Int) (a0_7 : Int) (a0_8 : Int) (r1 : ByteArray) (r2 : Int) (w : World) (h : subchannel_Encode.f a0_0 a0_1 a0_2 a0_3 a0_4 a0_5 a0_6 a0_7 a0_8 = some (r1, r2)) :
 Calls Try.prog 18 #[.agg #[.int .i64 a0_0, .int .i64 a0_1, .int .i64 a0_2, .int .i64 a0_3, .int .i64 a0_4, .int .i64 a0_5, .int .i64 a0_6, .int .i64 a0_7, .int .i64 a0_8]] w fun e w' => e = .returned (.tuple #[.string r1, .int .i64 r2]) ∧ Below w.heap.size w w' := by
 have hu27 := Try.underlying27
 have hu25 := Try.underlying25
 have HB := Aside0.mk (Below.refl w.heap.size w)
 have H : ((subchannel_valid.f a0_0 a0_1 a0_2 a0_3 a0_4 a0_5 a0_6 a0_7 a0_8).bind fun t160 => (if t160 = true then ((subchannel_number.f a0_1).bind fun t161 => ((subchannel_number.f a0_2).bind fun t162 => ((some (([(Go.bits .or .i64 (wrap64 (a0_0 * 16)) 1) % 256, t161, t162] : List Int) : List Int)).bind fun y163 => ((subchannel_Encode_1.f a0_3 a0_4 a0_5).bind fun t166 => (if (strOfNums y163).size + t166.size ≤ 9223372036854775807 then (if ((strOfNums y163) ++ t166).size + 1 ≤ 9223372036854775807 then ((subchannel_Encode_1.f a0_6 a0_7 a0_8).bind fun t167 => (if (((strOfNums y163) ++ t166) ++ (⟨#[0]⟩ : ByteArray)).size + t167.size ≤ 9223372036854775807 then ((subchannel_check.f ((((strOfNums y163) ++ t166) ++ (⟨#[0]⟩ : ByteArray)) ++ t167)).bind fun t168 => (if ((((strOfNums y163) ++ t166) ++ (⟨#[0]⟩ : ByteArray)) ++ t167).size + t168.size ≤ 9223372036854775807 then (some (((((strOfNums y163) ++ t166) ++ (⟨#[0]⟩ : ByteArray)) ++ t167) ++ t168, 0)) else (none))) else (none))) else (none)) else (none)))))) else (some ((⟨#[]⟩ : ByteArray), 1)))) = some (r1, r2) := h
 clear h
 replace H := Option.bind_eq_some_iff.mp H
 obtain ⟨t160, A20, H⟩ := H
 replace H : (if t160 = true then ((subchannel_number.f a0_1).bind fun t161 => ((subchannel_number.f a0_2).bind fun t162 => ((some (([(Go.bits .or .i64 (wrap64 (a0_0 * 16)) 1) % 256, t161, t162] : List Int) : List Int)).bind fun y163 => ((subchannel_Encode_1.f a0_3 a0_4 a0_5).bind fun t166 => (if (strOfNums y163).size + t166.size ≤ 9223372036854775807 then (if ((strOfNums y163) ++ t166).size + 1 ≤ 9223372036854775807 then ((subchannel_Encode_1.f a0_6 a0_7 a0_8).bind fun t167 => (if (((strOfNums y163) ++ t166) ++ (⟨#[0]⟩ : ByteArray)).size + t167.size ≤ 9223372036854775807 then ((subchannel_check.f ((((strOfNums y163) ++ t166) ++ (⟨#[0]⟩ : ByteArray)) ++ t167)).bind fun t168 => (if ((((strOfNums y163) ++ t166) ++ (⟨#[0]⟩ : ByteArray)) ++ t167).size + t168.size ≤ 9223372036854775807 then (some (((((strOfNums y163) ++ t166) ++ (⟨#[0]⟩ : ByteArray)) ++ t167) ++ t168, 0)) else (none))) else (none))) else (none)) else (none)))))) else (some ((⟨#[]⟩ : ByteArray), 1))) = some (r1, r2) := H
 have A2 := Aside0.mk A20
 clear A20
 by_cases c3 : t160 = true
 · subst c3
   have H1 : ((subchannel_number.f a0_1).bind fun t161 => ((subchannel_number.f a0_2).bind fun t162 => ((some (([(Go.bits .or .i64 (wrap64 (a0_0 * 16)) 1) % 256, t161, t162] : List Int) : List Int)).bind fun y163 => ((subchannel_Encode_1.f a0_3 a0_4 a0_5).bind fun t166 => (if (strOfNums y163).size + t166.size ≤ 9223372036854775807 then (if ((strOfNums y163) ++ t166).size + 1 ≤ 9223372036854775807 then ((subchannel_Encode_1.f a0_6 a0_7 a0_8).bind fun t167 => (if (((strOfNums y163) ++ t166) ++ (⟨#[0]⟩ : ByteArray)).size + t167.size ≤ 9223372036854775807 then ((subchannel_check.f ((((strOfNums y163) ++ t166) ++ (⟨#[0]⟩ : ByteArray)) ++ t167)).bind fun t168 => (if ((((strOfNums y163) ++ t166) ++ (⟨#[0]⟩ : ByteArray)) ++ t167).size + t168.size ≤ 9223372036854775807 then (some (((((strOfNums y163) ++ t166) ++ (⟨#[0]⟩ : ByteArray)) ++ t167) ++ t168, 0)) else (none))) else (none))) else (none)) else (none)))))) = some (r1, r2) := by rw [if_pos rfl] at H; exact H
   clear H
   have H := H1
   clear H1
   replace H := Option.bind_eq_some_iff.mp H
   obtain ⟨t161, A40, H⟩ := H
   replace H : ((subchannel_number.f a0_2).bind fun t162 => ((some (([(Go.bits .or .i64 (wrap64 (a0_0 * 16)) 1) % 256, t161, t162] : List Int) : List Int)).bind fun y163 => ((subchannel_Encode_1.f a0_3 a0_4 a0_5).bind fun t166 => (if (strOfNums y163).size + t166.size ≤ 9223372036854775807 then (if ((strOfNums y163) ++ t166).size + 1 ≤ 9223372036854775807 then ((subchannel_Encode_1.f a0_6 a0_7 a0_8).bind fun t167 => (if (((strOfNums y163) ++ t166) ++ (⟨#[0]⟩ : ByteArray)).size + t167.size ≤ 9223372036854775807 then ((subchannel_check.f ((((strOfNums y163) ++ t166) ++ (⟨#[0]⟩ : ByteArray)) ++ t167)).bind fun t168 => (if ((((strOfNums y163) ++ t166) ++ (⟨#[0]⟩ : ByteArray)) ++ t167).size + t168.size ≤ 9223372036854775807 then (some (((((strOfNums y163) ++ t166) ++ (⟨#[0]⟩ : ByteArray)) ++ t167) ++ t168, 0)) else (none))) else (none))) else (none)) else (none))))) = some (r1, r2) := H
   have A4 := Aside0.mk A40
   clear A40
   replace H := Option.bind_eq_some_iff.mp H
   obtain ⟨t162, A50, H⟩ := H
   replace H : ((some (([(Go.bits .or .i64 (wrap64 (a0_0 * 16)) 1) % 256, t161, t162] : List Int) : List Int)).bind fun y163 => ((subchannel_Encode_1.f a0_3 a0_4 a0_5).bind fun t166 => (if (strOfNums y163).size + t166.size ≤ 9223372036854775807 then (if ((strOfNums y163) ++ t166).size + 1 ≤ 9223372036854775807 then ((subchannel_Encode_1.f a0_6 a0_7 a0_8).bind fun t167 => (if (((strOfNums y163) ++ t166) ++ (⟨#[0]⟩ : ByteArray)).size + t167.size ≤ 9223372036854775807 then ((subchannel_check.f ((((strOfNums y163) ++ t166) ++ (⟨#[0]⟩ : ByteArray)) ++ t167)).bind fun t168 => (if ((((strOfNums y163) ++ t166) ++ (⟨#[0]⟩ : ByteArray)) ++ t167).size + t168.size ≤ 9223372036854775807 then (some (((((strOfNums y163) ++ t166) ++ (⟨#[0]⟩ : ByteArray)) ++ t167) ++ t168, 0)) else (none))) else (none))) else (none)) else (none)))) = some (r1, r2) := H
   have A5 := Aside0.mk A50
   clear A50
   obtain ⟨y163, hy163⟩ : ∃ y_ : List Int, y_ = (([(Go.bits .or .i64 (wrap64 (a0_0 * 16)) 1) % 256, t161, t162] : List Int)) := ⟨_, rfl⟩
   replace H : ((subchannel_Encode_1.f a0_3 a0_4 a0_5).bind fun t166 => (if (strOfNums y163).size + t166.size ≤ 9223372036854775807 then (if ((strOfNums y163) ++ t166).size + 1 ≤ 9223372036854775807 then ((subchannel_Encode_1.f a0_6 a0_7 a0_8).bind fun t167 => (if (((strOfNums y163) ++ t166) ++ (⟨#[0]⟩ : ByteArray)).size + t167.size ≤ 9223372036854775807 then ((subchannel_check.f ((((strOfNums y163) ++ t166) ++ (⟨#[0]⟩ : ByteArray)) ++ t167)).bind fun t168 => (if ((((strOfNums y163) ++ t166) ++ (⟨#[0]⟩ : ByteArray)) ++ t167).size + t168.size ≤ 9223372036854775807 then (some (((((strOfNums y163) ++ t166) ++ (⟨#[0]⟩ : ByteArray)) ++ t167) ++ t168, 0)) else (none))) else (none))) else (none)) else (none))) = some (r1, r2) := by first | (rw [hy163]; with_reducible exact H) | (have H2_ := (Option.bind_some _ _).symm.trans H; rw [hy163]; with_reducible exact H2_) | (have H2_ := (Option.bind_some _ _).symm.trans H; with_reducible exact H2_) | with_reducible exact H | (rw [hy163]; exact H) | exact H
   have Ny163 := Aside0.mk hy163
   clear hy163
   replace H := Option.bind_eq_some_iff.mp H
   obtain ⟨t166, A60, H⟩ := H
   replace H : (if (strOfNums y163).size + t166.size ≤ 9223372036854775807 then (if ((strOfNums y163) ++ t166).size + 1 ≤ 9223372036854775807 then ((subchannel_Encode_1.f a0_6 a0_7 a0_8).bind fun t167 => (if (((strOfNums y163) ++ t166) ++ (⟨#[0]⟩ : ByteArray)).size + t167.size ≤ 9223372036854775807 then ((subchannel_check.f ((((strOfNums y163) ++ t166) ++ (⟨#[0]⟩ : ByteArray)) ++ t167)).bind fun t168 => (if ((((strOfNums y163) ++ t166) ++ (⟨#[0]⟩ : ByteArray)) ++ t167).size + t168.size ≤ 9223372036854775807 then (some (((((strOfNums y163) ++ t166) ++ (⟨#[0]⟩ : ByteArray)) ++ t167) ++ t168, 0)) else (none))) else (none))) else (none)) else (none)) = some (r1, r2) := H
   have A6 := Aside0.mk A60
   clear A60
   by_cases c7 : (strOfNums y163).size + t166.size ≤ 9223372036854775807
   · rw [if_pos c7] at H
     have c7b0 := eq_true c7
     have c7b1 : decide ((strOfNums y163).size + t166.size ≤ 9223372036854775807) = true := decide_eq_true c7
     try have c7b2 : (9223372036854775807 < (strOfNums y163).size + t166.size) = False := eq_false (Nat.not_lt.2 c7)
     by_cases c8 : ((strOfNums y163) ++ t166).size + 1 ≤ 9223372036854775807
     · rw [if_pos c8] at H
       have c8b0 := eq_true c8
       have c8b1 : decide (((strOfNums y163) ++ t166).size + 1 ≤ 9223372036854775807) = true := decide_eq_true c8
       try have c8b2 : (9223372036854775807 < ((strOfNums y163) ++ t166).size + 1) = False := eq_false (Nat.not_lt.2 c8)
       try have c8b3 : (9223372036854775807 < (strOfNums y163).size + t166.size + 1) = False := eq_false (Nat.not_lt.2 (by have h_ := c8; simp only [ByteArray.size_append] at h_; exact h_))
       replace H := Option.bind_eq_some_iff.mp H
       obtain ⟨t167, A90, H⟩ := H
       replace H : (if (((strOfNums y163) ++ t166) ++ (⟨#[0]⟩ : ByteArray)).size + t167.size ≤ 9223372036854775807 then ((subchannel_check.f ((((strOfNums y163) ++ t166) ++ (⟨#[0]⟩ : ByteArray)) ++ t167)).bind fun t168 => (if ((((strOfNums y163) ++ t166) ++ (⟨#[0]⟩ : ByteArray)) ++ t167).size + t168.size ≤ 9223372036854775807 then (some (((((strOfNums y163) ++ t166) ++ (⟨#[0]⟩ : ByteArray)) ++ t167) ++ t168, 0)) else (none))) else (none)) = some (r1, r2) := H
       have A9 := Aside0.mk A90
       clear A90
       by_cases c10 : (((strOfNums y163) ++ t166) ++ (⟨#[0]⟩ : ByteArray)).size + t167.size ≤ 9223372036854775807
       · rw [if_pos c10] at H
         have c10b0 := eq_true c10
         have c10b1 : decide ((((strOfNums y163) ++ t166) ++ (⟨#[0]⟩ : ByteArray)).size + t167.size ≤ 9223372036854775807) = true := decide_eq_true c10
         try have c10b2 : (9223372036854775807 < (((strOfNums y163) ++ t166) ++ (⟨#[0]⟩ : ByteArray)).size + t167.size) = False := eq_false (Nat.not_lt.2 c10)
         try have c10b3 : (9223372036854775807 < (strOfNums y163).size + t166.size + 1 + t167.size) = False := eq_false (Nat.not_lt.2 (by have h_ := c10; simp only [ByteArray.size_append] at h_; exact h_))
         replace H := Option.bind_eq_some_iff.mp H
         obtain ⟨t168, A110, H⟩ := H
         replace H : (if ((((strOfNums y163) ++ t166) ++ (⟨#[0]⟩ : ByteArray)) ++ t167).size + t168.size ≤ 9223372036854775807 then (some (((((strOfNums y163) ++ t166) ++ (⟨#[0]⟩ : ByteArray)) ++ t167) ++ t168, 0)) else (none)) = some (r1, r2) := H
         have A11 := Aside0.mk A110
         clear A110
         by_cases c12 : ((((strOfNums y163) ++ t166) ++ (⟨#[0]⟩ : ByteArray)) ++ t167).size + t168.size ≤ 9223372036854775807
         · rw [if_pos c12] at H
           have c12b0 := eq_true c12
           have c12b1 : decide (((((strOfNums y163) ++ t166) ++ (⟨#[0]⟩ : ByteArray)) ++ t167).size + t168.size ≤ 9223372036854775807) = true := decide_eq_true c12
           try have c12b2 : (9223372036854775807 < ((((strOfNums y163) ++ t166) ++ (⟨#[0]⟩ : ByteArray)) ++ t167).size + t168.size) = False := eq_false (Nat.not_lt.2 c12)
           try have c12b3 : (9223372036854775807 < (strOfNums y163).size + t166.size + 1 + t167.size + t168.size) = False := eq_false (Nat.not_lt.2 (by have h_ := c12; simp only [ByteArray.size_append] at h_; exact h_))
           simp only [Option.some.injEq, Prod.mk.injEq] at H
           obtain ⟨rfl, rfl⟩ := H
           go_enter Try.func18, Try.ntmps18
           try go_wp2_with (first | ((with_reducible refine gate_dst (N := 1) rfl ?_); refine box_event ?hg (N := 1) ?hd (cs := #[.int .i64 a0_0, .int .i64 a0_1, .int .i64 a0_2, .int .i64 a0_3, .int .i64 a0_4, .int .i64 a0_5, .int .i64 a0_6, .int .i64 a0_7, .int .i64 a0_8]) (t := 27) ?hr ?_; (case hd => rfl); (case hg => rfl); (case hr => first | (go_simp; done) | (go_simp; rfl)); intro gb159 hg w13 hbox hb; have n0_ := Aside0.mk (below_step (by repeat (first | (with_reducible first | exact HB.out | apply below_alloc | apply pw_below_drewN | apply below_drew1) | exact HB.out)) hb); have n1_ := Aside0.mk (hbox); have n2_ := Aside0.mk ((by rw [hg]; exact (below_size (by repeat (first | (with_reducible first | exact HB.out | apply below_alloc | apply pw_below_drewN | apply below_drew1) | exact HB.out))) : w.heap.size ≤ gb159)); have n3_ := Aside0.mk ((by rw [hg]; exact (below_size (by repeat (first | (with_reducible first | exact HB.out | apply below_alloc | apply pw_below_drewN | apply below_drew1) | exact HB.out))) : w.heap.size ≤ gb159)); clear HB; have HB := n0_; have BK159 := n1_; have GW159 := n2_; have GE159 := n3_; clear n0_ n1_ n2_ n3_; clear hb hbox hg; have hcz14_0 : w13.cell? ⟨gb159, 0, none⟩ = some (.int .i64 a0_0) := (blk_cell BK159.out 0).trans rfl; have hcz14_1 : w13.cell? ⟨gb159, 1, none⟩ = some (.int .i64 a0_1) := (blk_cell BK159.out 1).trans rfl; have hcz14_2 : w13.cell? ⟨gb159, 2, none⟩ = some (.int .i64 a0_2) := (blk_cell BK159.out 2).trans rfl; have hcz14_3 : w13.cell? ⟨gb159, 3, none⟩ = some (.int .i64 a0_3) := (blk_cell BK159.out 3).trans rfl; have hcz14_4 : w13.cell? ⟨gb159, 4, none⟩ = some (.int .i64 a0_4) := (blk_cell BK159.out 4).trans rfl; have hcz14_5 : w13.cell? ⟨gb159, 5, none⟩ = some (.int .i64 a0_5) := (blk_cell BK159.out 5).trans rfl; have hcz14_6 : w13.cell? ⟨gb159, 6, none⟩ = some (.int .i64 a0_6) := (blk_cell BK159.out 6).trans rfl; have hcz14_7 : w13.cell? ⟨gb159, 7, none⟩ = some (.int .i64 a0_7) := (blk_cell BK159.out 7).trans rfl; have hcz14_8 : w13.cell? ⟨gb159, 8, none⟩ = some (.int .i64 a0_8) := (blk_cell BK159.out 8).trans rfl; have hfz14_0 := blk_frozen BK159.out 0; have hfz14_1 := blk_frozen BK159.out 1; have hfz14_2 := blk_frozen BK159.out 2; have hfz14_3 := blk_frozen BK159.out 3; have hfz14_4 := blk_frozen BK159.out 4; have hfz14_5 := blk_frozen BK159.out 5; have hfz14_6 := blk_frozen BK159.out 6; have hfz14_7 := blk_frozen BK159.out 7; have hfz14_8 := blk_frozen BK159.out 8) | ((with_reducible refine gate_callee (f := 39) rfl ?_); refine goesL_ (some 7) rfl rfl Try.func39 (by kernel_rfl) rfl #[.agg #[.int .i64 a0_0, .int .i64 a0_1, .int .i64 a0_2, .int .i64 a0_3, .int .i64 a0_4, .int .i64 a0_5, .int .i64 a0_6, .int .i64 a0_7, .int .i64 a0_8]] rfl (by (try simp only [List.map_toArray, List.map_cons, List.map_nil]); first | done | rfl | (simp only [List.length_drop, List.length_take]; rfl)) ?_; (with_reducible refine (subchannel_valid.calls a0_0 a0_1 a0_2 a0_3 a0_4 a0_5 a0_6 a0_7 a0_8 true _ A2.out).mono ?_); rintro e w15 ⟨rfl, hb⟩; refine ⟨_, rfl, ?_⟩; have n0_ := Aside0.mk (blk_below (g := gb159) (o := .cells #[.int .i64 a0_0, .int .i64 a0_1, .int .i64 a0_2, .int .i64 a0_3, .int .i64 a0_4, .int .i64 a0_5, .int .i64 a0_6, .int .i64 a0_7, .int .i64 a0_8] 27 (0, 0)) (by (with_reducible repeat (first | refine blk_drewN ?_ _ | refine blk_drew ?_ | refine blk_alloc ?_ _)); exact BK159.out) hb); have n1_ := Aside0.mk (below_step (by repeat (first | (with_reducible first | exact HB.out | apply below_alloc | apply pw_below_drewN | apply below_drew1 | refine below_set ?_ GE159.out) | exact HB.out)) hb); clear BK159; clear HB; have BK159 := n0_; have HB := n1_; clear n0_ n1_; (try clear hb); (try clear hb2); (try clear hk); (try clear hi)))
           have n0_ := Aside0.mk (blk_drew BK159.out)
           have n1_ := Aside0.mk (below_drew1 HB.out)
           clear BK159
           clear HB
           have BK159 := n0_
           have HB := n1_
           clear n0_ n1_
           refine start_ (n := 25) (S := fun w' => w'.cell? ⟨gb159, 0, none⟩ = some (.int .i64 a0_0) ∧ w'.cell? ⟨gb159, 1, none⟩ = some (.int .i64 a0_1) ∧ w'.cell? ⟨gb159, 2, none⟩ = some (.int .i64 a0_2) ∧ w'.cell? ⟨gb159, 3, none⟩ = some (.int .i64 a0_3) ∧ w'.cell? ⟨gb159, 4, none⟩ = some (.int .i64 a0_4) ∧ w'.cell? ⟨gb159, 5, none⟩ = some (.int .i64 a0_5) ∧ w'.cell? ⟨gb159, 6, none⟩ = some (.int .i64 a0_6) ∧ w'.cell? ⟨gb159, 7, none⟩ = some (.int .i64 a0_7) ∧ w'.cell? ⟨gb159, 8, none⟩ = some (.int .i64 a0_8)) (ds := []) #[false, false, false, false, false, false, false, false, false, false, false, false, false, false, false, false, false, false, false, false, false, false, false, false, false] (by kernel_rfl) rfl rfl ⟨(blk_cell BK159.out 0).trans rfl, (blk_cell BK159.out 1).trans rfl, (blk_cell BK159.out 2).trans rfl, (blk_cell BK159.out 3).trans rfl, (blk_cell BK159.out 4).trans rfl, (blk_cell BK159.out 5).trans rfl, (blk_cell BK159.out 6).trans rfl, (blk_cell BK159.out 7).trans rfl, (blk_cell BK159.out 8).trans rfl⟩ (fun hHeld => ?_); refine with_tabW subchannel_Encode.tab4 subchannel_Encode.bits4 (fun HT_ HW_ => ?_)
           generalize w15.drew = w16 at BK159 HB hHeld ⊢
           refine pure_ (i := 0) (N := some 9) (v := ?_) (a' := ?_) (mS 25 1) rfl rfl (any_of HT_.out (by kernel_rfl)) (fun _ _ _ h => h) (Or.inl ⟨by rfl, ?_⟩) ?_ ?_
           rotate_left
           · intro w'
             go_simp
             with_reducible rfl
           rotate_left
           · simp only [Act.put, List.setIfInBounds_toArray, List.set_cons_zero, List.set_cons_succ, i64_w, i32_w]
             rfl
           refine pure_ (i := 5) (N := some 14) (v := ?_) (a' := ?_) (mS 25 33) rfl rfl (any_of HT_.out (by kernel_rfl)) (fun _ _ _ h => h) (Or.inl ⟨by rfl, ?_⟩) ?_ ?_
           rotate_left
           · intro w'
             go_simp
             with_reducible rfl
           rotate_left
           · simp only [Act.put, List.setIfInBounds_toArray, List.set_cons_zero, List.set_cons_succ, i64_w, i32_w]
             rfl
           refine pure_ (i := 8) (N := some 17) (v := ?_) (a' := ?_) (mS 25 289) rfl rfl (any_of HT_.out (by kernel_rfl)) (fun _ _ _ h => h) (Or.inl ⟨by rfl, ?_⟩) ?_ ?_
           rotate_left
           · intro w'
             go_simp
             with_reducible rfl
           rotate_left
           · simp only [Act.put, List.setIfInBounds_toArray, List.set_cons_zero, List.set_cons_succ, i64_w, i32_w]
             rfl
           refine pure_ (i := 13) (N := some 22) (v := ?_) (a' := ?_) (mS 25 8481) rfl rfl (any_of HT_.out (by kernel_rfl)) (fun _ _ _ h => h) (Or.inl ⟨by rfl, ?_⟩) ?_ ?_
           rotate_left
           · intro w'
             go_simp
             with_reducible rfl
           rotate_left
           · simp only [Act.put, List.setIfInBounds_toArray, List.set_cons_zero, List.set_cons_succ, i64_w, i32_w]
             rfl
           refine pure_ (i := 14) (N := some 23) (v := ?_) (a' := ?_) (mS 25 24865) rfl rfl (any_of HT_.out (by kernel_rfl)) (fun _ _ _ h => h) (Or.inl ⟨by rfl, ?_⟩) ?_ ?_
           rotate_left
           · intro w'
             go_simp
             with_reducible rfl
           rotate_left
           · simp only [Act.put, List.setIfInBounds_toArray, List.set_cons_zero, List.set_cons_succ, i64_w, i32_w]
             rfl
           refine pure_ (i := 19) (N := some 28) (v := ?_) (a' := ?_) (mS 25 549153) rfl rfl (any_of HT_.out (by kernel_rfl)) (fun _ _ _ h => h) (Or.inl ⟨by rfl, ?_⟩) ?_ ?_
           rotate_left
           · intro w'
             go_simp
             with_reducible rfl
           rotate_left
           · simp only [Act.put, List.setIfInBounds_toArray, List.set_cons_zero, List.set_cons_succ, i64_w, i32_w]
             rfl
           refine pure_ (i := 20) (N := some 29) (v := ?_) (a' := ?_) (mS 25 1597729) rfl rfl (any_of HT_.out (by kernel_rfl)) (fun _ _ _ h => h) (Or.inl ⟨by rfl, ?_⟩) ?_ ?_
           rotate_left
           · intro w'
             go_simp
             with_reducible rfl
           rotate_left
           · simp only [Act.put, List.setIfInBounds_toArray, List.set_cons_zero, List.set_cons_succ, i64_w, i32_w]
             rfl
           refine take_ (i := 1) (N := some 10) (v := ?_) (a' := ?_) (mS 25 1597731) rfl rfl (take_ofW HT_.out HW_.out (by kernel_rfl)) (fun _ _ _ h => h) (Or.inl ⟨by rfl, ?_⟩) hHeld ?_ ?_
           rotate_left
           · rintro w' ⟨s0, s1, s2, s3, s4, s5, s6, s7, s8⟩
             go_simp
             with_reducible rfl
           rotate_left
           · simp only [Act.put, List.setIfInBounds_toArray, List.set_cons_zero, List.set_cons_succ, i64_w, i32_w]
             rfl
           refine pure_ (i := 2) (N := some 11) (v := ?_) (a' := ?_) (mS 25 1597735) rfl rfl (any_of HT_.out (by kernel_rfl)) (fun _ _ _ h => h) (Or.inl ⟨by rfl, ?_⟩) ?_ ?_
           rotate_left
           · intro w'
             go_simp
             with_reducible rfl
           rotate_left
           · simp only [Act.put, List.setIfInBounds_toArray, List.set_cons_zero, List.set_cons_succ, i64_w, i32_w]
             rfl
           refine pure_ (i := 3) (N := some 12) (v := ?_) (a' := ?_) (mS 25 1597743) rfl rfl (any_of HT_.out (by kernel_rfl)) (fun _ _ _ h => h) (Or.inl ⟨by rfl, ?_⟩) ?_ ?_
           rotate_left
           · intro w'
             go_simp
             with_reducible rfl
           rotate_left
           · simp only [Act.put, List.setIfInBounds_toArray, List.set_cons_zero, List.set_cons_succ, i64_w, i32_w]
             rfl
           refine pure_ (i := 4) (N := some 13) (v := ?_) (a' := ?_) (mS 25 1597759) rfl rfl (any_of HT_.out (by kernel_rfl)) (fun _ _ _ h => h) (Or.inl ⟨by rfl, ?_⟩) ?_ ?_
           rotate_left
           · intro w'
             go_simp
             with_reducible rfl
           rotate_left
           · simp only [Act.put, List.setIfInBounds_toArray, List.set_cons_zero, List.set_cons_succ, i64_w, i32_w]
             rfl
           refine take_ (i := 6) (N := some 15) (v := ?_) (a' := ?_) (mS 25 1597823) rfl rfl (take_ofW HT_.out HW_.out (by kernel_rfl)) (fun _ _ _ h => h) (Or.inl ⟨by rfl, ?_⟩) hHeld ?_ ?_
           rotate_left
           · rintro w' ⟨s0, s1, s2, s3, s4, s5, s6, s7, s8⟩
             go_simp
             with_reducible rfl
           rotate_left
           · simp only [Act.put, List.setIfInBounds_toArray, List.set_cons_zero, List.set_cons_succ, i64_w, i32_w]
             rfl
           refine take_ (i := 9) (N := some 18) (v := ?_) (a' := ?_) (mS 25 1598335) rfl rfl (take_ofW HT_.out HW_.out (by kernel_rfl)) (fun _ _ _ h => h) (Or.inl ⟨by rfl, ?_⟩) hHeld ?_ ?_
           rotate_left
           · rintro w' ⟨s0, s1, s2, s3, s4, s5, s6, s7, s8⟩
             go_simp
             with_reducible rfl
           rotate_left
           · simp only [Act.put, List.setIfInBounds_toArray, List.set_cons_zero, List.set_cons_succ, i64_w, i32_w]
             rfl
           refine take_ (i := 15) (N := some 24) (v := ?_) (a' := ?_) (mS 25 1631103) rfl rfl (take_ofW HT_.out HW_.out (by kernel_rfl)) (fun _ _ _ h => h) (Or.inl ⟨by rfl, ?_⟩) hHeld ?_ ?_
           rotate_left
           · rintro w' ⟨s0, s1, s2, s3, s4, s5, s6, s7, s8⟩
             go_simp
             with_reducible rfl
           rotate_left
           · simp only [Act.put, List.setIfInBounds_toArray, List.set_cons_zero, List.set_cons_succ, i64_w, i32_w]
             rfl
           refine take_ (i := 21) (N := some 30) (v := ?_) (a' := ?_) (mS 25 3728255) rfl rfl (take_ofW HT_.out HW_.out (by kernel_rfl)) (fun _ _ _ h => h) (Or.inl ⟨by rfl, ?_⟩) hHeld ?_ ?_
           rotate_left
           · rintro w' ⟨s0, s1, s2, s3, s4, s5, s6, s7, s8⟩
             go_simp
             with_reducible rfl
           rotate_left
           · simp only [Act.put, List.setIfInBounds_toArray, List.set_cons_zero, List.set_cons_succ, i64_w, i32_w]
             rfl
           refine one_ (i := 7) (N := some 16) (mS 25 3728383) rfl rfl (one_of HT_.out (by kernel_rfl)) (by decide) (fun K hK => ?_)
           refine goes_ Try.func42 (by kernel_rfl) rfl #[.int .i64 a0_1] (by rfl) rfl rfl (by (try simp only [List.map_toArray, List.map_cons, List.map_nil]); first | done | rfl | (simp only [List.length_drop, List.length_take]; rfl)) ?_
           with_reducible refine (subchannel_number.calls a0_1 t161 _ A4.out).mono ?_
           rintro e w17 ⟨rfl, hb⟩
           refine ⟨_, rfl, ?_⟩
           have n0_ := Aside0.mk (blk_below (g := gb159) (o := .cells #[.int .i64 a0_0, .int .i64 a0_1, .int .i64 a0_2, .int .i64 a0_3, .int .i64 a0_4, .int .i64 a0_5, .int .i64 a0_6, .int .i64 a0_7, .int .i64 a0_8] 27 (0, 0)) (by (with_reducible repeat (first | refine blk_drewN ?_ _ | refine blk_drew ?_ | refine blk_alloc ?_ _)); exact BK159.out) hb)
           have n1_ := Aside0.mk (below_step (by repeat (first | (with_reducible first | exact HB.out | apply below_alloc | apply pw_below_drewN | apply below_drew1 | refine below_set ?_ GE159.out) | exact HB.out)) hb)
           clear BK159
           clear HB
           have BK159 := n0_
           have HB := n1_
           clear n0_ n1_
           (try clear hb)
           (try clear hb2)
           (try clear hk)
           (try clear hi)
           refine hK.out _ _ ⟨(blk_cell BK159.out 0).trans rfl, (blk_cell BK159.out 1).trans rfl, (blk_cell BK159.out 2).trans rfl, (blk_cell BK159.out 3).trans rfl, (blk_cell BK159.out 4).trans rfl, (blk_cell BK159.out 5).trans rfl, (blk_cell BK159.out 6).trans rfl, (blk_cell BK159.out 7).trans rfl, (blk_cell BK159.out 8).trans rfl⟩ (fun hHeld => ?_)
           clear hK K
           refine norm_ (a' := ?_) ?_ ?_
           rotate_left
           · show Act.put _ (some 16) _ = _
             simp only [Act.put, List.setIfInBounds_toArray, List.set_cons_zero, List.set_cons_succ, i64_w, i32_w]
             rfl
           refine one_ (i := 10) (N := some 19) (mS 25 3729407) rfl rfl (one_of HT_.out (by kernel_rfl)) (by decide) (fun K hK => ?_)
           refine goes_ Try.func42 (by kernel_rfl) rfl #[.int .i64 a0_2] (by rfl) rfl rfl (by (try simp only [List.map_toArray, List.map_cons, List.map_nil]); first | done | rfl | (simp only [List.length_drop, List.length_take]; rfl)) ?_
           with_reducible refine (subchannel_number.calls a0_2 t162 _ A5.out).mono ?_
           rintro e w18 ⟨rfl, hb⟩
           refine ⟨_, rfl, ?_⟩
           have n0_ := Aside0.mk (blk_below (g := gb159) (o := .cells #[.int .i64 a0_0, .int .i64 a0_1, .int .i64 a0_2, .int .i64 a0_3, .int .i64 a0_4, .int .i64 a0_5, .int .i64 a0_6, .int .i64 a0_7, .int .i64 a0_8] 27 (0, 0)) (by (with_reducible repeat (first | refine blk_drewN ?_ _ | refine blk_drew ?_ | refine blk_alloc ?_ _)); exact BK159.out) hb)
           have n1_ := Aside0.mk (below_step (by repeat (first | (with_reducible first | exact HB.out | apply below_alloc | apply pw_below_drewN | apply below_drew1 | refine below_set ?_ GE159.out) | exact HB.out)) hb)
           clear BK159
           clear HB
           have BK159 := n0_
           have HB := n1_
           clear n0_ n1_
           (try clear hb)
           (try clear hb2)
           (try clear hk)
           (try clear hi)
           refine hK.out _ _ ⟨(blk_cell BK159.out 0).trans rfl, (blk_cell BK159.out 1).trans rfl, (blk_cell BK159.out 2).trans rfl, (blk_cell BK159.out 3).trans rfl, (blk_cell BK159.out 4).trans rfl, (blk_cell BK159.out 5).trans rfl, (blk_cell BK159.out 6).trans rfl, (blk_cell BK159.out 7).trans rfl, (blk_cell BK159.out 8).trans rfl⟩ (fun hHeld => ?_)
           clear hK K
           refine norm_ (a' := ?_) ?_ ?_
           rotate_left
           · show Act.put _ (some 19) _ = _
             simp only [Act.put, List.setIfInBounds_toArray, List.set_cons_zero, List.set_cons_succ, i64_w, i32_w]
             rfl
           refine join_ (σ := Value) 2 #[true, true, true, true, true, true, true, true, true, true, true, true, true, true, true, true, true, true, true, true, true, true, true, false, false] (fun s_ => [(20, s_), (21, .string (strOfNums y163)), (25, .string t166), (31, .string t167), (26, .string ((strOfNums y163) ++ t166)), (27, .string (((strOfNums y163) ++ t166) ++ (⟨#[0]⟩ : ByteArray)))]) (fun s_ w' => (w'.cell? ⟨gb159, 0, none⟩ = some (.int .i64 a0_0) ∧ w'.cell? ⟨gb159, 1, none⟩ = some (.int .i64 a0_1) ∧ w'.cell? ⟨gb159, 2, none⟩ = some (.int .i64 a0_2) ∧ w'.cell? ⟨gb159, 3, none⟩ = some (.int .i64 a0_3) ∧ w'.cell? ⟨gb159, 4, none⟩ = some (.int .i64 a0_4) ∧ w'.cell? ⟨gb159, 5, none⟩ = some (.int .i64 a0_5) ∧ w'.cell? ⟨gb159, 6, none⟩ = some (.int .i64 a0_6) ∧ w'.cell? ⟨gb159, 7, none⟩ = some (.int .i64 a0_7) ∧ w'.cell? ⟨gb159, 8, none⟩ = some (.int .i64 a0_8)) ∧ (Kd.R (Kd.int .u8) 5 w' w.heap.size (fun _ => True) s_ y163) ∧ (w'.heap[gb159]? = some (.cells #[.int .i64 a0_0, .int .i64 a0_1, .int .i64 a0_2, .int .i64 a0_3, .int .i64 a0_4, .int .i64 a0_5, .int .i64 a0_6, .int .i64 a0_7, .int .i64 a0_8] 27 (0, 0))) ∧ (Below w.heap.size w w')) ?_ ?_
           rotate_left
           · intro hJ11_12_16_22
             refine join_ (σ := Value) 3 #[true, true, true, true, true, true, true, true, true, true, true, true, true, true, true, true, true, true, true, true, true, true, false, false, false] (fun s_ => [(20, s_), (21, .string (strOfNums y163)), (25, .string t166), (26, .string ((strOfNums y163) ++ t166)), (27, .string (((strOfNums y163) ++ t166) ++ (⟨#[0]⟩ : ByteArray)))]) (fun s_ w' => (w'.cell? ⟨gb159, 0, none⟩ = some (.int .i64 a0_0) ∧ w'.cell? ⟨gb159, 1, none⟩ = some (.int .i64 a0_1) ∧ w'.cell? ⟨gb159, 2, none⟩ = some (.int .i64 a0_2) ∧ w'.cell? ⟨gb159, 3, none⟩ = some (.int .i64 a0_3) ∧ w'.cell? ⟨gb159, 4, none⟩ = some (.int .i64 a0_4) ∧ w'.cell? ⟨gb159, 5, none⟩ = some (.int .i64 a0_5) ∧ w'.cell? ⟨gb159, 6, none⟩ = some (.int .i64 a0_6) ∧ w'.cell? ⟨gb159, 7, none⟩ = some (.int .i64 a0_7) ∧ w'.cell? ⟨gb159, 8, none⟩ = some (.int .i64 a0_8)) ∧ (Kd.R (Kd.int .u8) 5 w' w.heap.size (fun _ => True) s_ y163) ∧ (w'.heap[gb159]? = some (.cells #[.int .i64 a0_0, .int .i64 a0_1, .int .i64 a0_2, .int .i64 a0_3, .int .i64 a0_4, .int .i64 a0_5, .int .i64 a0_6, .int .i64 a0_7, .int .i64 a0_8] 27 (0, 0))) ∧ (Below w.heap.size w w')) ?_ ?_
             rotate_left
             · intro hJ11_12_16
               refine join_ (σ := Value) 5 #[true, true, true, true, true, true, true, true, true, true, true, true, false, true, true, true, true, false, false, true, true, true, true, false, false] (fun s_ => [(20, s_), (25, .string t166), (31, .string t167)]) (fun s_ w' => (w'.cell? ⟨gb159, 0, none⟩ = some (.int .i64 a0_0) ∧ w'.cell? ⟨gb159, 1, none⟩ = some (.int .i64 a0_1) ∧ w'.cell? ⟨gb159, 2, none⟩ = some (.int .i64 a0_2) ∧ w'.cell? ⟨gb159, 3, none⟩ = some (.int .i64 a0_3) ∧ w'.cell? ⟨gb159, 4, none⟩ = some (.int .i64 a0_4) ∧ w'.cell? ⟨gb159, 5, none⟩ = some (.int .i64 a0_5) ∧ w'.cell? ⟨gb159, 6, none⟩ = some (.int .i64 a0_6) ∧ w'.cell? ⟨gb159, 7, none⟩ = some (.int .i64 a0_7) ∧ w'.cell? ⟨gb159, 8, none⟩ = some (.int .i64 a0_8)) ∧ (Kd.R (Kd.int .u8) 5 w' w.heap.size (fun _ => True) s_ y163) ∧ (w'.heap[gb159]? = some (.cells #[.int .i64 a0_0, .int .i64 a0_1, .int .i64 a0_2, .int .i64 a0_3, .int .i64 a0_4, .int .i64 a0_5, .int .i64 a0_6, .int .i64 a0_7, .int .i64 a0_8] 27 (0, 0))) ∧ (Below w.heap.size w w')) ?_ ?_
               rotate_left
               · intro hJ11_16_22
                 refine join_ (σ := Value) 6 #[true, true, true, true, true, true, true, true, true, true, true, true, true, true, true, true, false, false, false, true, true, true, false, false, false] (fun s_ => [(20, s_), (21, .string (strOfNums y163))]) (fun s_ w' => (w'.cell? ⟨gb159, 0, none⟩ = some (.int .i64 a0_0) ∧ w'.cell? ⟨gb159, 1, none⟩ = some (.int .i64 a0_1) ∧ w'.cell? ⟨gb159, 2, none⟩ = some (.int .i64 a0_2) ∧ w'.cell? ⟨gb159, 3, none⟩ = some (.int .i64 a0_3) ∧ w'.cell? ⟨gb159, 4, none⟩ = some (.int .i64 a0_4) ∧ w'.cell? ⟨gb159, 5, none⟩ = some (.int .i64 a0_5) ∧ w'.cell? ⟨gb159, 6, none⟩ = some (.int .i64 a0_6) ∧ w'.cell? ⟨gb159, 7, none⟩ = some (.int .i64 a0_7) ∧ w'.cell? ⟨gb159, 8, none⟩ = some (.int .i64 a0_8)) ∧ (Kd.R (Kd.int .u8) 5 w' w.heap.size (fun _ => True) s_ y163) ∧ (w'.heap[gb159]? = some (.cells #[.int .i64 a0_0, .int .i64 a0_1, .int .i64 a0_2, .int .i64 a0_3, .int .i64 a0_4, .int .i64 a0_5, .int .i64 a0_6, .int .i64 a0_7, .int .i64 a0_8] 27 (0, 0))) ∧ (Below w.heap.size w w')) ?_ ?_
                 rotate_left
                 · intro hJ11_12
                   refine join_ (σ := Value) 6 #[true, true, true, true, true, true, true, true, true, true, true, true, false, true, true, true, true, false, false, true, true, true, false, false, false] (fun s_ => [(20, s_), (25, .string t166)]) (fun s_ w' => (w'.cell? ⟨gb159, 0, none⟩ = some (.int .i64 a0_0) ∧ w'.cell? ⟨gb159, 1, none⟩ = some (.int .i64 a0_1) ∧ w'.cell? ⟨gb159, 2, none⟩ = some (.int .i64 a0_2) ∧ w'.cell? ⟨gb159, 3, none⟩ = some (.int .i64 a0_3) ∧ w'.cell? ⟨gb159, 4, none⟩ = some (.int .i64 a0_4) ∧ w'.cell? ⟨gb159, 5, none⟩ = some (.int .i64 a0_5) ∧ w'.cell? ⟨gb159, 6, none⟩ = some (.int .i64 a0_6) ∧ w'.cell? ⟨gb159, 7, none⟩ = some (.int .i64 a0_7) ∧ w'.cell? ⟨gb159, 8, none⟩ = some (.int .i64 a0_8)) ∧ (Kd.R (Kd.int .u8) 5 w' w.heap.size (fun _ => True) s_ y163) ∧ (w'.heap[gb159]? = some (.cells #[.int .i64 a0_0, .int .i64 a0_1, .int .i64 a0_2, .int .i64 a0_3, .int .i64 a0_4, .int .i64 a0_5, .int .i64 a0_6, .int .i64 a0_7, .int .i64 a0_8] 27 (0, 0))) ∧ (Below w.heap.size w w')) ?_ ?_
                   rotate_left
                   · intro hJ11_16
                     refine join_ (σ := Unit) 6 #[true, true, true, true, true, true, true, true, true, true, true, false, false, true, true, true, true, false, false, true, true, true, true, false, false] (fun s_ => [(25, .string t166), (31, .string t167)]) (fun s_ w' => (w'.cell? ⟨gb159, 0, none⟩ = some (.int .i64 a0_0) ∧ w'.cell? ⟨gb159, 1, none⟩ = some (.int .i64 a0_1) ∧ w'.cell? ⟨gb159, 2, none⟩ = some (.int .i64 a0_2) ∧ w'.cell? ⟨gb159, 3, none⟩ = some (.int .i64 a0_3) ∧ w'.cell? ⟨gb159, 4, none⟩ = some (.int .i64 a0_4) ∧ w'.cell? ⟨gb159, 5, none⟩ = some (.int .i64 a0_5) ∧ w'.cell? ⟨gb159, 6, none⟩ = some (.int .i64 a0_6) ∧ w'.cell? ⟨gb159, 7, none⟩ = some (.int .i64 a0_7) ∧ w'.cell? ⟨gb159, 8, none⟩ = some (.int .i64 a0_8)) ∧ (w'.heap[gb159]? = some (.cells #[.int .i64 a0_0, .int .i64 a0_1, .int .i64 a0_2, .int .i64 a0_3, .int .i64 a0_4, .int .i64 a0_5, .int .i64 a0_6, .int .i64 a0_7, .int .i64 a0_8] 27 (0, 0))) ∧ (Below w.heap.size w w')) ?_ ?_
                     rotate_left
                     · intro hJ16_22
                       refine join_ (σ := Value) 7 #[true, true, true, true, true, true, true, true, true, true, true, true, false, true, true, true, false, false, false, true, true, true, false, false, false] (fun s_ => [(20, s_)]) (fun s_ w' => (w'.cell? ⟨gb159, 0, none⟩ = some (.int .i64 a0_0) ∧ w'.cell? ⟨gb159, 1, none⟩ = some (.int .i64 a0_1) ∧ w'.cell? ⟨gb159, 2, none⟩ = some (.int .i64 a0_2) ∧ w'.cell? ⟨gb159, 3, none⟩ = some (.int .i64 a0_3) ∧ w'.cell? ⟨gb159, 4, none⟩ = some (.int .i64 a0_4) ∧ w'.cell? ⟨gb159, 5, none⟩ = some (.int .i64 a0_5) ∧ w'.cell? ⟨gb159, 6, none⟩ = some (.int .i64 a0_6) ∧ w'.cell? ⟨gb159, 7, none⟩ = some (.int .i64 a0_7) ∧ w'.cell? ⟨gb159, 8, none⟩ = some (.int .i64 a0_8)) ∧ (Kd.R (Kd.int .u8) 5 w' w.heap.size (fun _ => True) s_ y163) ∧ (w'.heap[gb159]? = some (.cells #[.int .i64 a0_0, .int .i64 a0_1, .int .i64 a0_2, .int .i64 a0_3, .int .i64 a0_4, .int .i64 a0_5, .int .i64 a0_6, .int .i64 a0_7, .int .i64 a0_8] 27 (0, 0))) ∧ (Below w.heap.size w w')) ?_ ?_
                       rotate_left
                       · intro hJ11
                         refine join_ (σ := Unit) 7 #[true, true, true, true, true, true, true, true, true, true, true, false, false, true, true, true, true, false, false, true, true, true, false, false, false] (fun s_ => [(25, .string t166)]) (fun s_ w' => (w'.cell? ⟨gb159, 0, none⟩ = some (.int .i64 a0_0) ∧ w'.cell? ⟨gb159, 1, none⟩ = some (.int .i64 a0_1) ∧ w'.cell? ⟨gb159, 2, none⟩ = some (.int .i64 a0_2) ∧ w'.cell? ⟨gb159, 3, none⟩ = some (.int .i64 a0_3) ∧ w'.cell? ⟨gb159, 4, none⟩ = some (.int .i64 a0_4) ∧ w'.cell? ⟨gb159, 5, none⟩ = some (.int .i64 a0_5) ∧ w'.cell? ⟨gb159, 6, none⟩ = some (.int .i64 a0_6) ∧ w'.cell? ⟨gb159, 7, none⟩ = some (.int .i64 a0_7) ∧ w'.cell? ⟨gb159, 8, none⟩ = some (.int .i64 a0_8)) ∧ (w'.heap[gb159]? = some (.cells #[.int .i64 a0_0, .int .i64 a0_1, .int .i64 a0_2, .int .i64 a0_3, .int .i64 a0_4, .int .i64 a0_5, .int .i64 a0_6, .int .i64 a0_7, .int .i64 a0_8] 27 (0, 0))) ∧ (Below w.heap.size w w')) ?_ ?_
                         rotate_left
                         · intro hJ16
                           refine two_ (i := 11) (j := 16) (Ni := some 20) (Nj := some 25) #[true, true, true, true, true, true, true, true, true, true, true, true, false, true, true, true, false, false, false, true, true, true, false, false, false] (mS 25 3794943) rfl rfl rfl rfl (two_of HT_.out (by kernel_rfl)) (by decide) (by decide) (fun K hK => ?_) (fun K hK => ?_)
                           · skip
                             refine Kd.R_lit_step (Kd.int .u8) _ 5 ?hg (N := 20) ?hd (xs := ([(Go.bits .or .i64 (wrap64 (a0_0 * 16)) 1) % 256, t161, t162] : List Int)) (inner := [.int .u8 ((Go.bits .or .i64 (wrap64 (a0_0 * 16)) 1) % 256), .int .u8 t161, .int .u8 t162]) (ok := fun _ => True) (okp := fun _ => True) ?hr ?hp (fun _ hk => hk) trivial (Below.refl _ _) (Nat.le_refl _) (by simp) ?_; (case hd => rfl); (case hg => rfl); (case hr => first | (go_simp; done) | (go_simp; rfl)); (case hp => exact (Reps.one (show Kd.M (Kd.int .u8) _ _ _ ((Go.bits .or .i64 (wrap64 (a0_0 * 16)) 1) % 256) [.int .u8 ((Go.bits .or .i64 (wrap64 (a0_0 * 16)) 1) % 256)] from rfl) (Reps.one (show Kd.M (Kd.int .u8) _ _ _ t161 [.int .u8 t161] from rfl) (Reps.one (show Kd.M (Kd.int .u8) _ _ _ t162 [.int .u8 t162] from rfl) (Reps.none _ _)))))
                             intro v164 w19 ho20 hb hg_ hnew_
                             clear hg_ hnew_
                             (first | rw [← Ny163.out] at ho20 | (simp only [Int.reduceToNat] at ho20; rw [← Ny163.out] at ho20))
                             have n0_ := Aside0.mk (Kd.R_lower ho20 (below_size (by repeat (first | (with_reducible first | exact HB.out | apply below_alloc | apply pw_below_drewN | apply below_drew1 | refine below_set ?_ GE159.out) | exact HB.out))))
                             have n1_ := Aside0.mk (blk_below (g := gb159) (o := .cells #[.int .i64 a0_0, .int .i64 a0_1, .int .i64 a0_2, .int .i64 a0_3, .int .i64 a0_4, .int .i64 a0_5, .int .i64 a0_6, .int .i64 a0_7, .int .i64 a0_8] 27 (0, 0)) (by (with_reducible repeat (first | refine blk_drewN ?_ _ | refine blk_drew ?_ | refine blk_alloc ?_ _)); exact BK159.out) hb)
                             have n2_ := Aside0.mk (below_step (by repeat (first | (with_reducible first | exact HB.out | apply below_alloc | apply pw_below_drewN | apply below_drew1 | refine below_set ?_ GE159.out) | exact HB.out)) hb)
                             clear BK159
                             clear HB
                             have HO165 := n0_
                             have BK159 := n1_
                             have HB := n2_
                             clear n0_ n1_ n2_
                             clear hb ho20
                             refine hK.out _ _ ⟨(blk_cell BK159.out 0).trans rfl, (blk_cell BK159.out 1).trans rfl, (blk_cell BK159.out 2).trans rfl, (blk_cell BK159.out 3).trans rfl, (blk_cell BK159.out 4).trans rfl, (blk_cell BK159.out 5).trans rfl, (blk_cell BK159.out 6).trans rfl, (blk_cell BK159.out 7).trans rfl, (blk_cell BK159.out 8).trans rfl⟩ (fun hHeld => ?_)
                             clear hK K
                             refine norm_ (a' := ?_) ?_ ?_
                             rotate_left
                             · show Act.put _ (some 20) _ = _
                               simp only [Act.put, List.setIfInBounds_toArray, List.set_cons_zero, List.set_cons_succ, i64_w, i32_w]
                               rfl
                             exact norm_ (by first | (simp only [putAll, Act.put, List.setIfInBounds_toArray, List.set_cons_zero, List.set_cons_succ]; done) | (simp only [putAll, Act.put, List.setIfInBounds_toArray, List.set_cons_zero, List.set_cons_succ]; rfl)) (hJ11 (v164) _ ⟨hHeld, (by (with_reducible repeat (first | apply Kd.R_alloc | apply Kd.R_drewN | apply Kd.R_drew)); exact HO165.out), (by (with_reducible repeat (first | refine blk_drewN ?_ _ | refine blk_drew ?_ | refine blk_alloc ?_ _)); exact BK159.out), (by repeat (first | (with_reducible first | exact HB.out | apply below_alloc | apply pw_below_drewN | apply below_drew1 | refine below_set ?_ GE159.out) | exact HB.out))⟩)
                           · skip
                             refine goesV_ Try.func40 (by kernel_rfl) rfl #[.agg #[.int .i64 a0_3, .int .i64 a0_4, .int .i64 a0_5]] (by rfl) rfl rfl rfl (by (try simp only [List.map_toArray, List.map_cons, List.map_nil]); first | done | rfl | (simp only [List.length_drop, List.length_take]; rfl)) ?_
                             with_reducible refine (subchannel_Encode_1.calls a0_3 a0_4 a0_5 t166 _ A6.out).mono ?_
                             rintro e w19 ⟨rfl, hb⟩
                             refine ⟨_, rfl, ?_⟩
                             have n0_ := Aside0.mk (blk_below (g := gb159) (o := .cells #[.int .i64 a0_0, .int .i64 a0_1, .int .i64 a0_2, .int .i64 a0_3, .int .i64 a0_4, .int .i64 a0_5, .int .i64 a0_6, .int .i64 a0_7, .int .i64 a0_8] 27 (0, 0)) (by (with_reducible repeat (first | refine blk_drewN ?_ _ | refine blk_drew ?_ | refine blk_alloc ?_ _)); exact BK159.out) hb)
                             have n1_ := Aside0.mk (below_step (by repeat (first | (with_reducible first | exact HB.out | apply below_alloc | apply pw_below_drewN | apply below_drew1 | refine below_set ?_ GE159.out) | exact HB.out)) hb)
                             clear BK159
                             clear HB
                             have BK159 := n0_
                             have HB := n1_
                             clear n0_ n1_
                             (try clear hb)
                             (try clear hb2)
                             (try clear hk)
                             (try clear hi)
                             refine hK.out _ _ ⟨(blk_cell BK159.out 0).trans rfl, (blk_cell BK159.out 1).trans rfl, (blk_cell BK159.out 2).trans rfl, (blk_cell BK159.out 3).trans rfl, (blk_cell BK159.out 4).trans rfl, (blk_cell BK159.out 5).trans rfl, (blk_cell BK159.out 6).trans rfl, (blk_cell BK159.out 7).trans rfl, (blk_cell BK159.out 8).trans rfl⟩ (fun hHeld => ?_)
                             clear hK K
                             refine norm_ (a' := ?_) ?_ ?_
                             rotate_left
                             · show Act.put _ (some 25) _ = _
                               simp only [Act.put, List.setIfInBounds_toArray, List.set_cons_zero, List.set_cons_succ, i64_w, i32_w]
                               rfl
                             exact norm_ (by first | (simp only [putAll, Act.put, List.setIfInBounds_toArray, List.set_cons_zero, List.set_cons_succ]; done) | (simp only [putAll, Act.put, List.setIfInBounds_toArray, List.set_cons_zero, List.set_cons_succ]; rfl)) (hJ16 () _ ⟨hHeld, (by (with_reducible repeat (first | refine blk_drewN ?_ _ | refine blk_drew ?_ | refine blk_alloc ?_ _)); exact BK159.out), (by repeat (first | (with_reducible first | exact HB.out | apply below_alloc | apply pw_below_drewN | apply below_drew1 | refine below_set ?_ GE159.out) | exact HB.out))⟩)
                         · skip
                           rintro _ w20 ⟨hS_, h0_, h1_⟩
                           have n0_ : Aside0 (w20.heap[gb159]? = some (.cells #[.int .i64 a0_0, .int .i64 a0_1, .int .i64 a0_2, .int .i64 a0_3, .int .i64 a0_4, .int .i64 a0_5, .int .i64 a0_6, .int .i64 a0_7, .int .i64 a0_8] 27 (0, 0))) := ⟨h0_⟩
                           have n1_ : Aside0 (Below w.heap.size w w20) := ⟨h1_⟩
                           clear BK159
                           clear HB
                           clear h0_ h1_
                           have BK159 := n0_
                           have HB := n1_
                           clear n0_ n1_
                           have hHeld : w20.cell? ⟨gb159, 0, none⟩ = some (.int .i64 a0_0) ∧ w20.cell? ⟨gb159, 1, none⟩ = some (.int .i64 a0_1) ∧ w20.cell? ⟨gb159, 2, none⟩ = some (.int .i64 a0_2) ∧ w20.cell? ⟨gb159, 3, none⟩ = some (.int .i64 a0_3) ∧ w20.cell? ⟨gb159, 4, none⟩ = some (.int .i64 a0_4) ∧ w20.cell? ⟨gb159, 5, none⟩ = some (.int .i64 a0_5) ∧ w20.cell? ⟨gb159, 6, none⟩ = some (.int .i64 a0_6) ∧ w20.cell? ⟨gb159, 7, none⟩ = some (.int .i64 a0_7) ∧ w20.cell? ⟨gb159, 8, none⟩ = some (.int .i64 a0_8) := hS_
                           refine norm_ (a' := ?_) ?_ ?_
                           rotate_left
                           · simp only [putAll, Act.put, List.setIfInBounds_toArray, List.set_cons_zero, List.set_cons_succ]
                             rfl
                           refine two_ (i := 11) (j := 22) (Ni := some 20) (Nj := some 31) #[true, true, true, true, true, true, true, true, true, true, true, true, false, true, true, true, true, false, false, true, true, true, false, false, false] (mS 25 7989247) rfl rfl rfl rfl (two_of HT_.out (by kernel_rfl)) (by decide) (by decide) (fun K hK => ?_) (fun K hK => ?_)
                           · skip
                             refine Kd.R_lit_step (Kd.int .u8) _ 5 ?hg (N := 20) ?hd (xs := ([(Go.bits .or .i64 (wrap64 (a0_0 * 16)) 1) % 256, t161, t162] : List Int)) (inner := [.int .u8 ((Go.bits .or .i64 (wrap64 (a0_0 * 16)) 1) % 256), .int .u8 t161, .int .u8 t162]) (ok := fun _ => True) (okp := fun _ => True) ?hr ?hp (fun _ hk => hk) trivial (Below.refl _ _) (Nat.le_refl _) (by simp) ?_; (case hd => rfl); (case hg => rfl); (case hr => first | (go_simp; done) | (go_simp; rfl)); (case hp => exact (Reps.one (show Kd.M (Kd.int .u8) _ _ _ ((Go.bits .or .i64 (wrap64 (a0_0 * 16)) 1) % 256) [.int .u8 ((Go.bits .or .i64 (wrap64 (a0_0 * 16)) 1) % 256)] from rfl) (Reps.one (show Kd.M (Kd.int .u8) _ _ _ t161 [.int .u8 t161] from rfl) (Reps.one (show Kd.M (Kd.int .u8) _ _ _ t162 [.int .u8 t162] from rfl) (Reps.none _ _)))))
                             intro v164 w21 ho22 hb hg_ hnew_
                             clear hg_ hnew_
                             (first | rw [← Ny163.out] at ho22 | (simp only [Int.reduceToNat] at ho22; rw [← Ny163.out] at ho22))
                             have n0_ := Aside0.mk (Kd.R_lower ho22 (below_size (by repeat (first | (with_reducible first | exact HB.out | apply below_alloc | apply pw_below_drewN | apply below_drew1 | refine below_set ?_ GE159.out) | exact HB.out))))
                             have n1_ := Aside0.mk (blk_below (g := gb159) (o := .cells #[.int .i64 a0_0, .int .i64 a0_1, .int .i64 a0_2, .int .i64 a0_3, .int .i64 a0_4, .int .i64 a0_5, .int .i64 a0_6, .int .i64 a0_7, .int .i64 a0_8] 27 (0, 0)) (by (with_reducible repeat (first | refine blk_drewN ?_ _ | refine blk_drew ?_ | refine blk_alloc ?_ _)); exact BK159.out) hb)
                             have n2_ := Aside0.mk (below_step (by repeat (first | (with_reducible first | exact HB.out | apply below_alloc | apply pw_below_drewN | apply below_drew1 | refine below_set ?_ GE159.out) | exact HB.out)) hb)
                             clear BK159
                             clear HB
                             have HO165 := n0_
                             have BK159 := n1_
                             have HB := n2_
                             clear n0_ n1_ n2_
                             clear hb ho22
                             refine hK.out _ _ ⟨(blk_cell BK159.out 0).trans rfl, (blk_cell BK159.out 1).trans rfl, (blk_cell BK159.out 2).trans rfl, (blk_cell BK159.out 3).trans rfl, (blk_cell BK159.out 4).trans rfl, (blk_cell BK159.out 5).trans rfl, (blk_cell BK159.out 6).trans rfl, (blk_cell BK159.out 7).trans rfl, (blk_cell BK159.out 8).trans rfl⟩ (fun hHeld => ?_)
                             clear hK K
                             refine norm_ (a' := ?_) ?_ ?_
                             rotate_left
                             · show Act.put _ (some 20) _ = _
                               simp only [Act.put, List.setIfInBounds_toArray, List.set_cons_zero, List.set_cons_succ, i64_w, i32_w]
                               rfl
                             exact norm_ (by first | (simp only [putAll, Act.put, List.setIfInBounds_toArray, List.set_cons_zero, List.set_cons_succ]; done) | (simp only [putAll, Act.put, List.setIfInBounds_toArray, List.set_cons_zero, List.set_cons_succ]; rfl)) (hJ11_16 (v164) _ ⟨hHeld, (by (with_reducible repeat (first | apply Kd.R_alloc | apply Kd.R_drewN | apply Kd.R_drew)); exact HO165.out), (by (with_reducible repeat (first | refine blk_drewN ?_ _ | refine blk_drew ?_ | refine blk_alloc ?_ _)); exact BK159.out), (by repeat (first | (with_reducible first | exact HB.out | apply below_alloc | apply pw_below_drewN | apply below_drew1 | refine below_set ?_ GE159.out) | exact HB.out))⟩)
                           · skip
                             refine goesV_ Try.func40 (by kernel_rfl) rfl #[.agg #[.int .i64 a0_6, .int .i64 a0_7, .int .i64 a0_8]] (by rfl) rfl rfl rfl (by (try simp only [List.map_toArray, List.map_cons, List.map_nil]); first | done | rfl | (simp only [List.length_drop, List.length_take]; rfl)) ?_
                             with_reducible refine (subchannel_Encode_1.calls a0_6 a0_7 a0_8 t167 _ A9.out).mono ?_
                             rintro e w21 ⟨rfl, hb⟩
                             refine ⟨_, rfl, ?_⟩
                             have n0_ := Aside0.mk (blk_below (g := gb159) (o := .cells #[.int .i64 a0_0, .int .i64 a0_1, .int .i64 a0_2, .int .i64 a0_3, .int .i64 a0_4, .int .i64 a0_5, .int .i64 a0_6, .int .i64 a0_7, .int .i64 a0_8] 27 (0, 0)) (by (with_reducible repeat (first | refine blk_drewN ?_ _ | refine blk_drew ?_ | refine blk_alloc ?_ _)); exact BK159.out) hb)
                             have n1_ := Aside0.mk (below_step (by repeat (first | (with_reducible first | exact HB.out | apply below_alloc | apply pw_below_drewN | apply below_drew1 | refine below_set ?_ GE159.out) | exact HB.out)) hb)
                             clear BK159
                             clear HB
                             have BK159 := n0_
                             have HB := n1_
                             clear n0_ n1_
                             (try clear hb)
                             (try clear hb2)
                             (try clear hk)
                             (try clear hi)
                             refine hK.out _ _ ⟨(blk_cell BK159.out 0).trans rfl, (blk_cell BK159.out 1).trans rfl, (blk_cell BK159.out 2).trans rfl, (blk_cell BK159.out 3).trans rfl, (blk_cell BK159.out 4).trans rfl, (blk_cell BK159.out 5).trans rfl, (blk_cell BK159.out 6).trans rfl, (blk_cell BK159.out 7).trans rfl, (blk_cell BK159.out 8).trans rfl⟩ (fun hHeld => ?_)
                             clear hK K
                             refine norm_ (a' := ?_) ?_ ?_
                             rotate_left
                             · show Act.put _ (some 31) _ = _
                               simp only [Act.put, List.setIfInBounds_toArray, List.set_cons_zero, List.set_cons_succ, i64_w, i32_w]
                               rfl
                             exact norm_ (by first | (simp only [putAll, Act.put, List.setIfInBounds_toArray, List.set_cons_zero, List.set_cons_succ]; done) | (simp only [putAll, Act.put, List.setIfInBounds_toArray, List.set_cons_zero, List.set_cons_succ]; rfl)) (hJ16_22 () _ ⟨hHeld, (by (with_reducible repeat (first | refine blk_drewN ?_ _ | refine blk_drew ?_ | refine blk_alloc ?_ _)); exact BK159.out), (by repeat (first | (with_reducible first | exact HB.out | apply below_alloc | apply pw_below_drewN | apply below_drew1 | refine below_set ?_ GE159.out) | exact HB.out))⟩)
                       · skip
                         rintro v164 w21 ⟨hS_, h0_, h1_, h2_⟩
                         have n0_ : Aside0 (Kd.R (Kd.int .u8) 5 w21 w.heap.size (fun _ => True) v164 y163) := ⟨h0_⟩
                         have n1_ : Aside0 (w21.heap[gb159]? = some (.cells #[.int .i64 a0_0, .int .i64 a0_1, .int .i64 a0_2, .int .i64 a0_3, .int .i64 a0_4, .int .i64 a0_5, .int .i64 a0_6, .int .i64 a0_7, .int .i64 a0_8] 27 (0, 0))) := ⟨h1_⟩
                         have n2_ : Aside0 (Below w.heap.size w w21) := ⟨h2_⟩
                         clear BK159
                         clear HB
                         clear h0_ h1_ h2_
                         have HO165 := n0_
                         have BK159 := n1_
                         have HB := n2_
                         clear n0_ n1_ n2_
                         have hHeld : w21.cell? ⟨gb159, 0, none⟩ = some (.int .i64 a0_0) ∧ w21.cell? ⟨gb159, 1, none⟩ = some (.int .i64 a0_1) ∧ w21.cell? ⟨gb159, 2, none⟩ = some (.int .i64 a0_2) ∧ w21.cell? ⟨gb159, 3, none⟩ = some (.int .i64 a0_3) ∧ w21.cell? ⟨gb159, 4, none⟩ = some (.int .i64 a0_4) ∧ w21.cell? ⟨gb159, 5, none⟩ = some (.int .i64 a0_5) ∧ w21.cell? ⟨gb159, 6, none⟩ = some (.int .i64 a0_6) ∧ w21.cell? ⟨gb159, 7, none⟩ = some (.int .i64 a0_7) ∧ w21.cell? ⟨gb159, 8, none⟩ = some (.int .i64 a0_8) := hS_
                         refine norm_ (a' := ?_) ?_ ?_
                         rotate_left
                         · simp only [putAll, Act.put, List.setIfInBounds_toArray, List.set_cons_zero, List.set_cons_succ]
                           rfl
                         refine two_ (i := 12) (j := 16) (Ni := some 21) (Nj := some 25) #[true, true, true, true, true, true, true, true, true, true, true, true, true, true, true, true, false, false, false, true, true, true, false, false, false] (mS 25 3796991) rfl rfl rfl rfl (two_of HT_.out (by kernel_rfl)) (by decide) (by decide) (fun K hK => ?_) (fun K hK => ?_)
                         · skip
                           have hcv22 := own_string (P := Try.prog) Try.underlying49 Try.underlying5 Try.underlying9 (Kd.own_of_R HO165.out)
                           refine value_ (w1 := ?_) (v := ?_) (by rfl) rfl ?_ ?_
                           rotate_left 2
                           · go_simp
                             constructor
                             · rfl
                             · rfl
                           clear hcv22
                           refine hK.out _ _ ⟨(blk_cell BK159.out 0).trans rfl, (blk_cell BK159.out 1).trans rfl, (blk_cell BK159.out 2).trans rfl, (blk_cell BK159.out 3).trans rfl, (blk_cell BK159.out 4).trans rfl, (blk_cell BK159.out 5).trans rfl, (blk_cell BK159.out 6).trans rfl, (blk_cell BK159.out 7).trans rfl, (blk_cell BK159.out 8).trans rfl⟩ (fun hHeld => ?_)
                           clear hK K
                           refine norm_ (a' := ?_) ?_ ?_
                           rotate_left
                           · show Act.put _ (some 21) _ = _
                             simp only [Act.put, List.setIfInBounds_toArray, List.set_cons_zero, List.set_cons_succ, i64_w, i32_w]
                             rfl
                           exact norm_ (by first | (simp only [putAll, Act.put, List.setIfInBounds_toArray, List.set_cons_zero, List.set_cons_succ]; done) | (simp only [putAll, Act.put, List.setIfInBounds_toArray, List.set_cons_zero, List.set_cons_succ]; rfl)) (hJ11_12 (v164) _ ⟨hHeld, (by (with_reducible repeat (first | apply Kd.R_alloc | apply Kd.R_drewN | apply Kd.R_drew)); exact HO165.out), (by (with_reducible repeat (first | refine blk_drewN ?_ _ | refine blk_drew ?_ | refine blk_alloc ?_ _)); exact BK159.out), (by repeat (first | (with_reducible first | exact HB.out | apply below_alloc | apply pw_below_drewN | apply below_drew1 | refine below_set ?_ GE159.out) | exact HB.out))⟩)
                         · skip
                           refine goesV_ Try.func40 (by kernel_rfl) rfl #[.agg #[.int .i64 a0_3, .int .i64 a0_4, .int .i64 a0_5]] (by rfl) rfl rfl rfl (by (try simp only [List.map_toArray, List.map_cons, List.map_nil]); first | done | rfl | (simp only [List.length_drop, List.length_take]; rfl)) ?_
                           with_reducible refine (subchannel_Encode_1.calls a0_3 a0_4 a0_5 t166 _ A6.out).mono ?_
                           rintro e w22 ⟨rfl, hb⟩
                           refine ⟨_, rfl, ?_⟩
                           have n0_ := Aside0.mk (Kd.R_below (by (with_reducible repeat (first | apply Kd.R_alloc | apply Kd.R_drewN | apply Kd.R_drew)); exact HO165.out) hb)
                           have n1_ := Aside0.mk (blk_below (g := gb159) (o := .cells #[.int .i64 a0_0, .int .i64 a0_1, .int .i64 a0_2, .int .i64 a0_3, .int .i64 a0_4, .int .i64 a0_5, .int .i64 a0_6, .int .i64 a0_7, .int .i64 a0_8] 27 (0, 0)) (by (with_reducible repeat (first | refine blk_drewN ?_ _ | refine blk_drew ?_ | refine blk_alloc ?_ _)); exact BK159.out) hb)
                           have n2_ := Aside0.mk (below_step (by repeat (first | (with_reducible first | exact HB.out | apply below_alloc | apply pw_below_drewN | apply below_drew1 | refine below_set ?_ GE159.out) | exact HB.out)) hb)
                           clear HO165
                           clear BK159
                           clear HB
                           have HO165 := n0_
                           have BK159 := n1_
                           have HB := n2_
                           clear n0_ n1_ n2_
                           (try clear hb)
                           (try clear hb2)
                           (try clear hk)
                           (try clear hi)
                           refine hK.out _ _ ⟨(blk_cell BK159.out 0).trans rfl, (blk_cell BK159.out 1).trans rfl, (blk_cell BK159.out 2).trans rfl, (blk_cell BK159.out 3).trans rfl, (blk_cell BK159.out 4).trans rfl, (blk_cell BK159.out 5).trans rfl, (blk_cell BK159.out 6).trans rfl, (blk_cell BK159.out 7).trans rfl, (blk_cell BK159.out 8).trans rfl⟩ (fun hHeld => ?_)
                           clear hK K
                           refine norm_ (a' := ?_) ?_ ?_
                           rotate_left
                           · show Act.put _ (some 25) _ = _
                             simp only [Act.put, List.setIfInBounds_toArray, List.set_cons_zero, List.set_cons_succ, i64_w, i32_w]
                             rfl
                           exact norm_ (by first | (simp only [putAll, Act.put, List.setIfInBounds_toArray, List.set_cons_zero, List.set_cons_succ]; done) | (simp only [putAll, Act.put, List.setIfInBounds_toArray, List.set_cons_zero, List.set_cons_succ]; rfl)) (hJ11_16 (v164) _ ⟨hHeld, (by (with_reducible repeat (first | apply Kd.R_alloc | apply Kd.R_drewN | apply Kd.R_drew)); exact HO165.out), (by (with_reducible repeat (first | refine blk_drewN ?_ _ | refine blk_drew ?_ | refine blk_alloc ?_ _)); exact BK159.out), (by repeat (first | (with_reducible first | exact HB.out | apply below_alloc | apply pw_below_drewN | apply below_drew1 | refine below_set ?_ GE159.out) | exact HB.out))⟩)
                     · skip
                       rintro _ w21 ⟨hS_, h0_, h1_⟩
                       have n0_ : Aside0 (w21.heap[gb159]? = some (.cells #[.int .i64 a0_0, .int .i64 a0_1, .int .i64 a0_2, .int .i64 a0_3, .int .i64 a0_4, .int .i64 a0_5, .int .i64 a0_6, .int .i64 a0_7, .int .i64 a0_8] 27 (0, 0))) := ⟨h0_⟩
                       have n1_ : Aside0 (Below w.heap.size w w21) := ⟨h1_⟩
                       clear BK159
                       clear HB
                       clear h0_ h1_
                       have BK159 := n0_
                       have HB := n1_
                       clear n0_ n1_
                       have hHeld : w21.cell? ⟨gb159, 0, none⟩ = some (.int .i64 a0_0) ∧ w21.cell? ⟨gb159, 1, none⟩ = some (.int .i64 a0_1) ∧ w21.cell? ⟨gb159, 2, none⟩ = some (.int .i64 a0_2) ∧ w21.cell? ⟨gb159, 3, none⟩ = some (.int .i64 a0_3) ∧ w21.cell? ⟨gb159, 4, none⟩ = some (.int .i64 a0_4) ∧ w21.cell? ⟨gb159, 5, none⟩ = some (.int .i64 a0_5) ∧ w21.cell? ⟨gb159, 6, none⟩ = some (.int .i64 a0_6) ∧ w21.cell? ⟨gb159, 7, none⟩ = some (.int .i64 a0_7) ∧ w21.cell? ⟨gb159, 8, none⟩ = some (.int .i64 a0_8) := hS_
                       refine norm_ (a' := ?_) ?_ ?_
                       rotate_left
                       · simp only [putAll, Act.put, List.setIfInBounds_toArray, List.set_cons_zero, List.set_cons_succ]
                         rfl
                       refine one_ (i := 11) (N := some 20) (mS 25 7991295) rfl rfl (one_of HT_.out (by kernel_rfl)) (by decide) (fun K hK => ?_)
                       refine Kd.R_lit_step (Kd.int .u8) _ 5 ?hg (N := 20) ?hd (xs := ([(Go.bits .or .i64 (wrap64 (a0_0 * 16)) 1) % 256, t161, t162] : List Int)) (inner := [.int .u8 ((Go.bits .or .i64 (wrap64 (a0_0 * 16)) 1) % 256), .int .u8 t161, .int .u8 t162]) (ok := fun _ => True) (okp := fun _ => True) ?hr ?hp (fun _ hk => hk) trivial (Below.refl _ _) (Nat.le_refl _) (by simp) ?_; (case hd => rfl); (case hg => rfl); (case hr => first | (go_simp; done) | (go_simp; rfl)); (case hp => exact (Reps.one (show Kd.M (Kd.int .u8) _ _ _ ((Go.bits .or .i64 (wrap64 (a0_0 * 16)) 1) % 256) [.int .u8 ((Go.bits .or .i64 (wrap64 (a0_0 * 16)) 1) % 256)] from rfl) (Reps.one (show Kd.M (Kd.int .u8) _ _ _ t161 [.int .u8 t161] from rfl) (Reps.one (show Kd.M (Kd.int .u8) _ _ _ t162 [.int .u8 t162] from rfl) (Reps.none _ _)))))
                       intro v164 w22 ho23 hb hg_ hnew_
                       clear hg_ hnew_
                       (first | rw [← Ny163.out] at ho23 | (simp only [Int.reduceToNat] at ho23; rw [← Ny163.out] at ho23))
                       have n0_ := Aside0.mk (Kd.R_lower ho23 (below_size (by repeat (first | (with_reducible first | exact HB.out | apply below_alloc | apply pw_below_drewN | apply below_drew1 | refine below_set ?_ GE159.out) | exact HB.out))))
                       have n1_ := Aside0.mk (blk_below (g := gb159) (o := .cells #[.int .i64 a0_0, .int .i64 a0_1, .int .i64 a0_2, .int .i64 a0_3, .int .i64 a0_4, .int .i64 a0_5, .int .i64 a0_6, .int .i64 a0_7, .int .i64 a0_8] 27 (0, 0)) (by (with_reducible repeat (first | refine blk_drewN ?_ _ | refine blk_drew ?_ | refine blk_alloc ?_ _)); exact BK159.out) hb)
                       have n2_ := Aside0.mk (below_step (by repeat (first | (with_reducible first | exact HB.out | apply below_alloc | apply pw_below_drewN | apply below_drew1 | refine below_set ?_ GE159.out) | exact HB.out)) hb)
                       clear BK159
                       clear HB
                       have HO165 := n0_
                       have BK159 := n1_
                       have HB := n2_
                       clear n0_ n1_ n2_
                       clear hb ho23
                       refine hK.out _ _ ⟨(blk_cell BK159.out 0).trans rfl, (blk_cell BK159.out 1).trans rfl, (blk_cell BK159.out 2).trans rfl, (blk_cell BK159.out 3).trans rfl, (blk_cell BK159.out 4).trans rfl, (blk_cell BK159.out 5).trans rfl, (blk_cell BK159.out 6).trans rfl, (blk_cell BK159.out 7).trans rfl, (blk_cell BK159.out 8).trans rfl⟩ (fun hHeld => ?_)
                       clear hK K
                       refine norm_ (a' := ?_) ?_ ?_
                       rotate_left
                       · show Act.put _ (some 20) _ = _
                         simp only [Act.put, List.setIfInBounds_toArray, List.set_cons_zero, List.set_cons_succ, i64_w, i32_w]
                         rfl
                       exact norm_ (by first | (simp only [putAll, Act.put, List.setIfInBounds_toArray, List.set_cons_zero, List.set_cons_succ]; done) | (simp only [putAll, Act.put, List.setIfInBounds_toArray, List.set_cons_zero, List.set_cons_succ]; rfl)) (hJ11_16_22 (v164) _ ⟨hHeld, (by (with_reducible repeat (first | apply Kd.R_alloc | apply Kd.R_drewN | apply Kd.R_drew)); exact HO165.out), (by (with_reducible repeat (first | refine blk_drewN ?_ _ | refine blk_drew ?_ | refine blk_alloc ?_ _)); exact BK159.out), (by repeat (first | (with_reducible first | exact HB.out | apply below_alloc | apply pw_below_drewN | apply below_drew1 | refine below_set ?_ GE159.out) | exact HB.out))⟩)
                   · skip
                     rintro v164 w22 ⟨hS_, h0_, h1_, h2_⟩
                     have n0_ : Aside0 (Kd.R (Kd.int .u8) 5 w22 w.heap.size (fun _ => True) v164 y163) := ⟨h0_⟩
                     have n1_ : Aside0 (w22.heap[gb159]? = some (.cells #[.int .i64 a0_0, .int .i64 a0_1, .int .i64 a0_2, .int .i64 a0_3, .int .i64 a0_4, .int .i64 a0_5, .int .i64 a0_6, .int .i64 a0_7, .int .i64 a0_8] 27 (0, 0))) := ⟨h1_⟩
                     have n2_ : Aside0 (Below w.heap.size w w22) := ⟨h2_⟩
                     clear BK159
                     clear HB
                     clear h0_ h1_ h2_
                     have HO165 := n0_
                     have BK159 := n1_
                     have HB := n2_
                     clear n0_ n1_ n2_
                     have hHeld : w22.cell? ⟨gb159, 0, none⟩ = some (.int .i64 a0_0) ∧ w22.cell? ⟨gb159, 1, none⟩ = some (.int .i64 a0_1) ∧ w22.cell? ⟨gb159, 2, none⟩ = some (.int .i64 a0_2) ∧ w22.cell? ⟨gb159, 3, none⟩ = some (.int .i64 a0_3) ∧ w22.cell? ⟨gb159, 4, none⟩ = some (.int .i64 a0_4) ∧ w22.cell? ⟨gb159, 5, none⟩ = some (.int .i64 a0_5) ∧ w22.cell? ⟨gb159, 6, none⟩ = some (.int .i64 a0_6) ∧ w22.cell? ⟨gb159, 7, none⟩ = some (.int .i64 a0_7) ∧ w22.cell? ⟨gb159, 8, none⟩ = some (.int .i64 a0_8) := hS_
                     refine norm_ (a' := ?_) ?_ ?_
                     rotate_left
                     · simp only [putAll, Act.put, List.setIfInBounds_toArray, List.set_cons_zero, List.set_cons_succ]
                       rfl
                     refine two_ (i := 12) (j := 22) (Ni := some 21) (Nj := some 31) #[true, true, true, true, true, true, true, true, true, true, true, true, true, true, true, true, true, false, false, true, true, true, false, false, false] (mS 25 7991295) rfl rfl rfl rfl (two_of HT_.out (by kernel_rfl)) (by decide) (by decide) (fun K hK => ?_) (fun K hK => ?_)
                     · skip
                       have hcv23 := own_string (P := Try.prog) Try.underlying49 Try.underlying5 Try.underlying9 (Kd.own_of_R HO165.out)
                       refine value_ (w1 := ?_) (v := ?_) (by rfl) rfl ?_ ?_
                       rotate_left 2
                       · go_simp
                         constructor
                         · rfl
                         · rfl
                       clear hcv23
                       refine hK.out _ _ ⟨(blk_cell BK159.out 0).trans rfl, (blk_cell BK159.out 1).trans rfl, (blk_cell BK159.out 2).trans rfl, (blk_cell BK159.out 3).trans rfl, (blk_cell BK159.out 4).trans rfl, (blk_cell BK159.out 5).trans rfl, (blk_cell BK159.out 6).trans rfl, (blk_cell BK159.out 7).trans rfl, (blk_cell BK159.out 8).trans rfl⟩ (fun hHeld => ?_)
                       clear hK K
                       refine norm_ (a' := ?_) ?_ ?_
                       rotate_left
                       · show Act.put _ (some 21) _ = _
                         simp only [Act.put, List.setIfInBounds_toArray, List.set_cons_zero, List.set_cons_succ, i64_w, i32_w]
                         rfl
                       refine pure_ (i := 17) (N := some 26) (v := ?_) (a' := ?_) (mS 25 3932159) rfl rfl (any_of HT_.out (by kernel_rfl)) (fun _ _ _ h => h) (Or.inl ⟨by rfl, ?_⟩) ?_ ?_
                       rotate_left
                       · intro w'
                         go_simp
                         with_reducible rfl
                       rotate_left
                       · simp only [Act.put, List.setIfInBounds_toArray, List.set_cons_zero, List.set_cons_succ, i64_w, i32_w]
                         rfl
                       refine pure_ (i := 18) (N := some 27) (v := ?_) (a' := ?_) (mS 25 4194303) rfl rfl (any_of HT_.out (by kernel_rfl)) (fun _ _ _ h => h) (Or.inl ⟨by rfl, ?_⟩) ?_ ?_
                       rotate_left
                       · intro w'
                         go_simp
                         with_reducible rfl
                       rotate_left
                       · simp only [Act.put, List.setIfInBounds_toArray, List.set_cons_zero, List.set_cons_succ, i64_w, i32_w]
                         rfl
                       exact norm_ (by first | (simp only [putAll, Act.put, List.setIfInBounds_toArray, List.set_cons_zero, List.set_cons_succ]; done) | (simp only [putAll, Act.put, List.setIfInBounds_toArray, List.set_cons_zero, List.set_cons_succ]; rfl)) (hJ11_12_16 (v164) _ ⟨hHeld, (by (with_reducible repeat (first | apply Kd.R_alloc | apply Kd.R_drewN | apply Kd.R_drew)); exact HO165.out), (by (with_reducible repeat (first | refine blk_drewN ?_ _ | refine blk_drew ?_ | refine blk_alloc ?_ _)); exact BK159.out), (by repeat (first | (with_reducible first | exact HB.out | apply below_alloc | apply pw_below_drewN | apply below_drew1 | refine below_set ?_ GE159.out) | exact HB.out))⟩)
                     · skip
                       refine goesV_ Try.func40 (by kernel_rfl) rfl #[.agg #[.int .i64 a0_6, .int .i64 a0_7, .int .i64 a0_8]] (by rfl) rfl rfl rfl (by (try simp only [List.map_toArray, List.map_cons, List.map_nil]); first | done | rfl | (simp only [List.length_drop, List.length_take]; rfl)) ?_
                       with_reducible refine (subchannel_Encode_1.calls a0_6 a0_7 a0_8 t167 _ A9.out).mono ?_
                       rintro e w23 ⟨rfl, hb⟩
                       refine ⟨_, rfl, ?_⟩
                       have n0_ := Aside0.mk (Kd.R_below (by (with_reducible repeat (first | apply Kd.R_alloc | apply Kd.R_drewN | apply Kd.R_drew)); exact HO165.out) hb)
                       have n1_ := Aside0.mk (blk_below (g := gb159) (o := .cells #[.int .i64 a0_0, .int .i64 a0_1, .int .i64 a0_2, .int .i64 a0_3, .int .i64 a0_4, .int .i64 a0_5, .int .i64 a0_6, .int .i64 a0_7, .int .i64 a0_8] 27 (0, 0)) (by (with_reducible repeat (first | refine blk_drewN ?_ _ | refine blk_drew ?_ | refine blk_alloc ?_ _)); exact BK159.out) hb)
                       have n2_ := Aside0.mk (below_step (by repeat (first | (with_reducible first | exact HB.out | apply below_alloc | apply pw_below_drewN | apply below_drew1 | refine below_set ?_ GE159.out) | exact HB.out)) hb)
                       clear HO165
                       clear BK159
                       clear HB
                       have HO165 := n0_
                       have BK159 := n1_
                       have HB := n2_
                       clear n0_ n1_ n2_
                       (try clear hb)
                       (try clear hb2)
                       (try clear hk)
                       (try clear hi)
                       refine hK.out _ _ ⟨(blk_cell BK159.out 0).trans rfl, (blk_cell BK159.out 1).trans rfl, (blk_cell BK159.out 2).trans rfl, (blk_cell BK159.out 3).trans rfl, (blk_cell BK159.out 4).trans rfl, (blk_cell BK159.out 5).trans rfl, (blk_cell BK159.out 6).trans rfl, (blk_cell BK159.out 7).trans rfl, (blk_cell BK159.out 8).trans rfl⟩ (fun hHeld => ?_)
                       clear hK K
                       refine norm_ (a' := ?_) ?_ ?_
                       rotate_left
                       · show Act.put _ (some 31) _ = _
                         simp only [Act.put, List.setIfInBounds_toArray, List.set_cons_zero, List.set_cons_succ, i64_w, i32_w]
                         rfl
                       exact norm_ (by first | (simp only [putAll, Act.put, List.setIfInBounds_toArray, List.set_cons_zero, List.set_cons_succ]; done) | (simp only [putAll, Act.put, List.setIfInBounds_toArray, List.set_cons_zero, List.set_cons_succ]; rfl)) (hJ11_16_22 (v164) _ ⟨hHeld, (by (with_reducible repeat (first | apply Kd.R_alloc | apply Kd.R_drewN | apply Kd.R_drew)); exact HO165.out), (by (with_reducible repeat (first | refine blk_drewN ?_ _ | refine blk_drew ?_ | refine blk_alloc ?_ _)); exact BK159.out), (by repeat (first | (with_reducible first | exact HB.out | apply below_alloc | apply pw_below_drewN | apply below_drew1 | refine below_set ?_ GE159.out) | exact HB.out))⟩)
                 · skip
                   rintro v164 w22 ⟨hS_, h0_, h1_, h2_⟩
                   have n0_ : Aside0 (Kd.R (Kd.int .u8) 5 w22 w.heap.size (fun _ => True) v164 y163) := ⟨h0_⟩
                   have n1_ : Aside0 (w22.heap[gb159]? = some (.cells #[.int .i64 a0_0, .int .i64 a0_1, .int .i64 a0_2, .int .i64 a0_3, .int .i64 a0_4, .int .i64 a0_5, .int .i64 a0_6, .int .i64 a0_7, .int .i64 a0_8] 27 (0, 0))) := ⟨h1_⟩
                   have n2_ : Aside0 (Below w.heap.size w w22) := ⟨h2_⟩
                   clear BK159
                   clear HB
                   clear h0_ h1_ h2_
                   have HO165 := n0_
                   have BK159 := n1_
                   have HB := n2_
                   clear n0_ n1_ n2_
                   have hHeld : w22.cell? ⟨gb159, 0, none⟩ = some (.int .i64 a0_0) ∧ w22.cell? ⟨gb159, 1, none⟩ = some (.int .i64 a0_1) ∧ w22.cell? ⟨gb159, 2, none⟩ = some (.int .i64 a0_2) ∧ w22.cell? ⟨gb159, 3, none⟩ = some (.int .i64 a0_3) ∧ w22.cell? ⟨gb159, 4, none⟩ = some (.int .i64 a0_4) ∧ w22.cell? ⟨gb159, 5, none⟩ = some (.int .i64 a0_5) ∧ w22.cell? ⟨gb159, 6, none⟩ = some (.int .i64 a0_6) ∧ w22.cell? ⟨gb159, 7, none⟩ = some (.int .i64 a0_7) ∧ w22.cell? ⟨gb159, 8, none⟩ = some (.int .i64 a0_8) := hS_
                   refine norm_ (a' := ?_) ?_ ?_
                   rotate_left
                   · simp only [putAll, Act.put, List.setIfInBounds_toArray, List.set_cons_zero, List.set_cons_succ]
                     rfl
                   refine one_ (i := 16) (N := some 25) (mS 25 3801087) rfl rfl (one_of HT_.out (by kernel_rfl)) (by decide) (fun K hK => ?_)
                   refine goesV_ Try.func40 (by kernel_rfl) rfl #[.agg #[.int .i64 a0_3, .int .i64 a0_4, .int .i64 a0_5]] (by rfl) rfl rfl rfl (by (try simp only [List.map_toArray, List.map_cons, List.map_nil]); first | done | rfl | (simp only [List.length_drop, List.length_take]; rfl)) ?_
                   with_reducible refine (subchannel_Encode_1.calls a0_3 a0_4 a0_5 t166 _ A6.out).mono ?_
                   rintro e w23 ⟨rfl, hb⟩
                   refine ⟨_, rfl, ?_⟩
                   have n0_ := Aside0.mk (Kd.R_below (by (with_reducible repeat (first | apply Kd.R_alloc | apply Kd.R_drewN | apply Kd.R_drew)); exact HO165.out) hb)
                   have n1_ := Aside0.mk (blk_below (g := gb159) (o := .cells #[.int .i64 a0_0, .int .i64 a0_1, .int .i64 a0_2, .int .i64 a0_3, .int .i64 a0_4, .int .i64 a0_5, .int .i64 a0_6, .int .i64 a0_7, .int .i64 a0_8] 27 (0, 0)) (by (with_reducible repeat (first | refine blk_drewN ?_ _ | refine blk_drew ?_ | refine blk_alloc ?_ _)); exact BK159.out) hb)
                   have n2_ := Aside0.mk (below_step (by repeat (first | (with_reducible first | exact HB.out | apply below_alloc | apply pw_below_drewN | apply below_drew1 | refine below_set ?_ GE159.out) | exact HB.out)) hb)
                   clear HO165
                   clear BK159
                   clear HB
                   have HO165 := n0_
                   have BK159 := n1_
                   have HB := n2_
                   clear n0_ n1_ n2_
                   (try clear hb)
                   (try clear hb2)
                   (try clear hk)
                   (try clear hi)
                   refine hK.out _ _ ⟨(blk_cell BK159.out 0).trans rfl, (blk_cell BK159.out 1).trans rfl, (blk_cell BK159.out 2).trans rfl, (blk_cell BK159.out 3).trans rfl, (blk_cell BK159.out 4).trans rfl, (blk_cell BK159.out 5).trans rfl, (blk_cell BK159.out 6).trans rfl, (blk_cell BK159.out 7).trans rfl, (blk_cell BK159.out 8).trans rfl⟩ (fun hHeld => ?_)
                   clear hK K
                   refine norm_ (a' := ?_) ?_ ?_
                   rotate_left
                   · show Act.put _ (some 25) _ = _
                     simp only [Act.put, List.setIfInBounds_toArray, List.set_cons_zero, List.set_cons_succ, i64_w, i32_w]
                     rfl
                   refine pure_ (i := 17) (N := some 26) (v := ?_) (a' := ?_) (mS 25 3932159) rfl rfl (any_of HT_.out (by kernel_rfl)) (fun _ _ _ h => h) (Or.inl ⟨by rfl, ?_⟩) ?_ ?_
                   rotate_left
                   · intro w'
                     go_simp
                     with_reducible rfl
                   rotate_left
                   · simp only [Act.put, List.setIfInBounds_toArray, List.set_cons_zero, List.set_cons_succ, i64_w, i32_w]
                     rfl
                   refine pure_ (i := 18) (N := some 27) (v := ?_) (a' := ?_) (mS 25 4194303) rfl rfl (any_of HT_.out (by kernel_rfl)) (fun _ _ _ h => h) (Or.inl ⟨by rfl, ?_⟩) ?_ ?_
                   rotate_left
                   · intro w'
                     go_simp
                     with_reducible rfl
                   rotate_left
                   · simp only [Act.put, List.setIfInBounds_toArray, List.set_cons_zero, List.set_cons_succ, i64_w, i32_w]
                     rfl
                   exact norm_ (by first | (simp only [putAll, Act.put, List.setIfInBounds_toArray, List.set_cons_zero, List.set_cons_succ]; done) | (simp only [putAll, Act.put, List.setIfInBounds_toArray, List.set_cons_zero, List.set_cons_succ]; rfl)) (hJ11_12_16 (v164) _ ⟨hHeld, (by (with_reducible repeat (first | apply Kd.R_alloc | apply Kd.R_drewN | apply Kd.R_drew)); exact HO165.out), (by (with_reducible repeat (first | refine blk_drewN ?_ _ | refine blk_drew ?_ | refine blk_alloc ?_ _)); exact BK159.out), (by repeat (first | (with_reducible first | exact HB.out | apply below_alloc | apply pw_below_drewN | apply below_drew1 | refine below_set ?_ GE159.out) | exact HB.out))⟩)
               · skip
                 rintro v164 w23 ⟨hS_, h0_, h1_, h2_⟩
                 have n0_ : Aside0 (Kd.R (Kd.int .u8) 5 w23 w.heap.size (fun _ => True) v164 y163) := ⟨h0_⟩
                 have n1_ : Aside0 (w23.heap[gb159]? = some (.cells #[.int .i64 a0_0, .int .i64 a0_1, .int .i64 a0_2, .int .i64 a0_3, .int .i64 a0_4, .int .i64 a0_5, .int .i64 a0_6, .int .i64 a0_7, .int .i64 a0_8] 27 (0, 0))) := ⟨h1_⟩
                 have n2_ : Aside0 (Below w.heap.size w w23) := ⟨h2_⟩
                 clear BK159
                 clear HB
                 clear h0_ h1_ h2_
                 have HO165 := n0_
                 have BK159 := n1_
                 have HB := n2_
                 clear n0_ n1_ n2_
                 have hHeld : w23.cell? ⟨gb159, 0, none⟩ = some (.int .i64 a0_0) ∧ w23.cell? ⟨gb159, 1, none⟩ = some (.int .i64 a0_1) ∧ w23.cell? ⟨gb159, 2, none⟩ = some (.int .i64 a0_2) ∧ w23.cell? ⟨gb159, 3, none⟩ = some (.int .i64 a0_3) ∧ w23.cell? ⟨gb159, 4, none⟩ = some (.int .i64 a0_4) ∧ w23.cell? ⟨gb159, 5, none⟩ = some (.int .i64 a0_5) ∧ w23.cell? ⟨gb159, 6, none⟩ = some (.int .i64 a0_6) ∧ w23.cell? ⟨gb159, 7, none⟩ = some (.int .i64 a0_7) ∧ w23.cell? ⟨gb159, 8, none⟩ = some (.int .i64 a0_8) := hS_
                 refine norm_ (a' := ?_) ?_ ?_
                 rotate_left
                 · simp only [putAll, Act.put, List.setIfInBounds_toArray, List.set_cons_zero, List.set_cons_succ]
                   rfl
                 refine one_ (i := 12) (N := some 21) (mS 25 7995391) rfl rfl (one_of HT_.out (by kernel_rfl)) (by decide) (fun K hK => ?_)
                 have hcv24 := own_string (P := Try.prog) Try.underlying49 Try.underlying5 Try.underlying9 (Kd.own_of_R HO165.out)
                 refine value_ (w1 := ?_) (v := ?_) (by rfl) rfl ?_ ?_
                 rotate_left 2
                 · go_simp
                   constructor
                   · rfl
                   · rfl
                 clear hcv24
                 refine hK.out _ _ ⟨(blk_cell BK159.out 0).trans rfl, (blk_cell BK159.out 1).trans rfl, (blk_cell BK159.out 2).trans rfl, (blk_cell BK159.out 3).trans rfl, (blk_cell BK159.out 4).trans rfl, (blk_cell BK159.out 5).trans rfl, (blk_cell BK159.out 6).trans rfl, (blk_cell BK159.out 7).trans rfl, (blk_cell BK159.out 8).trans rfl⟩ (fun hHeld => ?_)
                 clear hK K
                 refine norm_ (a' := ?_) ?_ ?_
                 rotate_left
                 · show Act.put _ (some 21) _ = _
                   simp only [Act.put, List.setIfInBounds_toArray, List.set_cons_zero, List.set_cons_succ, i64_w, i32_w]
                   rfl
                 refine pure_ (i := 17) (N := some 26) (v := ?_) (a' := ?_) (mS 25 8126463) rfl rfl (any_of HT_.out (by kernel_rfl)) (fun _ _ _ h => h) (Or.inl ⟨by rfl, ?_⟩) ?_ ?_
                 rotate_left
                 · intro w'
                   go_simp
                   with_reducible rfl
                 rotate_left
                 · simp only [Act.put, List.setIfInBounds_toArray, List.set_cons_zero, List.set_cons_succ, i64_w, i32_w]
                   rfl
                 refine pure_ (i := 18) (N := some 27) (v := ?_) (a' := ?_) (mS 25 8388607) rfl rfl (any_of HT_.out (by kernel_rfl)) (fun _ _ _ h => h) (Or.inl ⟨by rfl, ?_⟩) ?_ ?_
                 rotate_left
                 · intro w'
                   go_simp
                   with_reducible rfl
                 rotate_left
                 · simp only [Act.put, List.setIfInBounds_toArray, List.set_cons_zero, List.set_cons_succ, i64_w, i32_w]
                   rfl
                 exact norm_ (by first | (simp only [putAll, Act.put, List.setIfInBounds_toArray, List.set_cons_zero, List.set_cons_succ]; done) | (simp only [putAll, Act.put, List.setIfInBounds_toArray, List.set_cons_zero, List.set_cons_succ]; rfl)) (hJ11_12_16_22 (v164) _ ⟨hHeld, (by (with_reducible repeat (first | apply Kd.R_alloc | apply Kd.R_drewN | apply Kd.R_drew)); exact HO165.out), (by (with_reducible repeat (first | refine blk_drewN ?_ _ | refine blk_drew ?_ | refine blk_alloc ?_ _)); exact BK159.out), (by repeat (first | (with_reducible first | exact HB.out | apply below_alloc | apply pw_below_drewN | apply below_drew1 | refine below_set ?_ GE159.out) | exact HB.out))⟩)
             · skip
               rintro v164 w23 ⟨hS_, h0_, h1_, h2_⟩
               have n0_ : Aside0 (Kd.R (Kd.int .u8) 5 w23 w.heap.size (fun _ => True) v164 y163) := ⟨h0_⟩
               have n1_ : Aside0 (w23.heap[gb159]? = some (.cells #[.int .i64 a0_0, .int .i64 a0_1, .int .i64 a0_2, .int .i64 a0_3, .int .i64 a0_4, .int .i64 a0_5, .int .i64 a0_6, .int .i64 a0_7, .int .i64 a0_8] 27 (0, 0))) := ⟨h1_⟩
               have n2_ : Aside0 (Below w.heap.size w w23) := ⟨h2_⟩
               clear BK159
               clear HB
               clear h0_ h1_ h2_
               have HO165 := n0_
               have BK159 := n1_
               have HB := n2_
               clear n0_ n1_ n2_
               have hHeld : w23.cell? ⟨gb159, 0, none⟩ = some (.int .i64 a0_0) ∧ w23.cell? ⟨gb159, 1, none⟩ = some (.int .i64 a0_1) ∧ w23.cell? ⟨gb159, 2, none⟩ = some (.int .i64 a0_2) ∧ w23.cell? ⟨gb159, 3, none⟩ = some (.int .i64 a0_3) ∧ w23.cell? ⟨gb159, 4, none⟩ = some (.int .i64 a0_4) ∧ w23.cell? ⟨gb159, 5, none⟩ = some (.int .i64 a0_5) ∧ w23.cell? ⟨gb159, 6, none⟩ = some (.int .i64 a0_6) ∧ w23.cell? ⟨gb159, 7, none⟩ = some (.int .i64 a0_7) ∧ w23.cell? ⟨gb159, 8, none⟩ = some (.int .i64 a0_8) := hS_
               refine norm_ (a' := ?_) ?_ ?_
               rotate_left
               · simp only [putAll, Act.put, List.setIfInBounds_toArray, List.set_cons_zero, List.set_cons_succ]
                 rfl
               refine one_ (i := 22) (N := some 31) (mS 25 8388607) rfl rfl (one_of HT_.out (by kernel_rfl)) (by decide) (fun K hK => ?_)
               refine goesV_ Try.func40 (by kernel_rfl) rfl #[.agg #[.int .i64 a0_6, .int .i64 a0_7, .int .i64 a0_8]] (by rfl) rfl rfl rfl (by (try simp only [List.map_toArray, List.map_cons, List.map_nil]); first | done | rfl | (simp only [List.length_drop, List.length_take]; rfl)) ?_
               with_reducible refine (subchannel_Encode_1.calls a0_6 a0_7 a0_8 t167 _ A9.out).mono ?_
               rintro e w24 ⟨rfl, hb⟩
               refine ⟨_, rfl, ?_⟩
               have n0_ := Aside0.mk (Kd.R_below (by (with_reducible repeat (first | apply Kd.R_alloc | apply Kd.R_drewN | apply Kd.R_drew)); exact HO165.out) hb)
               have n1_ := Aside0.mk (blk_below (g := gb159) (o := .cells #[.int .i64 a0_0, .int .i64 a0_1, .int .i64 a0_2, .int .i64 a0_3, .int .i64 a0_4, .int .i64 a0_5, .int .i64 a0_6, .int .i64 a0_7, .int .i64 a0_8] 27 (0, 0)) (by (with_reducible repeat (first | refine blk_drewN ?_ _ | refine blk_drew ?_ | refine blk_alloc ?_ _)); exact BK159.out) hb)
               have n2_ := Aside0.mk (below_step (by repeat (first | (with_reducible first | exact HB.out | apply below_alloc | apply pw_below_drewN | apply below_drew1 | refine below_set ?_ GE159.out) | exact HB.out)) hb)
               clear HO165
               clear BK159
               clear HB
               have HO165 := n0_
               have BK159 := n1_
               have HB := n2_
               clear n0_ n1_ n2_
               (try clear hb)
               (try clear hb2)
               (try clear hk)
               (try clear hi)
               refine hK.out _ _ ⟨(blk_cell BK159.out 0).trans rfl, (blk_cell BK159.out 1).trans rfl, (blk_cell BK159.out 2).trans rfl, (blk_cell BK159.out 3).trans rfl, (blk_cell BK159.out 4).trans rfl, (blk_cell BK159.out 5).trans rfl, (blk_cell BK159.out 6).trans rfl, (blk_cell BK159.out 7).trans rfl, (blk_cell BK159.out 8).trans rfl⟩ (fun hHeld => ?_)
               clear hK K
               refine norm_ (a' := ?_) ?_ ?_
               rotate_left
               · show Act.put _ (some 31) _ = _
                 simp only [Act.put, List.setIfInBounds_toArray, List.set_cons_zero, List.set_cons_succ, i64_w, i32_w]
                 rfl
               exact norm_ (by first | (simp only [putAll, Act.put, List.setIfInBounds_toArray, List.set_cons_zero, List.set_cons_succ]; done) | (simp only [putAll, Act.put, List.setIfInBounds_toArray, List.set_cons_zero, List.set_cons_succ]; rfl)) (hJ11_12_16_22 (v164) _ ⟨hHeld, (by (with_reducible repeat (first | apply Kd.R_alloc | apply Kd.R_drewN | apply Kd.R_drew)); exact HO165.out), (by (with_reducible repeat (first | refine blk_drewN ?_ _ | refine blk_drew ?_ | refine blk_alloc ?_ _)); exact BK159.out), (by repeat (first | (with_reducible first | exact HB.out | apply below_alloc | apply pw_below_drewN | apply below_drew1 | refine below_set ?_ GE159.out) | exact HB.out))⟩)
           rintro v164 w24 ⟨hS_, h0_, h1_, h2_⟩
           have n0_ : Aside0 (Kd.R (Kd.int .u8) 5 w24 w.heap.size (fun _ => True) v164 y163) := ⟨h0_⟩
           have n1_ : Aside0 (w24.heap[gb159]? = some (.cells #[.int .i64 a0_0, .int .i64 a0_1, .int .i64 a0_2, .int .i64 a0_3, .int .i64 a0_4, .int .i64 a0_5, .int .i64 a0_6, .int .i64 a0_7, .int .i64 a0_8] 27 (0, 0))) := ⟨h1_⟩
           have n2_ : Aside0 (Below w.heap.size w w24) := ⟨h2_⟩
           clear BK159
           clear HB
           clear h0_ h1_ h2_
           have HO165 := n0_
           have BK159 := n1_
           have HB := n2_
           clear n0_ n1_ n2_
           have hHeld : w24.cell? ⟨gb159, 0, none⟩ = some (.int .i64 a0_0) ∧ w24.cell? ⟨gb159, 1, none⟩ = some (.int .i64 a0_1) ∧ w24.cell? ⟨gb159, 2, none⟩ = some (.int .i64 a0_2) ∧ w24.cell? ⟨gb159, 3, none⟩ = some (.int .i64 a0_3) ∧ w24.cell? ⟨gb159, 4, none⟩ = some (.int .i64 a0_4) ∧ w24.cell? ⟨gb159, 5, none⟩ = some (.int .i64 a0_5) ∧ w24.cell? ⟨gb159, 6, none⟩ = some (.int .i64 a0_6) ∧ w24.cell? ⟨gb159, 7, none⟩ = some (.int .i64 a0_7) ∧ w24.cell? ⟨gb159, 8, none⟩ = some (.int .i64 a0_8) := hS_
           refine norm_ (a' := ?_) ?_ ?_
           rotate_left
           · simp only [putAll, Act.put, List.setIfInBounds_toArray, List.set_cons_zero, List.set_cons_succ]
             rfl
           refine pure_ (i := 23) (N := some 32) (v := ?_) (a' := ?_) (mS 25 16777215) rfl rfl (any_of HT_.out (by kernel_rfl)) (fun _ _ _ h => h) (Or.inl ⟨by rfl, ?_⟩) ?_ ?_
           rotate_left
           · intro w'
             go_simp
             with_reducible rfl
           rotate_left
           · simp only [Act.put, List.setIfInBounds_toArray, List.set_cons_zero, List.set_cons_succ, i64_w, i32_w]
             rfl
           refine pure_ (i := 24) (N := some 5) (v := ?_) (a' := ?_) (mS 25 33554431) rfl rfl (any_of HT_.out (by kernel_rfl)) (fun _ _ _ h => h) (Or.inl ⟨by rfl, ?_⟩) ?_ ?_
           rotate_left
           · intro w'
             go_simp
             with_reducible rfl
           rotate_left
           · simp only [Act.put, List.setIfInBounds_toArray, List.set_cons_zero, List.set_cons_succ, i64_w, i32_w]
             rfl
           refine done_ (done_of HT_.out (by kernel_rfl)) ?_
           try go_wp2_with (first | ((with_reducible refine gate_callee (f := 43) rfl ?_); refine goesL_ (some 35) rfl rfl Try.func43 (by kernel_rfl) rfl #[.string ((((strOfNums y163) ++ t166) ++ (⟨#[0]⟩ : ByteArray)) ++ t167)] rfl (by (try simp only [List.map_toArray, List.map_cons, List.map_nil]); first | done | rfl | (simp only [List.length_drop, List.length_take]; rfl)) ?_; (with_reducible refine (subchannel_check.calls ((((strOfNums y163) ++ t166) ++ (⟨#[0]⟩ : ByteArray)) ++ t167) t168 _ A11.out).mono ?_); rintro e w25 ⟨rfl, hb⟩; refine ⟨_, rfl, ?_⟩; have n0_ := Aside0.mk (Kd.R_below (by (with_reducible repeat (first | apply Kd.R_alloc | apply Kd.R_drewN | apply Kd.R_drew)); exact HO165.out) hb); have n1_ := Aside0.mk (blk_below (g := gb159) (o := .cells #[.int .i64 a0_0, .int .i64 a0_1, .int .i64 a0_2, .int .i64 a0_3, .int .i64 a0_4, .int .i64 a0_5, .int .i64 a0_6, .int .i64 a0_7, .int .i64 a0_8] 27 (0, 0)) (by (with_reducible repeat (first | refine blk_drewN ?_ _ | refine blk_drew ?_ | refine blk_alloc ?_ _)); exact BK159.out) hb); have n2_ := Aside0.mk (below_step (by repeat (first | (with_reducible first | exact HB.out | apply below_alloc | apply pw_below_drewN | apply below_drew1 | refine below_set ?_ GE159.out) | exact HB.out)) hb); clear HO165; clear BK159; clear HB; have HO165 := n0_; have BK159 := n1_; have HB := n2_; clear n0_ n1_ n2_; (try clear hb); (try clear hb2); (try clear hk); (try clear hi)))
           go_ret2
           exact ⟨by first | rfl | (simp [errW_none, errW_some] <;> rfl) | (simp [*, errW_none, errW_some] <;> rfl), by repeat (first | (with_reducible first | exact HB.out | apply below_alloc | apply pw_below_drewN | apply below_drew1 | refine below_set ?_ GE159.out) | exact HB.out)⟩
         · rw [if_neg c12] at H
           exact absurd H (by simp)
       · rw [if_neg c10] at H
         exact absurd H (by simp)
     · rw [if_neg c8] at H
       exact absurd H (by simp)
   · rw [if_neg c7] at H
     exact absurd H (by simp)
 · replace c3 := Bool.eq_false_iff.mpr c3
   subst c3
   have H1 : (some ((⟨#[]⟩ : ByteArray), 1)) = some (r1, r2) := by rw [if_neg (show ¬ (false = true) by decide)] at H; exact H
   clear H
   have H := H1
   clear H1
   simp only [Option.some.injEq, Prod.mk.injEq] at H
   obtain ⟨rfl, rfl⟩ := H
   go_enter Try.func18, Try.ntmps18
   go_wp2_with (first | ((with_reducible refine gate_dst (N := 1) rfl ?_); refine box_event ?hg (N := 1) ?hd (cs := #[.int .i64 a0_0, .int .i64 a0_1, .int .i64 a0_2, .int .i64 a0_3, .int .i64 a0_4, .int .i64 a0_5, .int .i64 a0_6, .int .i64 a0_7, .int .i64 a0_8]) (t := 27) ?hr ?_; (case hd => rfl); (case hg => rfl); (case hr => first | (go_simp; done) | (go_simp; rfl)); intro gb159 hg w26 hbox hb; have n0_ := Aside0.mk (below_step (by repeat (first | (with_reducible first | exact HB.out | apply below_alloc | apply pw_below_drewN | apply below_drew1) | exact HB.out)) hb); have n1_ := Aside0.mk (hbox); have n2_ := Aside0.mk ((by rw [hg]; exact (below_size (by repeat (first | (with_reducible first | exact HB.out | apply below_alloc | apply pw_below_drewN | apply below_drew1) | exact HB.out))) : w.heap.size ≤ gb159)); have n3_ := Aside0.mk ((by rw [hg]; exact (below_size (by repeat (first | (with_reducible first | exact HB.out | apply below_alloc | apply pw_below_drewN | apply below_drew1) | exact HB.out))) : w.heap.size ≤ gb159)); clear HB; have HB := n0_; have BK159 := n1_; have GW159 := n2_; have GE159 := n3_; clear n0_ n1_ n2_ n3_; clear hb hbox hg; have hcz27_0 : w26.cell? ⟨gb159, 0, none⟩ = some (.int .i64 a0_0) := (blk_cell BK159.out 0).trans rfl; have hcz27_1 : w26.cell? ⟨gb159, 1, none⟩ = some (.int .i64 a0_1) := (blk_cell BK159.out 1).trans rfl; have hcz27_2 : w26.cell? ⟨gb159, 2, none⟩ = some (.int .i64 a0_2) := (blk_cell BK159.out 2).trans rfl; have hcz27_3 : w26.cell? ⟨gb159, 3, none⟩ = some (.int .i64 a0_3) := (blk_cell BK159.out 3).trans rfl; have hcz27_4 : w26.cell? ⟨gb159, 4, none⟩ = some (.int .i64 a0_4) := (blk_cell BK159.out 4).trans rfl; have hcz27_5 : w26.cell? ⟨gb159, 5, none⟩ = some (.int .i64 a0_5) := (blk_cell BK159.out 5).trans rfl; have hcz27_6 : w26.cell? ⟨gb159, 6, none⟩ = some (.int .i64 a0_6) := (blk_cell BK159.out 6).trans rfl; have hcz27_7 : w26.cell? ⟨gb159, 7, none⟩ = some (.int .i64 a0_7) := (blk_cell BK159.out 7).trans rfl; have hcz27_8 : w26.cell? ⟨gb159, 8, none⟩ = some (.int .i64 a0_8) := (blk_cell BK159.out 8).trans rfl; have hfz27_0 := blk_frozen BK159.out 0; have hfz27_1 := blk_frozen BK159.out 1; have hfz27_2 := blk_frozen BK159.out 2; have hfz27_3 := blk_frozen BK159.out 3; have hfz27_4 := blk_frozen BK159.out 4; have hfz27_5 := blk_frozen BK159.out 5; have hfz27_6 := blk_frozen BK159.out 6; have hfz27_7 := blk_frozen BK159.out 7; have hfz27_8 := blk_frozen BK159.out 8) | ((with_reducible refine gate_callee (f := 39) rfl ?_); refine goesL_ (some 7) rfl rfl Try.func39 (by kernel_rfl) rfl #[.agg #[.int .i64 a0_0, .int .i64 a0_1, .int .i64 a0_2, .int .i64 a0_3, .int .i64 a0_4, .int .i64 a0_5, .int .i64 a0_6, .int .i64 a0_7, .int .i64 a0_8]] rfl (by (try simp only [List.map_toArray, List.map_cons, List.map_nil]); first | done | rfl | (simp only [List.length_drop, List.length_take]; rfl)) ?_; (with_reducible refine (subchannel_valid.calls a0_0 a0_1 a0_2 a0_3 a0_4 a0_5 a0_6 a0_7 a0_8 false _ A2.out).mono ?_); rintro e w28 ⟨rfl, hb⟩; refine ⟨_, rfl, ?_⟩; have n0_ := Aside0.mk (blk_below (g := gb159) (o := .cells #[.int .i64 a0_0, .int .i64 a0_1, .int .i64 a0_2, .int .i64 a0_3, .int .i64 a0_4, .int .i64 a0_5, .int .i64 a0_6, .int .i64 a0_7, .int .i64 a0_8] 27 (0, 0)) (by (with_reducible repeat (first | refine blk_drewN ?_ _ | refine blk_drew ?_ | refine blk_alloc ?_ _)); exact BK159.out) hb); have n1_ := Aside0.mk (below_step (by repeat (first | (with_reducible first | exact HB.out | apply below_alloc | apply pw_below_drewN | apply below_drew1 | refine below_set ?_ GE159.out) | exact HB.out)) hb); clear BK159; clear HB; have BK159 := n0_; have HB := n1_; clear n0_ n1_; (try clear hb); (try clear hb2); (try clear hk); (try clear hi)))
   go_ret2
   exact ⟨by first | rfl | (simp [errW_none, errW_some] <;> rfl) | (simp [*, errW_none, errW_some] <;> rfl), by repeat (first | (with_reducible first | exact HB.out | apply below_alloc | apply pw_below_drewN | apply below_drew1 | refine below_set ?_ GE159.out) | exact HB.out)⟩
end Go.Proofs.Ytpmkibggmkibeaa.G
namespace Go.Proofs.Ytpmkibggmkibeaa.G
open Go.RowKit Go.Proofs.YtpmkibggmkibeaaW.PrintWords Go.Proofs.YtpmkibggmkibeaaW.PrintLast Go.Proofs.YtpmkibggmkibeaaW.PrintMore
set_option linter.unusedVariables false
theorem msf_ranges {n : Int} (h0 : -150 ≤ n) (h1 : n ≤ 449849) : 0 ≤ msfM n ∧ msfM n ≤ 99 ∧ 0 ≤ msfS n ∧ msfS n ≤ 59 ∧ 0 ≤ msfF n ∧ msfF n ≤ 74 := by
 unfold msfM msfS msfF; omega
theorem msf_valid {n : Int} (h0 : -150 ≤ n) (h1 : n ≤ 449849) : address_Valid.f (msfM n) (msfS n) (msfF n) = some true := by
 have := msf_ranges h0 h1
 unfold address_Valid.f msfB
 rw [decide_eq_true (by omega)]
theorem msf_num {n : Int} : (60 * msfM n + msfS n) * 75 + msfF n = n + 150 := by
 unfold msfM msfS msfF; omega
theorem number_any {m s f : Int} (h0 : 0 ≤ m) (h1 : m ≤ 99) (h2 : 0 ≤ s) (h3 : s ≤ 59) (h4 : 0 ≤ f) (h5 : f ≤ 74) : address_number.f m s f = some ((60 * m + s) * 75 + f) := by
 unfold address_number.f
 have e1 : wrap64 (60 * m) = 60 * m := by unfold wrap64; omega
 rw [e1]
 have e2 : wrap64 (60 * m + s) = 60 * m + s := by unfold wrap64; omega
 rw [e2]
 have e3 : wrap64 ((60 * m + s) * 75) = (60 * m + s) * 75 := by unfold wrap64; omega
 rw [e3]
 have e4 : wrap64 ((60 * m + s) * 75 + f) = (60 * m + s) * 75 + f := by unfold wrap64; omega
 rw [e4]
theorem number_plain {n : Int} (h0 : -150 ≤ n) (h1 : n ≤ 449849) : address_number.f (msfM n) (msfS n) (msfF n) = some (n + 150) := by
 have h := msf_ranges h0 h1
 rw [number_any h.1 h.2.1 h.2.2.1 h.2.2.2.1 h.2.2.2.2.1 h.2.2.2.2.2, msf_num]
theorem toLBA_msf {n : Int} (h0 : -150 ≤ n) (h1 : n ≤ 449849) : address_ToLBA.f (msfM n) (msfS n) (msfF n) = some (n, 0) := by
 unfold address_ToLBA.f
 rw [msf_valid h0 h1]
 simp only [Option.bind_some]
 rw [if_pos trivial, number_plain h0 h1]
 simp only [Option.bind_some]
 rw [show wrap64 (n + 150 - 150) = n by unfold wrap64; omega]
theorem distance_msf {a b : Int} (h0 : -150 ≤ a) (h1 : a ≤ 449849) (h2 : -150 ≤ b) (h3 : b ≤ 449849) (k : Nat) : address_Distance.f (k + 1) (msfM a) (msfS a) (msfF a) (msfM b) (msfS b) (msfF b) = some (b - a, 0) := by
 unfold address_Distance.f
 rw [msf_valid h0 h1]
 simp only [Option.bind_some]
 rw [if_pos trivial, msf_valid h2 h3]
 simp only [Option.bind_some, Bool.not_true]
 simp only [address_Distance.j0]
 rw [if_neg (by decide), number_plain h2 h3, number_plain h0 h1]
 simp only [Option.bind_some]
 rw [show wrap64 (b + 150 - (a + 150)) = b - a by unfold wrap64; omega]
theorem msf_zero : msfM (-150) = 0 ∧ msfS (-150) = 0 ∧ msfF (-150) = 0 := by decide
theorem size_strOfNums (l : List Int) : (strOfNums l).size = l.length := by
 show (List.map (fun n => UInt8.ofNat n.toNat) l).toArray.size = l.length
 simp
theorem bcd_some (n : Int) : ∃ b e, endian_BCD.f n = some (b, e) := by
 unfold endian_BCD.f
 repeat' split
 all_goals exact ⟨_, _, rfl⟩
theorem number_some {n : Int} (h0 : 0 ≤ n) (h1 : n < 200) : ∃ b, subchannel_number.f n = some b := by
 unfold subchannel_number.f
 rw [if_pos ⟨h0, h1⟩]
 split
 · exact ⟨_, rfl⟩
 · obtain ⟨b, e, h⟩ := bcd_some n
   exact ⟨b, by rw [h]; rfl⟩
theorem enc1_some (n : Int) : ∃ s, address_Encode_1.f n = some s ∧ s.size = 1 := by
 unfold address_Encode_1.f
 obtain ⟨b, e, h⟩ := bcd_some n
 exact ⟨_, by rw [h]; rfl, size_strOfNums _⟩
theorem accK_size {r0 r1 r2 : ByteArray} (z0 : r0.size = 1) (z1 : r1.size = 1) (z2 : r2.size = 1) : (⟨(accK r0 r1 r2 3).toArray⟩ : ByteArray).size = 3 := by
 have e0 : r0.data.toList.length = r0.size := Array.length_toList
 have e1 : r1.data.toList.length = r1.size := Array.length_toList
 have e2 : r2.data.toList.length = r2.size := Array.length_toList
 show (accK r0 r1 r2 3).toArray.size = 3
 rw [List.size_toArray]
 show (r0.data.toList ++ r1.data.toList ++ r2.data.toList).length = 3
 simp only [List.length_append]
 omega
theorem encode1_some {m s f : Int} (h : address_Valid.f m s f = some true) : ∃ r, subchannel_Encode_1.f m s f = some r ∧ r.size = 3 := by
 have hb : msfB m s f = true := Option.some.inj h
 obtain ⟨r0, h0, z0⟩ := enc1_some m
 obtain ⟨r1, h1, z1⟩ := enc1_some s
 obtain ⟨r2, h2, z2⟩ := enc1_some f
 refine ⟨_, ?_, accK_size z0 z1 z2⟩
 unfold subchannel_Encode_1.f address_Encode.f
 rw [if_pos hb, h0, h1, h2]
 simp only [Option.bind_some]
 rw [if_pos (by omega)]
 rfl
theorem check_some {s : ByteArray} (h : s.size ≤ 140737488351232) : ∃ r, subchannel_check.f s = some r ∧ r.size = 2 := by
 unfold subchannel_check.f checksum_CRC16.f checksum_ExtendCRC16.f checksum_CRCBytes.f
 rw [if_pos ⟨by decide, by decide, h⟩]
 exact ⟨_, rfl, size_strOfNums _⟩
theorem encode_ok {c t p m1 s1 f1 m2 s2 f2 : Int} (ht : 0 ≤ t) (ht2 : t < 200) (hp : 0 ≤ p) (hp2 : p < 200) (hv : subchannel_valid.f c t p m1 s1 f1 m2 s2 f2 = some true) (h1 : address_Valid.f m1 s1 f1 = some true) (h2 : address_Valid.f m2 s2 f2 = some true) :
 ∃ s, subchannel_Encode.f c t p m1 s1 f1 m2 s2 f2 = some (s, 0) ∧ s.size = 12 := by
 obtain ⟨b1, e1⟩ := number_some ht ht2
 obtain ⟨b2, e2⟩ := number_some hp hp2
 obtain ⟨r1, e3, z3⟩ := encode1_some h1
 obtain ⟨r2, e4, z4⟩ := encode1_some h2
 unfold subchannel_Encode.f
 rw [hv]
 simp only [Option.bind_some]
 rw [if_pos trivial, e1, e2, e3, e4]
 simp only [Option.bind_some]
 generalize hy : strOfNums [(Go.bits .or .i64 (wrap64 (c * 16)) 1) % 256, b1, b2] = y
 have zy : y.size = 3 := by rw [← hy, size_strOfNums]; rfl
 have hz : (y ++ r1 ++ (⟨#[0]⟩ : ByteArray) ++ r2).size = 10 := by
  simp only [ByteArray.size_append, zy, z3, z4]; rfl
 obtain ⟨ck, e5, z5⟩ := check_some (s := y ++ r1 ++ (⟨#[0]⟩ : ByteArray) ++ r2) (by omega)
 rw [if_pos (by omega), if_pos (by simp only [ByteArray.size_append]; omega), if_pos (by simp only [ByteArray.size_append, zy, z3, z4]; decide), e5]
 simp only [Option.bind_some]
 rw [if_pos (by omega)]
 exact ⟨_, rfl, by rw [ByteArray.size_append]; omega⟩
theorem valid_track {c t p m1 s1 f1 m2 s2 f2 : Int} (hc0 : 0 ≤ c) (hc : c ≤ 15) (ht : 0 ≤ t ∧ t ≤ 99 ∨ t = 170) (hp0 : 0 ≤ p) (hp : p ≤ 99) (h1 : address_Valid.f m1 s1 f1 = some true) (h2 : address_Valid.f m2 s2 f2 = some true) :
 subchannel_valid.f c t p m1 s1 f1 m2 s2 f2 = some true := by
 unfold subchannel_valid.f
 rw [between_dec c, decide_eq_true ⟨hc0, hc⟩]
 simp only [Option.bind_some]
 rw [if_pos trivial, between_dec t]
 simp only [Option.bind_some]
 rw [between_dec p 0 99, decide_eq_true (p := 0 ≤ p ∧ p ≤ 99) ⟨hp0, hp⟩, h1, h2]
 simp only [Option.bind_some, if_true]
 rcases ht with ht | ht
 · rw [decide_eq_true ht, if_pos rfl]
 · rw [decide_eq_false (by omega), if_neg (by decide), if_pos ht]
end Go.Proofs.Ytpmkibggmkibeaa.G
namespace Go.Proofs.Ytpmkibggmkibeaa.G
open Go.RowKit Go.Proofs.YtpmkibggmkibeaaW.PrintWords Go.Proofs.YtpmkibggmkibeaaW.PrintLast Go.Proofs.YtpmkibggmkibeaaW.PrintMore
set_option linter.unusedVariables false
def frameQ (c p m s f : Int) : S27 := ⟨c, 0, p, ⟨0, 0, 0⟩, ⟨m, s, f⟩⟩
set_option maxHeartbeats 400000 in
set_option maxRecDepth 100000 in
theorem entries1 (p m s f c : Int) (Bo Bc : Nat) (v : Value) (l : List (S27)) (w0 w : World)
 (ho : w.heap[Bo]? = some (.cells #[v] 31 (0, 0))) (hc : w.heap[Bc]? = some (.cells #[.int .i64 c] 3 (0, 0)))
 (hr : Kd.R k27 27 w w0.heap.size (fun _ => True) v l) (hb : Below w0.heap.size w0 w) (hB : w0.heap.size ≤ Bo) (hl : l.length < 200) :
 Calls Try.prog 36 #[.int .i64 p, .agg #[.int .i64 m, .int .i64 s, .int .i64 f], .pointer (some ⟨Bo, 0, none⟩), .pointer (some ⟨Bc, 0, none⟩)] w fun e w' => e = .returned (.tuple #[]) ∧
  ∃ v', w'.heap[Bo]? = some (.cells #[v'] 31 (0, 0)) ∧ Kd.R k27 27 w' w0.heap.size (fun _ => True) v' (l ++ [frameQ c p m s f]) ∧ Below w0.heap.size w0 w' ∧
   ∀ (k : Nat) (cs : Array Value) (t : TypeId), 27 ≠ t → k ≠ Bo → w.heap[k]? = some (.cells cs t (0, 0)) → w'.heap[k]? = some (.cells cs t (0, 0)) := by
 have hu := Try.underlying25
 have hu2 := Try.underlying27
 have ho1 := blk_alloc ho (.cells #[.int .i64 m, .int .i64 s, .int .i64 f] 25)
 have hc1 := blk_alloc hc (.cells #[.int .i64 m, .int .i64 s, .int .i64 f] 25)
 have k0 : (w.alloc (.cells #[.int .i64 m, .int .i64 s, .int .i64 f] 25)).cell? ⟨Bo, 0, none⟩ = some v := (blk_cell ho1 0).trans rfl
 have k1 : (w.alloc (.cells #[.int .i64 m, .int .i64 s, .int .i64 f] 25)).cell? ⟨Bc, 0, none⟩ = some (.int .i64 c) := (blk_cell hc1 0).trans rfl
 have HR := Aside0.mk (Kd.R_alloc hr (.cells #[.int .i64 m, .int .i64 s, .int .i64 f] 25))
 have HO := Aside0.mk ho1
 have HB := Aside0.mk (Below.alloc hb hb.size (.cells #[.int .i64 m, .int .i64 s, .int .i64 f] 25))
 have HGE := Aside0.mk hB
 have HL := Aside0.mk hl
 have HOO := Aside0.mk (fun (k : Nat) (cs : Array Value) (t : TypeId) (hk : w.heap[k]? = some (.cells cs t (0, 0))) => blk_alloc hk (.cells #[.int .i64 m, .int .i64 s, .int .i64 f] 25))
 have hP : Kd.M k27 (w.alloc (.cells #[.int .i64 m, .int .i64 s, .int .i64 f] 25)) w0.heap.size (fun _ => False) (frameQ c p m s f) [.int .i64 c, .int .i64 0, .int .i64 p, .int .i64 0, .int .i64 0, .int .i64 0, .int .i64 m, .int .i64 s, .int .i64 f] := k27_mkM _ _ _ (frameQ c p m s f)
 have HP := Aside0.mk hP
 obtain ⟨q, hq⟩ : ∃ q, q = frameQ c p m s f := ⟨_, rfl⟩
 rw [← hq] at HP ⊢
 clear ho1 hc1 hr ho hc hb hB hl hP hq
 go_enter Try.func36, Try.ntmps36
 go_wp2_with (first | (at_builtin; refine Kd.R_append k27 (w0 := w0) w0.heap.size rfl (.tmp 6) (.tmp 11) 31 27 (.agg #[.int .i64 0, .int .i64 0, .int .i64 0, .int .i64 0, .int .i64 0, .int .i64 0, .int .i64 0, .int .i64 0, .int .i64 0]) 72 rfl Try.underlying31 info27 rfl (by decide) (by omega) v l q [.int .i64 c, .int .i64 0, .int .i64 p, .int .i64 0, .int .i64 0, .int .i64 0, .int .i64 m, .int .i64 s, .int .i64 f] (fun _ => True) (fun _ => False) rfl (show Value.slice (some ⟨w.heap.size + 1, 0, none⟩) 1 1 = _ from by simp) HP.out (fun _ hk => hk.elim) (fun _ _ => trivial) HR.out HB.out HB.out.size (by have := HL.out; omega) ?_; intro v1 w1 ho1 hb1 hg1 hat1; obtain ⟨A1, c1, rfl⟩ := Kd.R_slice ho1; rw [show (l ++ [q]).length = l.length + 1 by simp] at ho1; have HO1 := Aside0.mk (blk_grown HO.out hg1 (Kd.R_ne HR.out HO.out (by decide))); have k2 := blk_cell HO1.out 0; have k3 := blk_frozen HO1.out 0; have HG1 := Aside0.mk hg1; have HR1 := Aside0.mk ho1; have HB1 := Aside0.mk hb1; clear ho1 hb1 hg1 hat1 k0 k1))
 go_end0
 refine ⟨rfl, _, blk_put HO1.out 0 _ rfl, Kd.R_set HR1.out HO1.out (by decide) 0 _, HB1.out.setCell HGE.out _, fun k cs t hne hk h => ?_⟩
 have h2 := HOO.out k cs t h
 exact blk_far (blk_grown h2 HG1.out (Kd.R_ne HR.out h2 hne)) hk _
def entL (l : List (S53)) (c : Int) (n : Nat) : List (S27) :=
 [frameQ c 160 (rd_T53 l 0).f0 0 0, frameQ c 161 (rd_T53 l ((l.length : Int) - 1)).f0 0 0,
  frameQ c 162 (msfM ((rd_T53 l ((l.length : Int) - 1)).f2 + (rd_T53 l ((l.length : Int) - 1)).f3)) (msfS ((rd_T53 l ((l.length : Int) - 1)).f2 + (rd_T53 l ((l.length : Int) - 1)).f3)) (msfF ((rd_T53 l ((l.length : Int) - 1)).f2 + (rd_T53 l ((l.length : Int) - 1)).f3))] ++
 (List.range n).map fun (i : Nat) => frameQ c (rd_T53 l (i : Int)).f0 (msfM (rd_T53 l (i : Int)).f2) (msfS (rd_T53 l (i : Int)).f2) (msfF (rd_T53 l (i : Int)).f2)
theorem entL_succ (l : List (S53)) (c : Int) (n : Nat) : entL l c (n + 1) = entL l c n ++ [frameQ c (rd_T53 l (n : Int)).f0 (msfM (rd_T53 l (n : Int)).f2) (msfS (rd_T53 l (n : Int)).f2) (msfF (rd_T53 l (n : Int)).f2)] := by
 simp [entL, List.range_succ]
theorem entL_length (l : List (S53)) (c : Int) (n : Nat) : (entL l c n).length = n + 3 := by simp [entL]
def subchannel_Entries.f (l : List (S53)) (a1 : Int) : Option (List (S27) × Int) := if sesB l = true ∧ 0 ≤ a1 ∧ a1 ≤ 15 then some (entL l a1 l.length, 0) else some ([], 1)
set_option maxHeartbeats 400000 in
set_option maxRecDepth 100000 in
theorem entries_no (A : Option Addr) (cp : Nat) (l : List (S53)) (a1 : Int) (w : World) (hr : Kd.C k53 w A l.length l) (hc : l.length ≤ cp) (h : ¬ (sesB l = true ∧ 0 ≤ a1 ∧ a1 ≤ 15)) :
 Calls Try.prog 13 #[.slice A l.length cp, .int .i64 a1] w fun e w' => e = .returned (.tuple #[.slice none 0 0, .int .i64 1]) ∧ Below w.heap.size w w' := by
 have HR := Aside0.mk (Kd.C_alloc hr (.cells #[.int .i64 a1] 3))
 have HC := Aside0.mk hc
 have HB0 := Aside0.mk (below_one w (.cells #[.int .i64 a1] 3))
 have hbk := blk_new w (.cells #[.int .i64 a1] 3)
 have HBK := Aside0.mk hbk
 clear hbk
 cases hs : sesB l with
 | false =>
  have HS := fun W h1 => Aside0.mk (session_any A cp l W h1 hc)
  rw [hs] at HS
  clear hr hc h hs
  go_enter Try.func13, Try.ntmps13
  go_wp2_with (fail)
  refine (HS _ HR.out).out.mono ?_
  rintro e w2 ⟨rfl, hb2⟩
  have HB2 := Aside0.mk (below_step HB0.out hb2)
  clear hb2
  go_wp2_with (fail)
  go_ret2
  exact ⟨rfl, HB2.out⟩
 | true =>
  have hn : ¬ (0 ≤ a1 ∧ a1 ≤ 15) := fun h2 => h ⟨hs, h2⟩
  have HS := fun W h1 => Aside0.mk (session_any A cp l W h1 hc)
  rw [hs] at HS
  have HT := fun W => Aside0.mk (subchannel_between.calls a1 0 15 false W (between_no hn))
  clear hr hc h hs hn
  go_enter Try.func13, Try.ntmps13
  go_wp2_with (fail)
  refine (HS _ HR.out).out.mono ?_
  rintro e w2 ⟨rfl, hb2⟩
  have HB2 := Aside0.mk (below_step HB0.out hb2)
  have hk := blk_below HBK.out hb2
  have k0 : w2.cell? ⟨w.heap.size, 0, none⟩ = some (.int .i64 a1) := (blk_cell hk 0).trans rfl
  clear hb2 hk
  go_wp2_with (fail)
  refine (HT _).out.mono ?_
  rintro e w3 ⟨rfl, hd⟩
  have HB3 := Aside0.mk (below_step HB2.out hd.below)
  clear hd k0
  go_wp2_with (fail)
  go_ret2
  exact ⟨rfl, HB3.out⟩
set_option maxHeartbeats 1000000 in
set_option maxRecDepth 100000 in
theorem entries_yes (A : Option Addr) (cp : Nat) (l : List (S53)) (a1 : Int) (w : World) (hr : Kd.C k53 w A l.length l) (hc : l.length ≤ cp) (hs : sesB l = true) (h0 : 0 ≤ a1) (h15 : a1 ≤ 15) :
 Calls Try.prog 13 #[.slice A l.length cp, .int .i64 a1] w fun e w' => ∃ v, e = .returned (.tuple #[v, .int .i64 0]) ∧ Kd.R k27 27 w' w.heap.size (fun _ => True) v (entL l a1 l.length) ∧ Below w.heap.size w w' := by
 have hmf : ∀ (fn : Fn) (first cap : Array Value) (w : World), (Instr.makeFunc fn first cap).run Try.prog w = .ok (.func fn first cap) w := fun _ _ _ _ => rfl
 have hses := ses_of hs
 have hl1 : 1 ≤ l.length := hses.one
 have hl9 : l.length ≤ 99 := hses.most
 have HSES := Aside0.mk hses
 have HR0 := Aside0.mk hr
 have HR := Aside0.mk (Kd.C_alloc hr (.cells #[.int .i64 a1] 3))
 have HB0 := Aside0.mk (below_one w (.cells #[.int .i64 a1] 3))
 have HBK := Aside0.mk (blk_new w (.cells #[.int .i64 a1] 3))
 have HS := fun W h1 => Aside0.mk (session_any A cp l W h1 hc)
 rw [hs] at HS
 have HT := fun W => Aside0.mk (subchannel_between.calls a1 0 15 true W (between_yes h0 h15))
 clear hr hc hs hses
 go_enter Try.func13, Try.ntmps13
 go_wp2_with (fail)
 refine (HS _ HR.out).out.mono ?_
 rintro e w2 ⟨rfl, hb2⟩
 have HR2 := Aside0.mk (Kd.C_below HR.out hb2)
 have HB2 := Aside0.mk (below_step HB0.out hb2)
 have hk := blk_below HBK.out hb2
 have HK2 := Aside0.mk hk
 have k0 : w2.cell? ⟨w.heap.size, 0, none⟩ = some (.int .i64 a1) := (blk_cell hk 0).trans rfl
 clear hb2 hk HR HB0 HBK HS
 go_wp2_with (fail)
 refine (HT _).out.mono ?_
 rintro e w3 ⟨rfl, hd⟩
 have HR3 := Aside0.mk (Kd.C_below HR2.out hd.below)
 have HB3 := Aside0.mk (below_step HB2.out hd.below)
 have HK3 := Aside0.mk (blk_below HK2.out hd.below)
 clear hd k0 HR2 HB2 HK2 HT
 have hz1 : (1 : Int) ≤ (l.length : Int) := by omega
 have hz2 : 0 ≤ (l.length : Int) - 1 := by omega
 have hz3 : (l.length : Int) - 1 < (l.length : Int) := by omega
 have hz4 : ((l.length : Int) - 1).toNat = l.length - 1 := by omega
 have hz5 : (0 : Int) < (l.length : Int) := by omega
 obtain ⟨ad, rfl, hx0, hx1, hx2, hx3, hx4, hx5, hx6⟩ := at_T53 HR3.out ((l.length : Int) - 1) hz2 hz3
 obtain ⟨ad2, hA, hy0, -⟩ := at_T53 HR3.out 0 (by omega) hz5
 cases hA
 rw [hz4] at hx0 hx1 hx2 hx3 hx4 hx5 hx6
 obtain ⟨x, hx⟩ : ∃ x, x = rd_T53 l ((l.length : Int) - 1) := ⟨_, rfl⟩
 obtain ⟨y, hy⟩ : ∃ y, y = (rd_T53 l 0).f0 := ⟨_, rfl⟩
 rw [← hx] at hx0 hx1 hx2 hx3 hx4 hx5 hx6
 rw [← hy] at hy0
 obtain ⟨x0, x1, x2, x3, x4, x5, x6⟩ := x
 dsimp only at hx0 hx1 hx2 hx3 hx4 hx5 hx6
 have e0 : ad.add (Int.toNat 0 * 7) = ad := by
  show ad.add 0 = ad
  unfold Addr.add
  split <;> simp_all
 rw [e0] at hy0
 clear e0
 have hy0' : ∀ o1 o2, ((w3.alloc o1).alloc o2).cell? ad = some (.int .i64 y) := fun o1 o2 => by
  have h1 : (w3.alloc o1).cell? ad = some (.int .i64 y) := cell_below_ hy0 (below_one _ _)
  exact cell_below_ h1 (below_one _ _)
 have HX := Aside0.mk hx
 have HY := Aside0.mk hy
 clear hx hy hy0
 go_wp2_with (fail)
 generalize hw4 : (w3.alloc _).alloc _ = w4
 obtain ⟨hb1, hb2, hB4⟩ := two_new hw4
 obtain ⟨gl, hgl⟩ : ∃ g, w3.heap.size = g := ⟨_, rfl⟩
 obtain ⟨go, hgo⟩ : ∃ g, gl + 1 = g := ⟨_, rfl⟩
 rw [hgl] at hb1 hb2 ⊢
 rw [hgo] at hb2 ⊢
 have hge : w.heap.size ≤ go := by have := HB3.out.size; omega
 have hne1 : w.heap.size ≠ go := by
  have := blk_lt HK3.out; omega
 have hne2 : gl ≠ go := by omega
 have HGE := Aside0.mk hge
 have HNE1 := Aside0.mk hne1
 have HNE2 := Aside0.mk hne2
 have HB4 := Aside0.mk (below_step HB3.out hB4)
 have HK4 := Aside0.mk (blk_below HK3.out hB4)
 have HL4 := Aside0.mk hb1
 have HO4 := Aside0.mk hb2
 have HR4 := Aside0.mk (Kd.C_below HR3.out hB4)
 clear hb1 hb2 hB4 hw4 hgl hgo hge hne1 hne2 HB3 HK3 HR3 hy0' hx0 hx1 hx2 hx3 hx4 hx5 hx6
 refine (entries1 160 y 0 0 a1 go w.heap.size (.slice none 0 0) [] w w4 HO4.out HK4.out (Kd.R_nil _ _ _ _ _) HB4.out HGE.out (by simp)).mono ?_
 rintro e w5 ⟨rfl, v5, ho5, hr5, hb5, hk5⟩
 have HK5 := Aside0.mk (hk5 _ _ _ (by decide) HNE1.out HK4.out)
 have hl5 := hk5 _ _ _ (by decide) HNE2.out HL4.out
 have HO5 := Aside0.mk ho5
 have HRR5 := Aside0.mk hr5
 have HB5 := Aside0.mk hb5
 have HL5 := Aside0.mk hl5
 have k0 : w5.cell? ⟨gl, 0, none⟩ = some (.int .i64 x0) := (blk_cell hl5 0).trans rfl
 clear ho5 hr5 hb5 hk5 hl5 HK4 HL4 HO4 HB4
 go_wp2_with (fail)
 refine (entries1 161 x0 0 0 a1 go w.heap.size v5 _ w w5 HO5.out HK5.out HRR5.out HB5.out HGE.out (by simp)).mono ?_
 rintro e w6 ⟨rfl, v6, ho6, hr6, hb6, hk6⟩
 have HK6 := Aside0.mk (hk6 _ _ _ (by decide) HNE1.out HK5.out)
 have hl6 := hk6 _ _ _ (by decide) HNE2.out HL5.out
 have HO6 := Aside0.mk ho6
 have HRR6 := Aside0.mk hr6
 have HB6 := Aside0.mk hb6
 have HL6 := Aside0.mk hl6
 have k0 : w6.cell? ⟨gl, 0, none⟩ = some (.int .i64 x0) := (blk_cell hl6 0).trans rfl
 have k1 : w6.cell? ⟨gl, 1, none⟩ = some (.int .i64 x1) := (blk_cell hl6 1).trans rfl
 have k2 : w6.cell? ⟨gl, 2, none⟩ = some (.int .i64 x2) := (blk_cell hl6 2).trans rfl
 have k3 : w6.cell? ⟨gl, 3, none⟩ = some (.int .i64 x3) := (blk_cell hl6 3).trans rfl
 have k4 : w6.cell? ⟨gl, 4, none⟩ = some (.int .i64 x4) := (blk_cell hl6 4).trans rfl
 have k5 : w6.cell? ⟨gl, 5, none⟩ = some (.int .i64 x5) := (blk_cell hl6 5).trans rfl
 have k6 : w6.cell? ⟨gl, 6, none⟩ = some (.int .i64 x6) := (blk_cell hl6 6).trans rfl
 clear ho6 hr6 hb6 hk6 hl6 HK5 HL5 HO5 HB5 HRR5
 have hst := HSES.out.start (l.length - 1) (by omega)
 have hle := HSES.out.len (l.length - 1) (by omega)
 rw [show ((l.length - 1 : Nat) : Int) = (l.length : Int) - 1 by omega, ← HX.out] at hst hle
 dsimp only at hst hle
 have HE := fun W => Aside0.mk (subchannel_end.calls x0 x1 x2 x3 x4 x5 x6 (x2 + x3) W (end_plain hst.1 hst.2 (by have := hle.1; omega) hle.2.1))
 have HM := fun W => Aside0.mk (subchannel_msf.calls (x2 + x3) _ _ _ W (msf_plain (by have := hle.1; have := hst.1; omega) hle.2.2))
 clear hst hle
 go_wp2_with (fail)
 clear k0 k1 k2 k3 k4 k5 k6
 refine (HE _).out.mono ?_
 rintro e w7 ⟨rfl, hd7⟩
 have HK7 := Aside0.mk (blk_below HK6.out hd7)
 have HO7 := Aside0.mk (blk_below HO6.out hd7)
 have HRR7 := Aside0.mk (Kd.R_below HRR6.out hd7)
 have HB7 := Aside0.mk (below_step HB6.out hd7)
 clear hd7 HK6 HO6 HRR6 HB6 HE
 go_wp2_with (fail)
 refine (HM _).out.mono ?_
 rintro e w8 ⟨rfl, hd8⟩
 have HK8 := Aside0.mk (blk_below HK7.out hd8)
 have HO8 := Aside0.mk (blk_below HO7.out hd8)
 have HRR8 := Aside0.mk (Kd.R_below HRR7.out hd8)
 have HB8 := Aside0.mk (below_step HB7.out hd8)
 clear hd8 HK7 HO7 HRR7 HB7 HM
 go_wp2_with (fail)
 refine (entries1 162 _ _ _ a1 go w.heap.size v6 _ w w8 HO8.out HK8.out HRR8.out HB8.out HGE.out (by simp)).mono ?_
 rintro e w9 ⟨rfl, v9, ho9, hr9, hb9, hk9⟩
 have HK9 := Aside0.mk (hk9 _ _ _ (by decide) HNE1.out HK8.out)
 have HO9 := Aside0.mk ho9
 have HRR9 := Aside0.mk (show Kd.R k27 27 w9 w.heap.size (fun _ => True) v9 (entL l a1 0) from by
  have e1 : entL l a1 0 = _ := rfl
  rw [e1]
  unfold entL
  rw [← HX.out, ← HY.out]
  exact hr9)
 have HB9 := Aside0.mk hb9
 clear ho9 hr9 hb9 hk9 HO8 HK8 HRR8 HB8 HX HY
 go_wp2_with (fail)
 go_loopg [45] l.length (fun gk v45 wr => ∃ (i : Nat) (v : Value), i ≤ l.length ∧ l.length - i ≤ gk ∧ v45 = .int .i64 i ∧ Aside0 (wr.heap[go]? = some (.cells #[v] 31 (0, 0))) ∧ Aside0 (wr.heap[w.heap.size]? = some (.cells #[.int .i64 a1] 3 (0, 0))) ∧ Aside0 (Kd.R k27 27 wr w.heap.size (fun _ => True) v (entL l a1 i)) ∧ Aside0 (Below w.heap.size w wr))
 case atStart => exact ⟨0, v9, by omega, by omega, rfl, HO9, HK9, HRR9, HB9⟩
 case round =>
  obtain ⟨i, v, hi, hg, rfl, HO, HK, HRR, HB⟩ := hrel
  by_cases hlt : i < l.length
  · have hltz : (i : Int) < (l.length : Int) := by omega
    have hi0 : 0 ≤ (i : Int) := by omega
    obtain ⟨ad2, hA, hx0, hx1, hx2, hx3, hx4, hx5, hx6⟩ := at_T53 (Kd.C_below HR0.out HB.out) (i : Int) hi0 hltz
    cases hA
    rw [Int.toNat_natCast] at hx0 hx1 hx2 hx3 hx4 hx5 hx6
    have hE := entL_succ l a1 i
    have hst := HSES.out.start i hlt
    obtain ⟨x, hx⟩ : ∃ x, x = rd_T53 l (i : Int) := ⟨_, rfl⟩
    rw [← hx] at hx0 hx1 hx2 hx3 hx4 hx5 hx6 hE hst
    obtain ⟨z0, z1, z2, z3, z4, z5, z6⟩ := x
    dsimp only at hx0 hx1 hx2 hx3 hx4 hx5 hx6 hE hst
    have HM := fun W => Aside0.mk (subchannel_msf.calls z2 _ _ _ W (msf_plain (by omega) (by omega)))
    have HEE := Aside0.mk hE
    clear hx hE hst
    go_wp2_with (fail)
    generalize hW : wr.alloc _ = W1
    obtain ⟨g, hg1⟩ : ∃ g, wr.heap.size = g := ⟨_, rfl⟩
    have hb : W1.heap[g]? = some (.cells #[.int .i64 z0, .int .i64 z1, .int .i64 z2, .int .i64 z3, .int .i64 z4, .int .i64 z5, .int .i64 z6] 53 (0, 0)) := by rw [← hW, ← hg1]; exact blk_new wr _
    have hbl : Below wr.heap.size wr W1 := by rw [← hW]; exact below_one _ _
    have HO1 := Aside0.mk (blk_below HO.out hbl)
    have HK1 := Aside0.mk (blk_below HK.out hbl)
    have HRR1 := Aside0.mk (Kd.R_below HRR.out hbl)
    have HB1 := Aside0.mk (below_step HB.out hbl)
    rw [hg1]
    have k0 : W1.cell? ⟨g, 0, none⟩ = some (.int .i64 z0) := (blk_cell hb 0).trans rfl
    have k2 : W1.cell? ⟨g, 2, none⟩ = some (.int .i64 z2) := (blk_cell hb 2).trans rfl
    clear hW hg1 hbl hb HO HK HRR HB hx0 hx1 hx2 hx3 hx4 hx5 hx6
    have HLEN := Aside0.mk (show (entL l a1 i).length < 200 by rw [entL_length]; omega)
    go_region_with (first
     | (go_at_call 27; refine (HM _).out.mono ?_; rintro e wm ⟨rfl, hdm⟩; have k0m := cell_below_ (show W1.drew.cell? ⟨g, 0, none⟩ = some (.int .i64 z0) from k0) hdm; have HOm := Aside0.mk (blk_below (blk_drew HO1.out) hdm); have HKm := Aside0.mk (blk_below (blk_drew HK1.out) hdm); have HRRm := Aside0.mk (Kd.R_below (Kd.R_drew HRR1.out) hdm); have HBm := Aside0.mk (below_step (below_drew1 HB1.out) hdm); clear hdm)
     | (go_at_call 36; refine (entries1 z0 _ _ _ a1 go w.heap.size v _ w _ HOm.out HKm.out HRRm.out HBm.out HGE.out HLEN.out).mono ?_; rintro e wn ⟨rfl, vn, hon, hrn, hbn, hkn⟩; have HOn := Aside0.mk hon; have HKn := Aside0.mk (hkn _ _ _ (by decide) HNE1.out HKm.out); have HRRn := Aside0.mk hrn; have HBn := Aside0.mk hbn; clear hon hrn hbn hkn))
    all_goals
     go_wp2_with (fail)
     go_roundg (l.length - (i + 1))
     case measure => omega
     case rel => exact ⟨i + 1, vn, by omega, by omega, by go_num, HOn, HKn, ⟨by rw [HEE.out]; exact HRRn.out⟩, HBn⟩
  · have hltz : ¬ (i : Int) < (l.length : Int) := by omega
    obtain rfl : i = l.length := by omega
    have k0 : wr.cell? ⟨go, 0, none⟩ = some v := (blk_cell HO.out 0).trans rfl
    clear hlt
    go_wp2_with (fail)
    go_ret2
    exact ⟨_, rfl, HRR.out, HB.out⟩
theorem subchannel_Entries.calls (A0 : Option Addr) (c0 : Nat) (l0 : List (S53)) (a1 : Int) (r1 : List (S27)) (r2 : Int) (w : World) (hr0 : Kd.C k53 w A0 l0.length l0) (hc0 : l0.length ≤ c0) (h : subchannel_Entries.f l0 a1 = some (r1, r2)) :
 Calls Try.prog 13 #[.slice A0 l0.length c0, .int .i64 a1] w fun e w' => ∃ v0_ : Value, e = .returned (.tuple #[v0_, .int .i64 r2]) ∧ Kd.R k27 27 w' w.heap.size (fun _ => True) v0_ r1 ∧ Below w.heap.size w w' := by
 unfold subchannel_Entries.f at h
 split at h
 · rename_i hs
   cases h
   exact entries_yes A0 c0 l0 a1 w hr0 hc0 hs.1 hs.2.1 hs.2.2
 · rename_i hs
   cases h
   exact (entries_no A0 c0 l0 a1 w hr0 hc0 hs).mono fun e w' ⟨he, hb⟩ => ⟨_, he, Kd.R_nil _ _ _ _ _, hb⟩
end Go.Proofs.Ytpmkibggmkibeaa.G
namespace Go.Proofs.Ytpmkibggmkibeaa.G
open Go.RowKit Go.Proofs.YtpmkibggmkibeaaW.PrintWords Go.Proofs.YtpmkibggmkibeaaW.PrintLast Go.Proofs.YtpmkibggmkibeaaW.PrintMore
attribute [local go_sem] max2_int min2_int max_two min_two max_three min_three max_four min_four   -- for this text's walks alone
set_option linter.unusedVariables false
set_option linter.unusedSimpArgs false
theorem eqA25 (d : Nat) (w : World) (x0 y0 : Int) (x1 y1 : Int) (x2 y2 : Int) :
 (Op.equalIn (d + 2) 25 (.agg #[.int .i64 x0, .int .i64 x1, .int .i64 x2]) (.agg #[.int .i64 y0, .int .i64 y1, .int .i64 y2])).run Try.prog w = .ok (x0 == y0 && (x1 == y1 && (x2 == y2))) w := by
 refine eqA_of Try.underlying25 (by kernel_rfl) ?_
 refine eqf_cons (by rfl) (by go_simp; rfl) (by go_simp; rfl) (by go_simp) ?_
 refine eqf_cons (by rfl) (by go_simp; rfl) (by go_simp; rfl) (by go_simp) ?_
 exact eqf_last (by rfl) (by go_simp; rfl) (by go_simp; rfl) (by go_simp)
end Go.Proofs.Ytpmkibggmkibeaa.G
namespace Go.Proofs.Ytpmkibggmkibeaa.G
open Go.RowKit Go.Proofs.YtpmkibggmkibeaaW.PrintWords Go.Proofs.YtpmkibggmkibeaaW.PrintLast Go.Proofs.YtpmkibggmkibeaaW.PrintMore
attribute [local go_sem] max2_int min2_int max_two min_two max_three min_three max_four min_four   -- for this text's walks alone
set_option linter.unusedVariables false
set_option linter.unusedSimpArgs false
theorem eqA27 (d : Nat) (w : World) (x0 y0 : Int) (x1 y1 : Int) (x2 y2 : Int) (x3 y3 : Int) (x4 y4 : Int) (x5 y5 : Int) (x6 y6 : Int) (x7 y7 : Int) (x8 y8 : Int) :
 (Op.equalIn (d + 3) 27 (.agg #[.int .i64 x0, .int .i64 x1, .int .i64 x2, .int .i64 x3, .int .i64 x4, .int .i64 x5, .int .i64 x6, .int .i64 x7, .int .i64 x8]) (.agg #[.int .i64 y0, .int .i64 y1, .int .i64 y2, .int .i64 y3, .int .i64 y4, .int .i64 y5, .int .i64 y6, .int .i64 y7, .int .i64 y8])).run Try.prog w = .ok (x0 == y0 && (x1 == y1 && (x2 == y2 && ((x3 == y3 && (x4 == y4 && (x5 == y5))) && ((x6 == y6 && (x7 == y7 && (x8 == y8)))))))) w := by
 refine eqA_of Try.underlying27 (by kernel_rfl) ?_
 refine eqf_cons (by rfl) (by go_simp; rfl) (by go_simp; rfl) (by go_simp) ?_
 refine eqf_cons (by rfl) (by go_simp; rfl) (by go_simp; rfl) (by go_simp) ?_
 refine eqf_cons (by rfl) (by go_simp; rfl) (by go_simp; rfl) (by go_simp) ?_
 refine eqf_cons (by rfl) (by go_simp) (by go_simp) (eqA25 (d + 0) w _ _ _ _ _ _) ?_
 exact eqf_last (by rfl) (by go_simp) (by go_simp) (eqA25 (d + 0) w _ _ _ _ _ _)
end Go.Proofs.Ytpmkibggmkibeaa.G
namespace Go.Proofs.Ytpmkibggmkibeaa.G
open Go.RowKit Go.Proofs.YtpmkibggmkibeaaW.PrintWords Go.Proofs.YtpmkibggmkibeaaW.PrintLast Go.Proofs.YtpmkibggmkibeaaW.PrintMore
attribute [local go_sem] max2_int min2_int max_two min_two max_three min_three max_four min_four   -- for this text's walks alone
set_option linter.unusedVariables false
set_option linter.unusedSimpArgs false
attribute [local go_sem high] eqA27
def masterdisclaw10_awake.f  : Option (Bool) := (subchannel_Encode.f 4 1 1 0 0 0 0 2 0).bind fun bt169 => ((subchannel_Entries.f (([(⟨1, 0, 0, 300, 0, 0, 0⟩ : S53)] : List (S53))) 4).bind fun bt174 => (if bt169.2 = 0 then (if (bt169.1.size : Int) = 12 then (if 0 ≤ 10 then (if 10 ≤ (bt169.1.size : Int) then (if (bt169.1.extract 0 10).toList = ([65, 1, 1, 0, 0, 0, 0, 0, 2, 0] : List UInt8) then (if bt174.2 = 0 then (if (bt174.1.length : Int) = 4 then (if 2 < (bt174.1.length : Int) then (some (((rd_T27 bt174.1 2).f0) == 4 && (((rd_T27 bt174.1 2).f1) == 0 && (((rd_T27 bt174.1 2).f2) == 162 && ((((rd_T27 bt174.1 2).f3.f0) == 0 && (((rd_T27 bt174.1 2).f3.f1) == 0 && (((rd_T27 bt174.1 2).f3.f2) == 0))) && ((((rd_T27 bt174.1 2).f4.f0) == 0 && (((rd_T27 bt174.1 2).f4.f1) == 6 && (((rd_T27 bt174.1 2).f4.f2) == 0))))))))) else (none)) else (none)) else (none)) else (none)) else (none)) else (none)) else (none)) else (none)))
set_option maxHeartbeats 8000000 in
set_option maxRecDepth 100000 in
theorem masterdisclaw10_awake.calls  (r : Bool) (w : World) (h : masterdisclaw10_awake.f  = some r) :
 Calls Try.prog 10 #[] w fun e w' => e = .returned (.bool r) ∧ Below w.heap.size w w' := by
 have hu25 := Try.underlying25
 have hu27 := Try.underlying27
 have hu53 := Try.underlying53
 have HB := Aside0.mk (Below.refl w.heap.size w)
 have H : ((subchannel_Encode.f 4 1 1 0 0 0 0 2 0).bind fun bt169 => ((subchannel_Entries.f (([(⟨1, 0, 0, 300, 0, 0, 0⟩ : S53)] : List (S53))) 4).bind fun bt174 => (if bt169.2 = 0 then (if (bt169.1.size : Int) = 12 then (if 0 ≤ 10 then (if 10 ≤ (bt169.1.size : Int) then (if (bt169.1.extract 0 10).toList = ([65, 1, 1, 0, 0, 0, 0, 0, 2, 0] : List UInt8) then (if bt174.2 = 0 then (if (bt174.1.length : Int) = 4 then (if 2 < (bt174.1.length : Int) then (some (((rd_T27 bt174.1 2).f0) == 4 && (((rd_T27 bt174.1 2).f1) == 0 && (((rd_T27 bt174.1 2).f2) == 162 && ((((rd_T27 bt174.1 2).f3.f0) == 0 && (((rd_T27 bt174.1 2).f3.f1) == 0 && (((rd_T27 bt174.1 2).f3.f2) == 0))) && ((((rd_T27 bt174.1 2).f4.f0) == 0 && (((rd_T27 bt174.1 2).f4.f1) == 6 && (((rd_T27 bt174.1 2).f4.f2) == 0))))))))) else (none)) else (none)) else (none)) else (none)) else (none)) else (none)) else (none)) else (none)))) = some r := h
 clear h
 replace H := Option.bind_eq_some_iff.mp H
 obtain ⟨⟨t169, t170⟩, A10, H⟩ := H
 replace H : ((subchannel_Entries.f (([(⟨1, 0, 0, 300, 0, 0, 0⟩ : S53)] : List (S53))) 4).bind fun bt174 => (if t170 = 0 then (if (t169.size : Int) = 12 then (if 0 ≤ 10 then (if 10 ≤ (t169.size : Int) then (if (t169.extract 0 10).toList = ([65, 1, 1, 0, 0, 0, 0, 0, 2, 0] : List UInt8) then (if bt174.2 = 0 then (if (bt174.1.length : Int) = 4 then (if 2 < (bt174.1.length : Int) then (some (((rd_T27 bt174.1 2).f0) == 4 && (((rd_T27 bt174.1 2).f1) == 0 && (((rd_T27 bt174.1 2).f2) == 162 && ((((rd_T27 bt174.1 2).f3.f0) == 0 && (((rd_T27 bt174.1 2).f3.f1) == 0 && (((rd_T27 bt174.1 2).f3.f2) == 0))) && ((((rd_T27 bt174.1 2).f4.f0) == 0 && (((rd_T27 bt174.1 2).f4.f1) == 6 && (((rd_T27 bt174.1 2).f4.f2) == 0))))))))) else (none)) else (none)) else (none)) else (none)) else (none)) else (none)) else (none)) else (none))) = some r := H
 have A1 := Aside0.mk A10
 clear A10
 obtain ⟨y171, hy171⟩ : ∃ y_ : List (S53), y_ = (([(⟨1, 0, 0, 300, 0, 0, 0⟩ : S53)] : List (S53))) := ⟨_, rfl⟩
 replace H : ((subchannel_Entries.f y171 4).bind fun bt174 => (if t170 = 0 then (if (t169.size : Int) = 12 then (if 0 ≤ 10 then (if 10 ≤ (t169.size : Int) then (if (t169.extract 0 10).toList = ([65, 1, 1, 0, 0, 0, 0, 0, 2, 0] : List UInt8) then (if bt174.2 = 0 then (if (bt174.1.length : Int) = 4 then (if 2 < (bt174.1.length : Int) then (some (((rd_T27 bt174.1 2).f0) == 4 && (((rd_T27 bt174.1 2).f1) == 0 && (((rd_T27 bt174.1 2).f2) == 162 && ((((rd_T27 bt174.1 2).f3.f0) == 0 && (((rd_T27 bt174.1 2).f3.f1) == 0 && (((rd_T27 bt174.1 2).f3.f2) == 0))) && ((((rd_T27 bt174.1 2).f4.f0) == 0 && (((rd_T27 bt174.1 2).f4.f1) == 6 && (((rd_T27 bt174.1 2).f4.f2) == 0))))))))) else (none)) else (none)) else (none)) else (none)) else (none)) else (none)) else (none)) else (none))) = some r := by first | (rw [hy171]; with_reducible exact H) | (have H2_ := (Option.bind_some _ _).symm.trans H; rw [hy171]; with_reducible exact H2_) | (have H2_ := (Option.bind_some _ _).symm.trans H; with_reducible exact H2_) | with_reducible exact H | (rw [hy171]; exact H) | exact H
 have Ny171 := Aside0.mk hy171
 clear hy171
 replace H := Option.bind_eq_some_iff.mp H
 obtain ⟨⟨t174, t175⟩, A20, H⟩ := H
 replace H : (if t170 = 0 then (if (t169.size : Int) = 12 then (if 0 ≤ 10 then (if 10 ≤ (t169.size : Int) then (if (t169.extract 0 10).toList = ([65, 1, 1, 0, 0, 0, 0, 0, 2, 0] : List UInt8) then (if t175 = 0 then (if (t174.length : Int) = 4 then (if 2 < (t174.length : Int) then (some (((rd_T27 t174 2).f0) == 4 && (((rd_T27 t174 2).f1) == 0 && (((rd_T27 t174 2).f2) == 162 && ((((rd_T27 t174 2).f3.f0) == 0 && (((rd_T27 t174 2).f3.f1) == 0 && (((rd_T27 t174 2).f3.f2) == 0))) && ((((rd_T27 t174 2).f4.f0) == 0 && (((rd_T27 t174 2).f4.f1) == 6 && (((rd_T27 t174 2).f4.f2) == 0))))))))) else (none)) else (none)) else (none)) else (none)) else (none)) else (none)) else (none)) else (none)) = some r := H
 have A2 := Aside0.mk A20
 clear A20
 by_cases c3 : t170 = 0
 · rw [if_pos c3] at H
   have c3b0 : (t170 == 0) = true := beq_iff_eq.mpr c3
   have c3b1 : (t170 != 0) = false := bne_eq_false_iff_eq.mpr c3
   clear c3
   by_cases c4 : (t169.size : Int) = 12
   · rw [if_pos c4] at H
     have c4b0 : ((t169.size : Int) == 12) = true := beq_iff_eq.mpr c4
     have c4b1 : ((t169.size : Int) != 12) = false := bne_eq_false_iff_eq.mpr c4
     clear c4
     by_cases c5 : 0 ≤ 10
     · rw [if_pos c5] at H
       have c5b0 := eq_true c5
       have c5b1 : decide (0 ≤ 10) = true := decide_eq_true c5
       clear c5
       by_cases c6 : 10 ≤ (t169.size : Int)
       · rw [if_pos c6] at H
         have c6b0 := eq_true c6
         have c6b1 : decide (10 ≤ (t169.size : Int)) = true := decide_eq_true c6
         clear c6
         by_cases c7 : (t169.extract 0 10).toList = ([65, 1, 1, 0, 0, 0, 0, 0, 2, 0] : List UInt8)
         · rw [if_pos c7] at H
           have c7b0 : ((t169.extract 0 10).toList == ([65, 1, 1, 0, 0, 0, 0, 0, 2, 0] : List UInt8)) = true := beq_iff_eq.mpr c7
           have c7b1 : ((t169.extract 0 10).toList != ([65, 1, 1, 0, 0, 0, 0, 0, 2, 0] : List UInt8)) = false := bne_eq_false_iff_eq.mpr c7
           clear c7
           by_cases c8 : t175 = 0
           · rw [if_pos c8] at H
             have c8b0 : (t175 == 0) = true := beq_iff_eq.mpr c8
             have c8b1 : (t175 != 0) = false := bne_eq_false_iff_eq.mpr c8
             clear c8
             by_cases c9 : (t174.length : Int) = 4
             · rw [if_pos c9] at H
               have c9b0 : ((t174.length : Int) == 4) = true := beq_iff_eq.mpr c9
               have c9b1 : ((t174.length : Int) != 4) = false := bne_eq_false_iff_eq.mpr c9
               clear c9
               by_cases c10 : 2 < (t174.length : Int)
               · rw [if_pos c10] at H
                 have c10b0 : decide (2 < (t174.length : Int)) = true := decide_eq_true c10
                 have c10b1 : decide (2 < t174.length) = true := decide_eq_true (by omega)
                 clear c10
                 obtain rfl := Option.some.inj H
                 go_enter Try.func10, Try.ntmps10
                 go_wp2_with (first | ((with_reducible refine gate_callee (f := 18) rfl ?_); refine goesL_ (some 8) rfl rfl Try.func18 (by kernel_rfl) rfl #[.agg #[.int .i64 4, .int .i64 1, .int .i64 1, .int .i64 0, .int .i64 0, .int .i64 0, .int .i64 0, .int .i64 2, .int .i64 0]] rfl (by (try simp only [List.map_toArray, List.map_cons, List.map_nil]); first | done | rfl | (simp only [List.length_drop, List.length_take]; rfl)) ?_; (with_reducible refine (subchannel_Encode.calls 4 1 1 0 0 0 0 2 0 t169 t170 _ A1.out).mono ?_); rintro e w11 ⟨rfl, hb⟩; refine ⟨_, rfl, ?_⟩; have n0_ := Aside0.mk (below_step (by repeat (first | (with_reducible first | exact HB.out | apply below_alloc | apply pw_below_drewN | apply below_drew1) | exact HB.out)) hb); clear HB; have HB := n0_; clear n0_; (try clear hb); (try clear hb2); (try clear hk); (try clear hi)) | ((with_reducible refine gate_dst (N := 13) rfl ?_); (try (refine gate_guard (by rfl) ?_; dsimp only)); refine Kd.R_lit k53 _ 53 ?hg (N := 13) ?hd (xs := ([(⟨1, 0, 0, 300, 0, 0, 0⟩ : S53)] : List (S53))) (inner := [.int .i64 1, .int .i64 0, .int .i64 0, .int .i64 300, .int .i64 0, .int .i64 0, .int .i64 0]) (ok := fun _ => True) (okp := fun _ => True) ?hr ?hp (fun _ hk => hk) trivial (Below.refl _ _) (Nat.le_refl _) (by simp) ?_; (case hd => rfl); (case hg => rfl); (case hr => first | (go_simp; done) | (go_simp; rfl)); (case hp => exact (Reps.c7 (show Kd.M k53 _ _ _ (⟨1, 0, 0, 300, 0, 0, 0⟩ : S53) [.int .i64 1, .int .i64 0, .int .i64 0, .int .i64 300, .int .i64 0, .int .i64 0, .int .i64 0] from (k53_mkM _ _ _ (⟨1, 0, 0, 300, 0, 0, 0⟩ : S53) )) (Reps.none _ _))); intro v172 w12 ho13 hb hg_ hnew_; clear hg_ hnew_; (first | rw [← Ny171.out] at ho13 | (simp only [Int.reduceToNat] at ho13; rw [← Ny171.out] at ho13)); have n0_ := Aside0.mk (Kd.R_lower ho13 (below_size (by repeat (first | (with_reducible first | exact HB.out | apply below_alloc | apply pw_below_drewN | apply below_drew1) | exact HB.out)))); have n1_ := Aside0.mk (below_step (by repeat (first | (with_reducible first | exact HB.out | apply below_alloc | apply pw_below_drewN | apply below_drew1) | exact HB.out)) hb); clear HB; have HO173 := n0_; have HB := n1_; clear n0_ n1_; clear hb ho13; obtain ⟨Ao14, co14, eo14⟩ := Kd.R_slice HO173.out; subst eo14) | ((with_reducible refine gate_callee (f := 13) rfl ?_); refine goesL_ (some 14) rfl rfl Try.func13 (by kernel_rfl) rfl #[.slice Ao14 y171.length co14, .int .i64 4] rfl (by (try simp only [List.map_toArray, List.map_cons, List.map_nil]); first | done | rfl | (simp only [List.length_drop, List.length_take]; rfl)) ?_; (with_reducible refine (subchannel_Entries.calls _ _ y171 4 t174 t175 _ ?side1 ?side2 A2.out).mono ?_); (case side1 => repeat (first | exact (Kd.R_reads' HO173.out).2.2 | (with_reducible refine Kd.C_alloc ?_ _) | (with_reducible refine Kd.C_drewN ?_ _) | (with_reducible refine Kd.C_drew ?_))); (case side2 => exact (Kd.R_reads' HO173.out).2.1); rintro e w15 ⟨v176, rfl, ho0, hb⟩; refine ⟨_, rfl, ?_⟩; have n0_ := Aside0.mk (Kd.R_below (by (with_reducible repeat (first | apply Kd.R_alloc | apply Kd.R_drewN | apply Kd.R_drew)); exact HO173.out) hb); have n1_ := Aside0.mk (Kd.R_lower ho0 (below_size (by repeat (first | (with_reducible first | exact HB.out | apply below_alloc | apply pw_below_drewN | apply below_drew1) | exact HB.out)))); have n2_ := Aside0.mk (below_step (by repeat (first | (with_reducible first | exact HB.out | apply below_alloc | apply pw_below_drewN | apply below_drew1) | exact HB.out)) hb); clear HO173; clear HB; have HO173 := n0_; have HO177 := n1_; have HB := n2_; clear n0_ n1_ n2_; (try clear hb); (try clear hb2); (try clear hk); (try clear hi); (try clear ho0); obtain ⟨Ao16, co16, eo16⟩ := Kd.R_slice HO177.out; subst eo16; have p178 : 0 ≤ (2 : Int) := (by omega); have q178 : 2 < (t174.length : Int) := of_decide_eq_true (by first | (with_reducible assumption) | assumption); obtain ⟨ad178, e178, hx178_0, hx178_1, hx178_2, hx178_3, hx178_4, hx178_5, hx178_6, hx178_7, hx178_8⟩ := at_T27 (Kd.R_reads' HO177.out).2.2 2 p178 q178; cases e178; (try simp only [show (2 : Int).toNat = 2 from rfl, Nat.reduceMul, Nat.reduceEqDiff, Go.Addr.add, ↓reduceIte] at hx178_0); (try simp only [show (2 : Int).toNat = 2 from rfl, Nat.reduceMul, Nat.reduceEqDiff, Go.Addr.add, ↓reduceIte] at hx178_1); (try simp only [show (2 : Int).toNat = 2 from rfl, Nat.reduceMul, Nat.reduceEqDiff, Go.Addr.add, ↓reduceIte] at hx178_2); (try simp only [show (2 : Int).toNat = 2 from rfl, Nat.reduceMul, Nat.reduceEqDiff, Go.Addr.add, ↓reduceIte] at hx178_3); (try simp only [show (2 : Int).toNat = 2 from rfl, Nat.reduceMul, Nat.reduceEqDiff, Go.Addr.add, ↓reduceIte] at hx178_4); (try simp only [show (2 : Int).toNat = 2 from rfl, Nat.reduceMul, Nat.reduceEqDiff, Go.Addr.add, ↓reduceIte] at hx178_5); (try simp only [show (2 : Int).toNat = 2 from rfl, Nat.reduceMul, Nat.reduceEqDiff, Go.Addr.add, ↓reduceIte] at hx178_6); (try simp only [show (2 : Int).toNat = 2 from rfl, Nat.reduceMul, Nat.reduceEqDiff, Go.Addr.add, ↓reduceIte] at hx178_7); (try simp only [show (2 : Int).toNat = 2 from rfl, Nat.reduceMul, Nat.reduceEqDiff, Go.Addr.add, ↓reduceIte] at hx178_8); have qi178 : (2 < t174.length) = True := eq_true (by omega); (try rw [show ((2 : Int)).toNat = 2 from rfl] at hx178_0); (try rw [show 2 * 9 = 18 from rfl] at hx178_0); (try rw [show ((2 : Int)).toNat = 2 from rfl] at hx178_1); (try rw [show 2 * 9 = 18 from rfl] at hx178_1); (try rw [show ((2 : Int)).toNat = 2 from rfl] at hx178_2); (try rw [show 2 * 9 = 18 from rfl] at hx178_2); (try rw [show ((2 : Int)).toNat = 2 from rfl] at hx178_3); (try rw [show 2 * 9 = 18 from rfl] at hx178_3); (try rw [show ((2 : Int)).toNat = 2 from rfl] at hx178_4); (try rw [show 2 * 9 = 18 from rfl] at hx178_4); (try rw [show ((2 : Int)).toNat = 2 from rfl] at hx178_5); (try rw [show 2 * 9 = 18 from rfl] at hx178_5); (try rw [show ((2 : Int)).toNat = 2 from rfl] at hx178_6); (try rw [show 2 * 9 = 18 from rfl] at hx178_6); (try rw [show ((2 : Int)).toNat = 2 from rfl] at hx178_7); (try rw [show 2 * 9 = 18 from rfl] at hx178_7); (try rw [show ((2 : Int)).toNat = 2 from rfl] at hx178_8); (try rw [show 2 * 9 = 18 from rfl] at hx178_8); replace p178 := eq_true p178; replace q178 := eq_true q178))
                 go_ret
                 exact ⟨by first | rfl | (simp [errW_none, errW_some] <;> rfl) | (simp [*, errW_none, errW_some] <;> rfl), by repeat (first | (with_reducible first | exact HB.out | apply below_alloc | apply pw_below_drewN | apply below_drew1) | exact HB.out)⟩
               · rw [if_neg c10] at H
                 exact absurd H (by simp)
             · rw [if_neg c9] at H
               exact absurd H (by simp)
           · rw [if_neg c8] at H
             exact absurd H (by simp)
         · rw [if_neg c7] at H
           exact absurd H (by simp)
       · rw [if_neg c6] at H
         exact absurd H (by simp)
     · rw [if_neg c5] at H
       exact absurd H (by simp)
   · rw [if_neg c4] at H
     exact absurd H (by simp)
 · rw [if_neg c3] at H
   exact absurd H (by simp)
end Go.Proofs.Ytpmkibggmkibeaa.G
namespace Go.Proofs.Ytpmkibggmkibeaa.G
open Go.RowKit
set_option maxRecDepth 100000 in
theorem awake_plain : masterdisclaw10_awake.f = some true := by decide +kernel
end Go.Proofs.Ytpmkibggmkibeaa.G
namespace Go.Proofs.Ytpmkibggmkibeaa.G
open Go.RowKit Go.Proofs.YtpmkibggmkibeaaW.PrintWords Go.Proofs.YtpmkibggmkibeaaW.PrintLast Go.Proofs.YtpmkibggmkibeaaW.PrintMore
attribute [local go_sem] max2_int min2_int max_two min_two max_three min_three max_four min_four   -- for this text's walks alone
set_option linter.unusedVariables false
set_option linter.unusedSimpArgs false
def masterdiscref06_Valid.f (a0_0 : Int) (a0_1 : Int) (a0_2 : Int) : Option (Bool) := if a0_0 ≥ 0 then (if a0_0 ≤ 99 then (if a0_1 ≥ 0 then (if a0_1 ≤ 59 then (if a0_2 ≥ 0 then (some (decide (a0_2 ≤ 74))) else (some false)) else (some false)) else (some false)) else (some false)) else (some false)
set_option maxHeartbeats 8000000 in
set_option maxRecDepth 100000 in
theorem masterdiscref06_Valid.calls (a0_0 : Int) (a0_1 : Int) (a0_2 : Int) (r : Bool) (w : World) (h : masterdiscref06_Valid.f a0_0 a0_1 a0_2 = some r) :
 Calls Try.prog 63 #[.agg #[.int .i64 a0_0, .int .i64 a0_1, .int .i64 a0_2]] w fun e w' => e = .returned (.bool r) ∧ Below w.heap.size w w' := by
 have hu25 := Try.underlying25
 have HB := Aside0.mk (Below.refl w.heap.size w)
 have H : (if a0_0 ≥ 0 then (if a0_0 ≤ 99 then (if a0_1 ≥ 0 then (if a0_1 ≤ 59 then (if a0_2 ≥ 0 then (some (decide (a0_2 ≤ 74))) else (some false)) else (some false)) else (some false)) else (some false)) else (some false)) = some r := h
 clear h
 by_cases c2 : a0_0 ≥ 0
 · rw [if_pos c2] at H
   have c2b0 : decide (0 ≤ a0_0) = true := decide_eq_true c2
   clear c2
   by_cases c3 : a0_0 ≤ 99
   · rw [if_pos c3] at H
     have c3b0 : decide (a0_0 ≤ 99) = true := decide_eq_true c3
     clear c3
     by_cases c4 : a0_1 ≥ 0
     · rw [if_pos c4] at H
       have c4b0 : decide (0 ≤ a0_1) = true := decide_eq_true c4
       clear c4
       by_cases c5 : a0_1 ≤ 59
       · rw [if_pos c5] at H
         have c5b0 : decide (a0_1 ≤ 59) = true := decide_eq_true c5
         clear c5
         by_cases c6 : a0_2 ≥ 0
         · rw [if_pos c6] at H
           have c6b0 : decide (0 ≤ a0_2) = true := decide_eq_true c6
           clear c6
           obtain rfl := Option.some.inj H
           go_enter Try.func63, Try.ntmps63
           go_wp2_with (first | ((with_reducible refine gate_dst (N := 1) rfl ?_); refine box_event ?hg (N := 1) ?hd (cs := #[.int .i64 a0_0, .int .i64 a0_1, .int .i64 a0_2]) (t := 25) ?hr ?_; (case hd => rfl); (case hg => rfl); (case hr => first | (go_simp; done) | (go_simp; rfl)); intro gb330 hg w7 hbox hb; have n0_ := Aside0.mk (below_step (by repeat (first | (with_reducible first | exact HB.out | apply below_alloc | apply pw_below_drewN | apply below_drew1) | exact HB.out)) hb); have n1_ := Aside0.mk (hbox); have n2_ := Aside0.mk ((by rw [hg]; exact (below_size (by repeat (first | (with_reducible first | exact HB.out | apply below_alloc | apply pw_below_drewN | apply below_drew1) | exact HB.out))) : w.heap.size ≤ gb330)); have n3_ := Aside0.mk ((by rw [hg]; exact (below_size (by repeat (first | (with_reducible first | exact HB.out | apply below_alloc | apply pw_below_drewN | apply below_drew1) | exact HB.out))) : w.heap.size ≤ gb330)); clear HB; have HB := n0_; have BK330 := n1_; have GW330 := n2_; have GE330 := n3_; clear n0_ n1_ n2_ n3_; clear hb hbox hg; obtain ⟨hcz8_0, hcz8_1, hcz8_2⟩ := cel3 BK330.out; obtain ⟨hfz8_0, hfz8_1, hfz8_2⟩ := frz3 BK330.out))
           go_ret
           exact ⟨by first | rfl | (simp [errW_none, errW_some] <;> rfl) | (simp [*, errW_none, errW_some] <;> rfl), by repeat (first | (with_reducible first | exact HB.out | apply below_alloc | apply pw_below_drewN | apply below_drew1 | refine below_set ?_ GE330.out) | exact HB.out)⟩
         · rw [if_neg c6] at H
           have c6b0 : decide (0 ≤ a0_2) = false := decide_eq_false c6
           clear c6
           obtain rfl := Option.some.inj H
           go_enter Try.func63, Try.ntmps63
           go_wp2_with (first | ((with_reducible refine gate_dst (N := 1) rfl ?_); refine box_event ?hg (N := 1) ?hd (cs := #[.int .i64 a0_0, .int .i64 a0_1, .int .i64 a0_2]) (t := 25) ?hr ?_; (case hd => rfl); (case hg => rfl); (case hr => first | (go_simp; done) | (go_simp; rfl)); intro gb330 hg w9 hbox hb; have n0_ := Aside0.mk (below_step (by repeat (first | (with_reducible first | exact HB.out | apply below_alloc | apply pw_below_drewN | apply below_drew1) | exact HB.out)) hb); have n1_ := Aside0.mk (hbox); have n2_ := Aside0.mk ((by rw [hg]; exact (below_size (by repeat (first | (with_reducible first | exact HB.out | apply below_alloc | apply pw_below_drewN | apply below_drew1) | exact HB.out))) : w.heap.size ≤ gb330)); have n3_ := Aside0.mk ((by rw [hg]; exact (below_size (by repeat (first | (with_reducible first | exact HB.out | apply below_alloc | apply pw_below_drewN | apply below_drew1) | exact HB.out))) : w.heap.size ≤ gb330)); clear HB; have HB := n0_; have BK330 := n1_; have GW330 := n2_; have GE330 := n3_; clear n0_ n1_ n2_ n3_; clear hb hbox hg; obtain ⟨hcz10_0, hcz10_1, hcz10_2⟩ := cel3 BK330.out; obtain ⟨hfz10_0, hfz10_1, hfz10_2⟩ := frz3 BK330.out))
           go_ret
           exact ⟨by first | rfl | (simp [errW_none, errW_some] <;> rfl) | (simp [*, errW_none, errW_some] <;> rfl), by repeat (first | (with_reducible first | exact HB.out | apply below_alloc | apply pw_below_drewN | apply below_drew1 | refine below_set ?_ GE330.out) | exact HB.out)⟩
       · rw [if_neg c5] at H
         have c5b0 : decide (a0_1 ≤ 59) = false := decide_eq_false c5
         clear c5
         obtain rfl := Option.some.inj H
         go_enter Try.func63, Try.ntmps63
         go_wp2_with (first | ((with_reducible refine gate_dst (N := 1) rfl ?_); refine box_event ?hg (N := 1) ?hd (cs := #[.int .i64 a0_0, .int .i64 a0_1, .int .i64 a0_2]) (t := 25) ?hr ?_; (case hd => rfl); (case hg => rfl); (case hr => first | (go_simp; done) | (go_simp; rfl)); intro gb330 hg w11 hbox hb; have n0_ := Aside0.mk (below_step (by repeat (first | (with_reducible first | exact HB.out | apply below_alloc | apply pw_below_drewN | apply below_drew1) | exact HB.out)) hb); have n1_ := Aside0.mk (hbox); have n2_ := Aside0.mk ((by rw [hg]; exact (below_size (by repeat (first | (with_reducible first | exact HB.out | apply below_alloc | apply pw_below_drewN | apply below_drew1) | exact HB.out))) : w.heap.size ≤ gb330)); have n3_ := Aside0.mk ((by rw [hg]; exact (below_size (by repeat (first | (with_reducible first | exact HB.out | apply below_alloc | apply pw_below_drewN | apply below_drew1) | exact HB.out))) : w.heap.size ≤ gb330)); clear HB; have HB := n0_; have BK330 := n1_; have GW330 := n2_; have GE330 := n3_; clear n0_ n1_ n2_ n3_; clear hb hbox hg; obtain ⟨hcz12_0, hcz12_1, hcz12_2⟩ := cel3 BK330.out; obtain ⟨hfz12_0, hfz12_1, hfz12_2⟩ := frz3 BK330.out))
         go_ret
         exact ⟨by first | rfl | (simp [errW_none, errW_some] <;> rfl) | (simp [*, errW_none, errW_some] <;> rfl), by repeat (first | (with_reducible first | exact HB.out | apply below_alloc | apply pw_below_drewN | apply below_drew1 | refine below_set ?_ GE330.out) | exact HB.out)⟩
     · rw [if_neg c4] at H
       have c4b0 : decide (0 ≤ a0_1) = false := decide_eq_false c4
       clear c4
       obtain rfl := Option.some.inj H
       go_enter Try.func63, Try.ntmps63
       go_wp2_with (first | ((with_reducible refine gate_dst (N := 1) rfl ?_); refine box_event ?hg (N := 1) ?hd (cs := #[.int .i64 a0_0, .int .i64 a0_1, .int .i64 a0_2]) (t := 25) ?hr ?_; (case hd => rfl); (case hg => rfl); (case hr => first | (go_simp; done) | (go_simp; rfl)); intro gb330 hg w13 hbox hb; have n0_ := Aside0.mk (below_step (by repeat (first | (with_reducible first | exact HB.out | apply below_alloc | apply pw_below_drewN | apply below_drew1) | exact HB.out)) hb); have n1_ := Aside0.mk (hbox); have n2_ := Aside0.mk ((by rw [hg]; exact (below_size (by repeat (first | (with_reducible first | exact HB.out | apply below_alloc | apply pw_below_drewN | apply below_drew1) | exact HB.out))) : w.heap.size ≤ gb330)); have n3_ := Aside0.mk ((by rw [hg]; exact (below_size (by repeat (first | (with_reducible first | exact HB.out | apply below_alloc | apply pw_below_drewN | apply below_drew1) | exact HB.out))) : w.heap.size ≤ gb330)); clear HB; have HB := n0_; have BK330 := n1_; have GW330 := n2_; have GE330 := n3_; clear n0_ n1_ n2_ n3_; clear hb hbox hg; obtain ⟨hcz14_0, hcz14_1, hcz14_2⟩ := cel3 BK330.out; obtain ⟨hfz14_0, hfz14_1, hfz14_2⟩ := frz3 BK330.out))
       go_ret
       exact ⟨by first | rfl | (simp [errW_none, errW_some] <;> rfl) | (simp [*, errW_none, errW_some] <;> rfl), by repeat (first | (with_reducible first | exact HB.out | apply below_alloc | apply pw_below_drewN | apply below_drew1 | refine below_set ?_ GE330.out) | exact HB.out)⟩
   · rw [if_neg c3] at H
     have c3b0 : decide (a0_0 ≤ 99) = false := decide_eq_false c3
     clear c3
     obtain rfl := Option.some.inj H
     go_enter Try.func63, Try.ntmps63
     go_wp2_with (first | ((with_reducible refine gate_dst (N := 1) rfl ?_); refine box_event ?hg (N := 1) ?hd (cs := #[.int .i64 a0_0, .int .i64 a0_1, .int .i64 a0_2]) (t := 25) ?hr ?_; (case hd => rfl); (case hg => rfl); (case hr => first | (go_simp; done) | (go_simp; rfl)); intro gb330 hg w15 hbox hb; have n0_ := Aside0.mk (below_step (by repeat (first | (with_reducible first | exact HB.out | apply below_alloc | apply pw_below_drewN | apply below_drew1) | exact HB.out)) hb); have n1_ := Aside0.mk (hbox); have n2_ := Aside0.mk ((by rw [hg]; exact (below_size (by repeat (first | (with_reducible first | exact HB.out | apply below_alloc | apply pw_below_drewN | apply below_drew1) | exact HB.out))) : w.heap.size ≤ gb330)); have n3_ := Aside0.mk ((by rw [hg]; exact (below_size (by repeat (first | (with_reducible first | exact HB.out | apply below_alloc | apply pw_below_drewN | apply below_drew1) | exact HB.out))) : w.heap.size ≤ gb330)); clear HB; have HB := n0_; have BK330 := n1_; have GW330 := n2_; have GE330 := n3_; clear n0_ n1_ n2_ n3_; clear hb hbox hg; obtain ⟨hcz16_0, hcz16_1, hcz16_2⟩ := cel3 BK330.out; obtain ⟨hfz16_0, hfz16_1, hfz16_2⟩ := frz3 BK330.out))
     go_ret
     exact ⟨by first | rfl | (simp [errW_none, errW_some] <;> rfl) | (simp [*, errW_none, errW_some] <;> rfl), by repeat (first | (with_reducible first | exact HB.out | apply below_alloc | apply pw_below_drewN | apply below_drew1 | refine below_set ?_ GE330.out) | exact HB.out)⟩
 · rw [if_neg c2] at H
   have c2b0 : decide (0 ≤ a0_0) = false := decide_eq_false c2
   clear c2
   obtain rfl := Option.some.inj H
   go_enter Try.func63, Try.ntmps63
   go_wp2_with (first | ((with_reducible refine gate_dst (N := 1) rfl ?_); refine box_event ?hg (N := 1) ?hd (cs := #[.int .i64 a0_0, .int .i64 a0_1, .int .i64 a0_2]) (t := 25) ?hr ?_; (case hd => rfl); (case hg => rfl); (case hr => first | (go_simp; done) | (go_simp; rfl)); intro gb330 hg w17 hbox hb; have n0_ := Aside0.mk (below_step (by repeat (first | (with_reducible first | exact HB.out | apply below_alloc | apply pw_below_drewN | apply below_drew1) | exact HB.out)) hb); have n1_ := Aside0.mk (hbox); have n2_ := Aside0.mk ((by rw [hg]; exact (below_size (by repeat (first | (with_reducible first | exact HB.out | apply below_alloc | apply pw_below_drewN | apply below_drew1) | exact HB.out))) : w.heap.size ≤ gb330)); have n3_ := Aside0.mk ((by rw [hg]; exact (below_size (by repeat (first | (with_reducible first | exact HB.out | apply below_alloc | apply pw_below_drewN | apply below_drew1) | exact HB.out))) : w.heap.size ≤ gb330)); clear HB; have HB := n0_; have BK330 := n1_; have GW330 := n2_; have GE330 := n3_; clear n0_ n1_ n2_ n3_; clear hb hbox hg; obtain ⟨hcz18_0, hcz18_1, hcz18_2⟩ := cel3 BK330.out; obtain ⟨hfz18_0, hfz18_1, hfz18_2⟩ := frz3 BK330.out))
   go_ret
   exact ⟨by first | rfl | (simp [errW_none, errW_some] <;> rfl) | (simp [*, errW_none, errW_some] <;> rfl), by repeat (first | (with_reducible first | exact HB.out | apply below_alloc | apply pw_below_drewN | apply below_drew1 | refine below_set ?_ GE330.out) | exact HB.out)⟩
end Go.Proofs.Ytpmkibggmkibeaa.G
namespace Go.Proofs.Ytpmkibggmkibeaa.G
open Go.RowKit Go.Proofs.YtpmkibggmkibeaaW.PrintWords Go.Proofs.YtpmkibggmkibeaaW.PrintLast Go.Proofs.YtpmkibggmkibeaaW.PrintMore
attribute [local go_sem] max2_int min2_int max_two min_two max_three min_three max_four min_four   -- for this text's walks alone
set_option linter.unusedVariables false
set_option linter.unusedSimpArgs false
def masterdiscref06_Encode.f (a0_0 : Int) (a0_1 : Int) (a0_2 : Int) : Option (ByteArray × Int) := (masterdiscref06_Valid.f a0_0 a0_1 a0_2).bind fun t388 => (if t388 = true then ((masterdiscref01_BCD.f a0_0).bind fun bt389 => ((masterdiscref01_BCD.f a0_1).bind fun bt391 => ((masterdiscref01_BCD.f a0_2).bind fun bt393 => (some (strOfNums (([bt389.1, bt391.1, bt393.1] : List Int)), 0))))) else (some ((⟨#[]⟩ : ByteArray), 1)))
set_option maxHeartbeats 8000000 in
set_option maxRecDepth 100000 in
theorem masterdiscref06_Encode.calls (a0_0 : Int) (a0_1 : Int) (a0_2 : Int) (r1 : ByteArray) (r2 : Int) (w : World) (h : masterdiscref06_Encode.f a0_0 a0_1 a0_2 = some (r1, r2)) :
 Calls Try.prog 47 #[.agg #[.int .i64 a0_0, .int .i64 a0_1, .int .i64 a0_2]] w fun e w' => e = .returned (.tuple #[.string r1, .int .i64 r2]) ∧ Below w.heap.size w w' := by
 have hu25 := Try.underlying25
 have HB := Aside0.mk (Below.refl w.heap.size w)
 have H : ((masterdiscref06_Valid.f a0_0 a0_1 a0_2).bind fun t388 => (if t388 = true then ((masterdiscref01_BCD.f a0_0).bind fun bt389 => ((masterdiscref01_BCD.f a0_1).bind fun bt391 => ((masterdiscref01_BCD.f a0_2).bind fun bt393 => (some (strOfNums (([bt389.1, bt391.1, bt393.1] : List Int)), 0))))) else (some ((⟨#[]⟩ : ByteArray), 1)))) = some (r1, r2) := h
 clear h
 replace H := Option.bind_eq_some_iff.mp H
 obtain ⟨t388, A20, H⟩ := H
 replace H : (if t388 = true then ((masterdiscref01_BCD.f a0_0).bind fun bt389 => ((masterdiscref01_BCD.f a0_1).bind fun bt391 => ((masterdiscref01_BCD.f a0_2).bind fun bt393 => (some (strOfNums (([bt389.1, bt391.1, bt393.1] : List Int)), 0))))) else (some ((⟨#[]⟩ : ByteArray), 1))) = some (r1, r2) := H
 have A2 := Aside0.mk A20
 clear A20
 by_cases c3 : t388 = true
 · subst c3
   have H1 : ((masterdiscref01_BCD.f a0_0).bind fun bt389 => ((masterdiscref01_BCD.f a0_1).bind fun bt391 => ((masterdiscref01_BCD.f a0_2).bind fun bt393 => (some (strOfNums (([bt389.1, bt391.1, bt393.1] : List Int)), 0))))) = some (r1, r2) := by rw [if_pos rfl] at H; exact H
   clear H
   have H := H1
   clear H1
   replace H := Option.bind_eq_some_iff.mp H
   obtain ⟨⟨t389, t390⟩, A40, H⟩ := H
   replace H : ((masterdiscref01_BCD.f a0_1).bind fun bt391 => ((masterdiscref01_BCD.f a0_2).bind fun bt393 => (some (strOfNums (([t389, bt391.1, bt393.1] : List Int)), 0)))) = some (r1, r2) := H
   have A4 := Aside0.mk A40
   clear A40
   replace H := Option.bind_eq_some_iff.mp H
   obtain ⟨⟨t391, t392⟩, A50, H⟩ := H
   replace H : ((masterdiscref01_BCD.f a0_2).bind fun bt393 => (some (strOfNums (([t389, t391, bt393.1] : List Int)), 0))) = some (r1, r2) := H
   have A5 := Aside0.mk A50
   clear A50
   replace H := Option.bind_eq_some_iff.mp H
   obtain ⟨⟨t393, t394⟩, A60, H⟩ := H
   replace H : (some (strOfNums (([t389, t391, t393] : List Int)), 0)) = some (r1, r2) := H
   have A6 := Aside0.mk A60
   clear A60
   obtain ⟨y395, hy395⟩ : ∃ y_ : List Int, y_ = (([t389, t391, t393] : List Int)) := ⟨_, rfl⟩
   replace H : (some (strOfNums y395, 0)) = some (r1, r2) := by first | (rw [hy395]; with_reducible exact H) | (have H2_ := (Option.bind_some _ _).symm.trans H; rw [hy395]; with_reducible exact H2_) | (have H2_ := (Option.bind_some _ _).symm.trans H; with_reducible exact H2_) | with_reducible exact H | (rw [hy395]; exact H) | exact H
   have Ny395 := Aside0.mk hy395
   clear hy395
   simp only [Option.some.injEq, Prod.mk.injEq] at H
   obtain ⟨rfl, rfl⟩ := H
   go_enter Try.func47, Try.ntmps47
   go_wp2_with (first | ((with_reducible refine gate_dst (N := 1) rfl ?_); refine box_event ?hg (N := 1) ?hd (cs := #[.int .i64 a0_0, .int .i64 a0_1, .int .i64 a0_2]) (t := 25) ?hr ?_; (case hd => rfl); (case hg => rfl); (case hr => first | (go_simp; done) | (go_simp; rfl)); intro gb387 hg w7 hbox hb; have n0_ := Aside0.mk (below_step (by repeat (first | (with_reducible first | exact HB.out | apply below_alloc | apply pw_below_drewN | apply below_drew1) | exact HB.out)) hb); have n1_ := Aside0.mk (hbox); have n2_ := Aside0.mk ((by rw [hg]; exact (below_size (by repeat (first | (with_reducible first | exact HB.out | apply below_alloc | apply pw_below_drewN | apply below_drew1) | exact HB.out))) : w.heap.size ≤ gb387)); have n3_ := Aside0.mk ((by rw [hg]; exact (below_size (by repeat (first | (with_reducible first | exact HB.out | apply below_alloc | apply pw_below_drewN | apply below_drew1) | exact HB.out))) : w.heap.size ≤ gb387)); clear HB; have HB := n0_; have BK387 := n1_; have GW387 := n2_; have GE387 := n3_; clear n0_ n1_ n2_ n3_; clear hb hbox hg; obtain ⟨hcz8_0, hcz8_1, hcz8_2⟩ := cel3 BK387.out; obtain ⟨hfz8_0, hfz8_1, hfz8_2⟩ := frz3 BK387.out) | ((with_reducible refine gate_callee (f := 63) rfl ?_); refine goesL_ (some 11) rfl rfl Try.func63 (by kernel_rfl) rfl #[.agg #[.int .i64 a0_0, .int .i64 a0_1, .int .i64 a0_2]] rfl (by (try simp only [List.map_toArray, List.map_cons, List.map_nil]); first | done | rfl | (simp only [List.length_drop, List.length_take]; rfl)) ?_; (with_reducible refine (masterdiscref06_Valid.calls a0_0 a0_1 a0_2 true _ A2.out).mono ?_); rintro e w9 ⟨rfl, hb⟩; refine ⟨_, rfl, ?_⟩; have n0_ := Aside0.mk (blk_below (g := gb387) (o := .cells #[.int .i64 a0_0, .int .i64 a0_1, .int .i64 a0_2] 25 (0, 0)) (by (with_reducible repeat (first | refine blk_drewN ?_ _ | refine blk_drew ?_ | refine blk_alloc ?_ _)); exact BK387.out) hb); have n1_ := Aside0.mk (below_step (by repeat (first | (with_reducible first | exact HB.out | apply below_alloc | apply pw_below_drewN | apply below_drew1 | refine below_set ?_ GE387.out) | exact HB.out)) hb); clear BK387; clear HB; have BK387 := n0_; have HB := n1_; clear n0_ n1_; (try clear hb); (try clear hb2); (try clear hk); (try clear hi); obtain ⟨hcz10_0, hcz10_1, hcz10_2⟩ := cel3 BK387.out; obtain ⟨hfz10_0, hfz10_1, hfz10_2⟩ := frz3 BK387.out) | ((with_reducible refine gate_callee (f := 65) rfl ?_); refine goesL_ (some 16) rfl rfl Try.func65 (by kernel_rfl) rfl #[.int .i64 a0_0] rfl (by (try simp only [List.map_toArray, List.map_cons, List.map_nil]); first | done | rfl | (simp only [List.length_drop, List.length_take]; rfl)) ?_; (with_reducible refine (masterdiscref01_BCD.calls a0_0 t389 t390 _ A4.out).mono ?_); rintro e w' ⟨rfl, ⟨nd, rfl⟩⟩; refine ⟨_, rfl, ?_⟩) | ((with_reducible refine gate_callee (f := 65) rfl ?_); refine goesL_ (some 22) rfl rfl Try.func65 (by kernel_rfl) rfl #[.int .i64 a0_1] rfl (by (try simp only [List.map_toArray, List.map_cons, List.map_nil]); first | done | rfl | (simp only [List.length_drop, List.length_take]; rfl)) ?_; (with_reducible refine (masterdiscref01_BCD.calls a0_1 t391 t392 _ A5.out).mono ?_); rintro e w' ⟨rfl, ⟨nd, rfl⟩⟩; refine ⟨_, rfl, ?_⟩) | ((with_reducible refine gate_callee (f := 65) rfl ?_); refine goesL_ (some 28) rfl rfl Try.func65 (by kernel_rfl) rfl #[.int .i64 a0_2] rfl (by (try simp only [List.map_toArray, List.map_cons, List.map_nil]); first | done | rfl | (simp only [List.length_drop, List.length_take]; rfl)) ?_; (with_reducible refine (masterdiscref01_BCD.calls a0_2 t393 t394 _ A6.out).mono ?_); rintro e w' ⟨rfl, ⟨nd, rfl⟩⟩; refine ⟨_, rfl, ?_⟩) | ((with_reducible refine gate_dst (N := 34) rfl ?_); refine Kd.R_lit (Kd.int .u8) _ 5 ?hg (N := 34) ?hd (xs := ([t389, t391, t393] : List Int)) (inner := [.int .u8 t389, .int .u8 t391, .int .u8 t393]) (ok := fun _ => True) (okp := fun _ => True) ?hr ?hp (fun _ hk => hk) trivial (Below.refl _ _) (Nat.le_refl _) (by simp) ?_; (case hd => rfl); (case hg => rfl); (case hr => first | (go_simp; done) | (go_simp; rfl)); (case hp => exact (Reps.one (show Kd.M (Kd.int .u8) _ _ _ t389 [.int .u8 t389] from rfl) (Reps.one (show Kd.M (Kd.int .u8) _ _ _ t391 [.int .u8 t391] from rfl) (Reps.one (show Kd.M (Kd.int .u8) _ _ _ t393 [.int .u8 t393] from rfl) (Reps.none _ _))))); intro v396 w11 ho12 hb hg_ hnew_; clear hg_ hnew_; (first | rw [← Ny395.out] at ho12 | (simp only [Int.reduceToNat] at ho12; rw [← Ny395.out] at ho12)); have n0_ := Aside0.mk (Kd.R_lower ho12 (below_size (by repeat (first | (with_reducible first | exact HB.out | apply below_alloc | apply pw_below_drewN | apply below_drew1 | refine below_set ?_ GE387.out) | exact HB.out)))); have n1_ := Aside0.mk (blk_below (g := gb387) (o := .cells #[.int .i64 a0_0, .int .i64 a0_1, .int .i64 a0_2] 25 (0, 0)) (by (with_reducible repeat (first | refine blk_drewN ?_ _ | refine blk_drew ?_ | refine blk_alloc ?_ _)); exact BK387.out) hb); have n2_ := Aside0.mk (below_step (by repeat (first | (with_reducible first | exact HB.out | apply below_alloc | apply pw_below_drewN | apply below_drew1 | refine below_set ?_ GE387.out) | exact HB.out)) hb); clear BK387; clear HB; have HO397 := n0_; have BK387 := n1_; have HB := n2_; clear n0_ n1_ n2_; clear hb ho12; have hcv13 := own_string (P := Try.prog) Try.underlying49 Try.underlying5 Try.underlying9 (Kd.own_of_R HO397.out)))
   go_ret2
   exact ⟨by first | rfl | (simp [errW_none, errW_some] <;> rfl) | (simp [*, errW_none, errW_some] <;> rfl), by repeat (first | (with_reducible first | exact HB.out | apply below_alloc | apply pw_below_drewN | apply below_drew1 | refine below_set ?_ GE387.out) | exact HB.out)⟩
 · replace c3 := Bool.eq_false_iff.mpr c3
   subst c3
   have H1 : (some ((⟨#[]⟩ : ByteArray), 1)) = some (r1, r2) := by rw [if_neg (show ¬ (false = true) by decide)] at H; exact H
   clear H
   have H := H1
   clear H1
   simp only [Option.some.injEq, Prod.mk.injEq] at H
   obtain ⟨rfl, rfl⟩ := H
   go_enter Try.func47, Try.ntmps47
   go_wp2_with (first | ((with_reducible refine gate_dst (N := 1) rfl ?_); refine box_event ?hg (N := 1) ?hd (cs := #[.int .i64 a0_0, .int .i64 a0_1, .int .i64 a0_2]) (t := 25) ?hr ?_; (case hd => rfl); (case hg => rfl); (case hr => first | (go_simp; done) | (go_simp; rfl)); intro gb387 hg w14 hbox hb; have n0_ := Aside0.mk (below_step (by repeat (first | (with_reducible first | exact HB.out | apply below_alloc | apply pw_below_drewN | apply below_drew1) | exact HB.out)) hb); have n1_ := Aside0.mk (hbox); have n2_ := Aside0.mk ((by rw [hg]; exact (below_size (by repeat (first | (with_reducible first | exact HB.out | apply below_alloc | apply pw_below_drewN | apply below_drew1) | exact HB.out))) : w.heap.size ≤ gb387)); have n3_ := Aside0.mk ((by rw [hg]; exact (below_size (by repeat (first | (with_reducible first | exact HB.out | apply below_alloc | apply pw_below_drewN | apply below_drew1) | exact HB.out))) : w.heap.size ≤ gb387)); clear HB; have HB := n0_; have BK387 := n1_; have GW387 := n2_; have GE387 := n3_; clear n0_ n1_ n2_ n3_; clear hb hbox hg; obtain ⟨hcz15_0, hcz15_1, hcz15_2⟩ := cel3 BK387.out; obtain ⟨hfz15_0, hfz15_1, hfz15_2⟩ := frz3 BK387.out) | ((with_reducible refine gate_callee (f := 63) rfl ?_); refine goesL_ (some 11) rfl rfl Try.func63 (by kernel_rfl) rfl #[.agg #[.int .i64 a0_0, .int .i64 a0_1, .int .i64 a0_2]] rfl (by (try simp only [List.map_toArray, List.map_cons, List.map_nil]); first | done | rfl | (simp only [List.length_drop, List.length_take]; rfl)) ?_; (with_reducible refine (masterdiscref06_Valid.calls a0_0 a0_1 a0_2 false _ A2.out).mono ?_); rintro e w16 ⟨rfl, hb⟩; refine ⟨_, rfl, ?_⟩; have n0_ := Aside0.mk (blk_below (g := gb387) (o := .cells #[.int .i64 a0_0, .int .i64 a0_1, .int .i64 a0_2] 25 (0, 0)) (by (with_reducible repeat (first | refine blk_drewN ?_ _ | refine blk_drew ?_ | refine blk_alloc ?_ _)); exact BK387.out) hb); have n1_ := Aside0.mk (below_step (by repeat (first | (with_reducible first | exact HB.out | apply below_alloc | apply pw_below_drewN | apply below_drew1 | refine below_set ?_ GE387.out) | exact HB.out)) hb); clear BK387; clear HB; have BK387 := n0_; have HB := n1_; clear n0_ n1_; (try clear hb); (try clear hb2); (try clear hk); (try clear hi)))
   go_ret2
   exact ⟨by first | rfl | (simp [errW_none, errW_some] <;> rfl) | (simp [*, errW_none, errW_some] <;> rfl), by repeat (first | (with_reducible first | exact HB.out | apply below_alloc | apply pw_below_drewN | apply below_drew1 | refine below_set ?_ GE387.out) | exact HB.out)⟩
end Go.Proofs.Ytpmkibggmkibeaa.G
namespace Go.Proofs.Ytpmkibggmkibeaa.G
open Go.RowKit Go.Proofs.YtpmkibggmkibeaaW.PrintWords Go.Proofs.YtpmkibggmkibeaaW.PrintLast Go.Proofs.YtpmkibggmkibeaaW.PrintMore
attribute [local go_sem] max2_int min2_int max_two min_two max_three min_three max_four min_four   -- for this text's walks alone
set_option linter.unusedVariables false
set_option linter.unusedSimpArgs false
mutual
def masterdiscref10_Valid.j0 : Nat → Bool → Int → Int → Int → Int → Int → Int → Int → Int → Int → Option (Bool)
 | 0, _, _, _, _, _, _, _, _, _, _ => none
 | k + 1, x3, x385000, x385001, x385002, x385003, x385004, x385005, x385006, x385007, x385008 => if x385002 ≥ 0 then (if x385002 ≤ 99 then (masterdiscref10_Valid.j1 k x3 true x385000 x385001 x385002 x385003 x385004 x385005 x385006 x385007 x385008) else (if x385002 ≥ 160 then (masterdiscref10_Valid.j1 k x3 (decide (x385002 ≤ 162)) x385000 x385001 x385002 x385003 x385004 x385005 x385006 x385007 x385008) else (masterdiscref10_Valid.j1 k x3 false x385000 x385001 x385002 x385003 x385004 x385005 x385006 x385007 x385008))) else (if x385002 ≥ 160 then (masterdiscref10_Valid.j1 k x3 (decide (x385002 ≤ 162)) x385000 x385001 x385002 x385003 x385004 x385005 x385006 x385007 x385008) else (masterdiscref10_Valid.j1 k x3 false x385000 x385001 x385002 x385003 x385004 x385005 x385006 x385007 x385008))
def masterdiscref10_Valid.j1 : Nat → Bool → Bool → Int → Int → Int → Int → Int → Int → Int → Int → Int → Option (Bool)
 | 0, _, _, _, _, _, _, _, _, _, _, _ => none
 | k + 1, x3, x4, x385000, x385001, x385002, x385003, x385004, x385005, x385006, x385007, x385008 => if x385000 ≥ 0 then (if x385000 ≤ 15 then (if x3 = true then (if x4 = true then ((masterdiscref06_Valid.f x385003 x385004 x385005).bind fun t385 => (if t385 = true then ((masterdiscref06_Valid.f x385006 x385007 x385008).bind fun t386 => (some t386)) else (some false))) else (some false)) else (some false)) else (some false)) else (some false)
end
def masterdiscref10_Valid.f (k : Nat) (a0_0 : Int) (a0_1 : Int) (a0_2 : Int) (a0_3 : Int) (a0_4 : Int) (a0_5 : Int) (a0_6 : Int) (a0_7 : Int) (a0_8 : Int) : Option (Bool) := if a0_1 ≥ 0 then (if a0_1 ≤ 99 then (masterdiscref10_Valid.j0 k true a0_0 a0_1 a0_2 a0_3 a0_4 a0_5 a0_6 a0_7 a0_8) else (masterdiscref10_Valid.j0 k (a0_1 == 170) a0_0 a0_1 a0_2 a0_3 a0_4 a0_5 a0_6 a0_7 a0_8)) else (masterdiscref10_Valid.j0 k (a0_1 == 170) a0_0 a0_1 a0_2 a0_3 a0_4 a0_5 a0_6 a0_7 a0_8)
theorem masterdiscref10_Valid.mono_l : ∀ k, (∀ y0 y1 y2 y3 y4 y5 y6 y7 y8 y9, LeO (masterdiscref10_Valid.j0 k y0 y1 y2 y3 y4 y5 y6 y7 y8 y9) (masterdiscref10_Valid.j0 (k + 1) y0 y1 y2 y3 y4 y5 y6 y7 y8 y9)) ∧ (∀ y0 y1 y2 y3 y4 y5 y6 y7 y8 y9 y10, LeO (masterdiscref10_Valid.j1 k y0 y1 y2 y3 y4 y5 y6 y7 y8 y9 y10) (masterdiscref10_Valid.j1 (k + 1) y0 y1 y2 y3 y4 y5 y6 y7 y8 y9 y10))
 | 0 => ⟨fun _ _ _ _ _ _ _ _ _ _ r h => by simp [masterdiscref10_Valid.j0] at h, fun _ _ _ _ _ _ _ _ _ _ _ r h => by simp [masterdiscref10_Valid.j1] at h⟩
 | k + 1 => by
  obtain ⟨ih0, ih1⟩ := masterdiscref10_Valid.mono_l k
  refine ⟨?_, ?_⟩
  · intro y0 y1 y2 y3 y4 y5 y6 y7 y8 y9
    unfold masterdiscref10_Valid.j0
    repeat' first
    | (with_reducible exact ih0 _ _ _ _ _ _ _ _ _ _)
    | (with_reducible exact ih1 _ _ _ _ _ _ _ _ _ _ _)
    | (with_reducible exact LeO.refl _)
    | (with_reducible exact LeO.none _)
    | (with_reducible refine LeO.ite ?_ ?_)
    | (with_reducible refine LeO.bind ?_ (fun _ => ?_))
    | exact ih0 _ _ _ _ _ _ _ _ _ _
    | exact ih1 _ _ _ _ _ _ _ _ _ _ _
    | exact LeO.none _
    | refine LeO.ite ?_ ?_
    | refine LeO.bind ?_ (fun _ => ?_)
  · intro y0 y1 y2 y3 y4 y5 y6 y7 y8 y9 y10
    unfold masterdiscref10_Valid.j1
    repeat' first
    | (with_reducible exact ih0 _ _ _ _ _ _ _ _ _ _)
    | (with_reducible exact ih1 _ _ _ _ _ _ _ _ _ _ _)
    | (with_reducible exact LeO.refl _)
    | (with_reducible exact LeO.none _)
    | (with_reducible refine LeO.ite ?_ ?_)
    | (with_reducible refine LeO.bind ?_ (fun _ => ?_))
    | exact ih0 _ _ _ _ _ _ _ _ _ _
    | exact ih1 _ _ _ _ _ _ _ _ _ _ _
    | exact LeO.none _
    | refine LeO.ite ?_ ?_
    | refine LeO.bind ?_ (fun _ => ?_)
theorem masterdiscref10_Valid.mono : ∀ a0 a1 a2 a3 a4 a5 a6 a7 a8 k, LeO (masterdiscref10_Valid.f k a0 a1 a2 a3 a4 a5 a6 a7 a8) (masterdiscref10_Valid.f (k + 1) a0 a1 a2 a3 a4 a5 a6 a7 a8) := by
 intro a0 a1 a2 a3 a4 a5 a6 a7 a8 k
 obtain ⟨ih0, ih1⟩ := masterdiscref10_Valid.mono_l k
 unfold masterdiscref10_Valid.f
 repeat' first
  | (with_reducible exact ih0 _ _ _ _ _ _ _ _ _ _)
  | (with_reducible exact ih1 _ _ _ _ _ _ _ _ _ _ _)
  | (with_reducible exact LeO.refl _)
  | (with_reducible exact LeO.none _)
  | (with_reducible refine LeO.ite ?_ ?_)
  | (with_reducible refine LeO.bind ?_ (fun _ => ?_))
  | exact ih0 _ _ _ _ _ _ _ _ _ _
  | exact ih1 _ _ _ _ _ _ _ _ _ _ _
  | exact LeO.none _
  | refine LeO.ite ?_ ?_
  | refine LeO.bind ?_ (fun _ => ?_)
set_option maxHeartbeats 8000000 in
set_option maxRecDepth 100000 in
theorem masterdiscref10_Valid.calls (k : Nat) (a0_0 : Int) (a0_1 : Int) (a0_2 : Int) (a0_3 : Int) (a0_4 : Int) (a0_5 : Int) (a0_6 : Int) (a0_7 : Int) (a0_8 : Int) (r : Bool) (w : World) (h : masterdiscref10_Valid.f k a0_0 a0_1 a0_2 a0_3 a0_4 a0_5 a0_6 a0_7 a0_8 = some r) :
 Calls Try.prog 46 #[.agg #[.int .i64 a0_0, .int .i64 a0_1, .int .i64 a0_2, .int .i64 a0_3, .int .i64 a0_4, .int .i64 a0_5, .int .i64 a0_6, .int .i64 a0_7, .int .i64 a0_8]] w fun e w' => e = .returned (.bool r) ∧ Below w.heap.size w w' := by
 have hu27 := Try.underlying27
 have hu25 := Try.underlying25
 have HB := Aside0.mk (Below.refl w.heap.size w)
 have H : (if a0_1 ≥ 0 then (if a0_1 ≤ 99 then (masterdiscref10_Valid.j0 k true a0_0 a0_1 a0_2 a0_3 a0_4 a0_5 a0_6 a0_7 a0_8) else (masterdiscref10_Valid.j0 k (a0_1 == 170) a0_0 a0_1 a0_2 a0_3 a0_4 a0_5 a0_6 a0_7 a0_8)) else (masterdiscref10_Valid.j0 k (a0_1 == 170) a0_0 a0_1 a0_2 a0_3 a0_4 a0_5 a0_6 a0_7 a0_8)) = some r := h
 clear h
 have HC2 := Aside0.mk H
 clear H
 go_enter Try.func46, Try.ntmps46
 go_upto_region 1 with (first | ((with_reducible refine gate_dst (N := 1) rfl ?_); refine box_event ?hg (N := 1) ?hd (cs := #[.int .i64 a0_0, .int .i64 a0_1, .int .i64 a0_2, .int .i64 a0_3, .int .i64 a0_4, .int .i64 a0_5, .int .i64 a0_6, .int .i64 a0_7, .int .i64 a0_8]) (t := 27) ?hr ?_; (case hd => rfl); (case hg => rfl); (case hr => first | (go_simp; done) | (go_simp; rfl)); intro gb384 hg w3 hbox hb; have n0_ := Aside0.mk (below_step (by repeat (first | (with_reducible first | exact HB.out | apply below_alloc | apply pw_below_drewN | apply below_drew1) | exact HB.out)) hb); have n1_ := Aside0.mk (hbox); have n2_ := Aside0.mk ((by rw [hg]; exact (below_size (by repeat (first | (with_reducible first | exact HB.out | apply below_alloc | apply pw_below_drewN | apply below_drew1) | exact HB.out))) : w.heap.size ≤ gb384)); have n3_ := Aside0.mk ((by rw [hg]; exact (below_size (by repeat (first | (with_reducible first | exact HB.out | apply below_alloc | apply pw_below_drewN | apply below_drew1) | exact HB.out))) : w.heap.size ≤ gb384)); clear HB; have HB := n0_; have BK384 := n1_; have GW384 := n2_; have GE384 := n3_; clear n0_ n1_ n2_ n3_; clear hb hbox hg))
 (try simp only [Act.put, List.setIfInBounds_toArray, List.set_cons_zero, List.set_cons_succ])
 go_cut [3] (fun v3 wc => ∃ (kq : Nat) (x3_1 : Bool), v3 = .bool x3_1 ∧ Aside0 (masterdiscref10_Valid.j0 kq x3_1 a0_0 a0_1 a0_2 a0_3 a0_4 a0_5 a0_6 a0_7 a0_8 = some r) ∧ Aside0 (kq ≤ k) ∧ Aside0 (wc.heap[gb384]? = some (.cells #[.int .i64 a0_0, .int .i64 a0_1, .int .i64 a0_2, .int .i64 a0_3, .int .i64 a0_4, .int .i64 a0_5, .int .i64 a0_6, .int .i64 a0_7, .int .i64 a0_8] 27 (0, 0))) ∧ Aside0 (Below w.heap.size w wc))
 case first =>
  have H := HC2.out
  clear HC2
  by_cases c4 : a0_1 ≥ 0
  · rw [if_pos c4] at H
    have c4b0 : decide (0 ≤ a0_1) = true := decide_eq_true c4
    clear c4
    (first | rw [c4b0] | (simp only [i64_w, i32_w]; rw [c4b0]) | skip)
    by_cases c5 : a0_1 ≤ 99
    · rw [if_pos c5] at H
      have c5b0 : decide (a0_1 ≤ 99) = true := decide_eq_true c5
      clear c5
      have H' := Aside0.mk H
      clear H
      have hcz6_0 : w3.cell? ⟨gb384, 0, none⟩ = some (.int .i64 a0_0) := (blk_cell BK384.out 0).trans rfl
      have hcz6_1 : w3.cell? ⟨gb384, 1, none⟩ = some (.int .i64 a0_1) := (blk_cell BK384.out 1).trans rfl
      have hcz6_2 : w3.cell? ⟨gb384, 2, none⟩ = some (.int .i64 a0_2) := (blk_cell BK384.out 2).trans rfl
      have hcz6_3 : w3.cell? ⟨gb384, 3, none⟩ = some (.int .i64 a0_3) := (blk_cell BK384.out 3).trans rfl
      have hcz6_4 : w3.cell? ⟨gb384, 4, none⟩ = some (.int .i64 a0_4) := (blk_cell BK384.out 4).trans rfl
      have hcz6_5 : w3.cell? ⟨gb384, 5, none⟩ = some (.int .i64 a0_5) := (blk_cell BK384.out 5).trans rfl
      have hcz6_6 : w3.cell? ⟨gb384, 6, none⟩ = some (.int .i64 a0_6) := (blk_cell BK384.out 6).trans rfl
      have hcz6_7 : w3.cell? ⟨gb384, 7, none⟩ = some (.int .i64 a0_7) := (blk_cell BK384.out 7).trans rfl
      have hcz6_8 : w3.cell? ⟨gb384, 8, none⟩ = some (.int .i64 a0_8) := (blk_cell BK384.out 8).trans rfl
      have hfz6_0 := blk_frozen BK384.out 0
      have hfz6_1 := blk_frozen BK384.out 1
      have hfz6_2 := blk_frozen BK384.out 2
      have hfz6_3 := blk_frozen BK384.out 3
      have hfz6_4 := blk_frozen BK384.out 4
      have hfz6_5 := blk_frozen BK384.out 5
      have hfz6_6 := blk_frozen BK384.out 6
      have hfz6_7 := blk_frozen BK384.out 7
      have hfz6_8 := blk_frozen BK384.out 8
      go_wp2
      go_meet
      case rel => exact ⟨_, (true), (by first | rfl | (simp; done) | (simp [*]; done)), H', ⟨by first | omega | exact Nat.le_refl _⟩, ⟨by (with_reducible repeat (first | refine blk_drewN ?_ _ | refine blk_drew ?_ | refine blk_alloc ?_ _)); exact BK384.out⟩, ⟨by repeat (first | (with_reducible first | exact HB.out | apply below_alloc | apply pw_below_drewN | apply below_drew1 | refine below_set ?_ GE384.out) | exact HB.out)⟩⟩
    · rw [if_neg c5] at H
      have c5b0 : decide (a0_1 ≤ 99) = false := decide_eq_false c5
      clear c5
      have H' := Aside0.mk H
      clear H
      have hcz7_0 : w3.cell? ⟨gb384, 0, none⟩ = some (.int .i64 a0_0) := (blk_cell BK384.out 0).trans rfl
      have hcz7_1 : w3.cell? ⟨gb384, 1, none⟩ = some (.int .i64 a0_1) := (blk_cell BK384.out 1).trans rfl
      have hcz7_2 : w3.cell? ⟨gb384, 2, none⟩ = some (.int .i64 a0_2) := (blk_cell BK384.out 2).trans rfl
      have hcz7_3 : w3.cell? ⟨gb384, 3, none⟩ = some (.int .i64 a0_3) := (blk_cell BK384.out 3).trans rfl
      have hcz7_4 : w3.cell? ⟨gb384, 4, none⟩ = some (.int .i64 a0_4) := (blk_cell BK384.out 4).trans rfl
      have hcz7_5 : w3.cell? ⟨gb384, 5, none⟩ = some (.int .i64 a0_5) := (blk_cell BK384.out 5).trans rfl
      have hcz7_6 : w3.cell? ⟨gb384, 6, none⟩ = some (.int .i64 a0_6) := (blk_cell BK384.out 6).trans rfl
      have hcz7_7 : w3.cell? ⟨gb384, 7, none⟩ = some (.int .i64 a0_7) := (blk_cell BK384.out 7).trans rfl
      have hcz7_8 : w3.cell? ⟨gb384, 8, none⟩ = some (.int .i64 a0_8) := (blk_cell BK384.out 8).trans rfl
      have hfz7_0 := blk_frozen BK384.out 0
      have hfz7_1 := blk_frozen BK384.out 1
      have hfz7_2 := blk_frozen BK384.out 2
      have hfz7_3 := blk_frozen BK384.out 3
      have hfz7_4 := blk_frozen BK384.out 4
      have hfz7_5 := blk_frozen BK384.out 5
      have hfz7_6 := blk_frozen BK384.out 6
      have hfz7_7 := blk_frozen BK384.out 7
      have hfz7_8 := blk_frozen BK384.out 8
      go_wp2
      go_meet
      case rel => exact ⟨_, ((a0_1 == 170)), (by first | rfl | (simp; done) | (simp [*]; done)), H', ⟨by first | omega | exact Nat.le_refl _⟩, ⟨by (with_reducible repeat (first | refine blk_drewN ?_ _ | refine blk_drew ?_ | refine blk_alloc ?_ _)); exact BK384.out⟩, ⟨by repeat (first | (with_reducible first | exact HB.out | apply below_alloc | apply pw_below_drewN | apply below_drew1 | refine below_set ?_ GE384.out) | exact HB.out)⟩⟩
  · rw [if_neg c4] at H
    have c4b0 : decide (0 ≤ a0_1) = false := decide_eq_false c4
    clear c4
    (first | rw [c4b0] | (simp only [i64_w, i32_w]; rw [c4b0]) | skip)
    have H' := Aside0.mk H
    clear H
    have hcz8_0 : w3.cell? ⟨gb384, 0, none⟩ = some (.int .i64 a0_0) := (blk_cell BK384.out 0).trans rfl
    have hcz8_1 : w3.cell? ⟨gb384, 1, none⟩ = some (.int .i64 a0_1) := (blk_cell BK384.out 1).trans rfl
    have hcz8_2 : w3.cell? ⟨gb384, 2, none⟩ = some (.int .i64 a0_2) := (blk_cell BK384.out 2).trans rfl
    have hcz8_3 : w3.cell? ⟨gb384, 3, none⟩ = some (.int .i64 a0_3) := (blk_cell BK384.out 3).trans rfl
    have hcz8_4 : w3.cell? ⟨gb384, 4, none⟩ = some (.int .i64 a0_4) := (blk_cell BK384.out 4).trans rfl
    have hcz8_5 : w3.cell? ⟨gb384, 5, none⟩ = some (.int .i64 a0_5) := (blk_cell BK384.out 5).trans rfl
    have hcz8_6 : w3.cell? ⟨gb384, 6, none⟩ = some (.int .i64 a0_6) := (blk_cell BK384.out 6).trans rfl
    have hcz8_7 : w3.cell? ⟨gb384, 7, none⟩ = some (.int .i64 a0_7) := (blk_cell BK384.out 7).trans rfl
    have hcz8_8 : w3.cell? ⟨gb384, 8, none⟩ = some (.int .i64 a0_8) := (blk_cell BK384.out 8).trans rfl
    have hfz8_0 := blk_frozen BK384.out 0
    have hfz8_1 := blk_frozen BK384.out 1
    have hfz8_2 := blk_frozen BK384.out 2
    have hfz8_3 := blk_frozen BK384.out 3
    have hfz8_4 := blk_frozen BK384.out 4
    have hfz8_5 := blk_frozen BK384.out 5
    have hfz8_6 := blk_frozen BK384.out 6
    have hfz8_7 := blk_frozen BK384.out 7
    have hfz8_8 := blk_frozen BK384.out 8
    go_wp2
    go_meet
    case rel => exact ⟨_, ((a0_1 == 170)), (by first | rfl | (simp; done) | (simp [*]; done)), H', ⟨by first | omega | exact Nat.le_refl _⟩, ⟨by (with_reducible repeat (first | refine blk_drewN ?_ _ | refine blk_drew ?_ | refine blk_alloc ?_ _)); exact BK384.out⟩, ⟨by repeat (first | (with_reducible first | exact HB.out | apply below_alloc | apply pw_below_drewN | apply below_drew1 | refine below_set ?_ GE384.out) | exact HB.out)⟩⟩
 case rest =>
  clear HC2
  try clear p2
  try clear c4
  try clear c4b0
  try clear c5
  try clear c5b0
  try clear hcz6_0
  try clear hcz6_1
  try clear hcz6_2
  try clear hcz6_3
  try clear hcz6_4
  try clear hcz6_5
  try clear hcz6_6
  try clear hcz6_7
  try clear hcz6_8
  try clear hcz7_0
  try clear hcz7_1
  try clear hcz7_2
  try clear hcz7_3
  try clear hcz7_4
  try clear hcz7_5
  try clear hcz7_6
  try clear hcz7_7
  try clear hcz7_8
  try clear hcz8_0
  try clear hcz8_1
  try clear hcz8_2
  try clear hcz8_3
  try clear hcz8_4
  try clear hcz8_5
  try clear hcz8_6
  try clear hcz8_7
  try clear hcz8_8
  try clear hfz6_0
  try clear hfz6_1
  try clear hfz6_2
  try clear hfz6_3
  try clear hfz6_4
  try clear hfz6_5
  try clear hfz6_6
  try clear hfz6_7
  try clear hfz6_8
  try clear hfz7_0
  try clear hfz7_1
  try clear hfz7_2
  try clear hfz7_3
  try clear hfz7_4
  try clear hfz7_5
  try clear hfz7_6
  try clear hfz7_7
  try clear hfz7_8
  try clear hfz8_0
  try clear hfz8_1
  try clear hfz8_2
  try clear hfz8_3
  try clear hfz8_4
  try clear hfz8_5
  try clear hfz8_6
  try clear hfz8_7
  try clear hfz8_8
  obtain ⟨kq, x3_1, rfl, HA, HJ1, BK384, HB⟩ := hcut
  cases kq with
  | zero => exact absurd HA.out (by simp [masterdiscref10_Valid.j0])
  | succ kj1 =>
   have H := HA.out
   clear HA
   simp only [masterdiscref10_Valid.j0] at H
   have HC9 := Aside0.mk H
   clear H
   go_upto_region 2 with (fail)
   go_cut [4] (fun v4 wc => ∃ (kq : Nat) (x4_8 : Bool), v4 = .bool x4_8 ∧ Aside0 (masterdiscref10_Valid.j1 kq x3_1 x4_8 a0_0 a0_1 a0_2 a0_3 a0_4 a0_5 a0_6 a0_7 a0_8 = some r) ∧ Aside0 (kq ≤ kj1) ∧ Aside0 (wc.heap[gb384]? = some (.cells #[.int .i64 a0_0, .int .i64 a0_1, .int .i64 a0_2, .int .i64 a0_3, .int .i64 a0_4, .int .i64 a0_5, .int .i64 a0_6, .int .i64 a0_7, .int .i64 a0_8] 27 (0, 0))) ∧ Aside0 (Below w.heap.size w wc))
   case first =>
    have H := HC9.out
    clear HC9
    by_cases c10 : a0_2 ≥ 0
    · rw [if_pos c10] at H
      have c10b0 : decide (0 ≤ a0_2) = true := decide_eq_true c10
      clear c10
      (first | rw [c10b0] | (simp only [i64_w, i32_w]; rw [c10b0]) | skip)
      by_cases c11 : a0_2 ≤ 99
      · rw [if_pos c11] at H
        have c11b0 : decide (a0_2 ≤ 99) = true := decide_eq_true c11
        clear c11
        have H' := Aside0.mk H
        clear H
        have hcz12_0 : wc.cell? ⟨gb384, 0, none⟩ = some (.int .i64 a0_0) := (blk_cell BK384.out 0).trans rfl
        have hcz12_1 : wc.cell? ⟨gb384, 1, none⟩ = some (.int .i64 a0_1) := (blk_cell BK384.out 1).trans rfl
        have hcz12_2 : wc.cell? ⟨gb384, 2, none⟩ = some (.int .i64 a0_2) := (blk_cell BK384.out 2).trans rfl
        have hcz12_3 : wc.cell? ⟨gb384, 3, none⟩ = some (.int .i64 a0_3) := (blk_cell BK384.out 3).trans rfl
        have hcz12_4 : wc.cell? ⟨gb384, 4, none⟩ = some (.int .i64 a0_4) := (blk_cell BK384.out 4).trans rfl
        have hcz12_5 : wc.cell? ⟨gb384, 5, none⟩ = some (.int .i64 a0_5) := (blk_cell BK384.out 5).trans rfl
        have hcz12_6 : wc.cell? ⟨gb384, 6, none⟩ = some (.int .i64 a0_6) := (blk_cell BK384.out 6).trans rfl
        have hcz12_7 : wc.cell? ⟨gb384, 7, none⟩ = some (.int .i64 a0_7) := (blk_cell BK384.out 7).trans rfl
        have hcz12_8 : wc.cell? ⟨gb384, 8, none⟩ = some (.int .i64 a0_8) := (blk_cell BK384.out 8).trans rfl
        have hfz12_0 := blk_frozen BK384.out 0
        have hfz12_1 := blk_frozen BK384.out 1
        have hfz12_2 := blk_frozen BK384.out 2
        have hfz12_3 := blk_frozen BK384.out 3
        have hfz12_4 := blk_frozen BK384.out 4
        have hfz12_5 := blk_frozen BK384.out 5
        have hfz12_6 := blk_frozen BK384.out 6
        have hfz12_7 := blk_frozen BK384.out 7
        have hfz12_8 := blk_frozen BK384.out 8
        go_wp2
        go_meet
        case rel => exact ⟨_, (true), (by first | rfl | (simp; done) | (simp [*]; done)), H', ⟨by have := HJ1.out; first | omega | exact Nat.le_refl _⟩, ⟨by (with_reducible repeat (first | refine blk_drewN ?_ _ | refine blk_drew ?_ | refine blk_alloc ?_ _)); exact BK384.out⟩, ⟨by repeat (first | (with_reducible first | exact HB.out | apply below_alloc | apply pw_below_drewN | apply below_drew1 | refine below_set ?_ GE384.out) | exact HB.out)⟩⟩
      · rw [if_neg c11] at H
        have c11b0 : decide (a0_2 ≤ 99) = false := decide_eq_false c11
        clear c11
        by_cases c13 : a0_2 ≥ 160
        · rw [if_pos c13] at H
          have c13b0 : decide (160 ≤ a0_2) = true := decide_eq_true c13
          clear c13
          have H' := Aside0.mk H
          clear H
          have hcz14_0 : wc.cell? ⟨gb384, 0, none⟩ = some (.int .i64 a0_0) := (blk_cell BK384.out 0).trans rfl
          have hcz14_1 : wc.cell? ⟨gb384, 1, none⟩ = some (.int .i64 a0_1) := (blk_cell BK384.out 1).trans rfl
          have hcz14_2 : wc.cell? ⟨gb384, 2, none⟩ = some (.int .i64 a0_2) := (blk_cell BK384.out 2).trans rfl
          have hcz14_3 : wc.cell? ⟨gb384, 3, none⟩ = some (.int .i64 a0_3) := (blk_cell BK384.out 3).trans rfl
          have hcz14_4 : wc.cell? ⟨gb384, 4, none⟩ = some (.int .i64 a0_4) := (blk_cell BK384.out 4).trans rfl
          have hcz14_5 : wc.cell? ⟨gb384, 5, none⟩ = some (.int .i64 a0_5) := (blk_cell BK384.out 5).trans rfl
          have hcz14_6 : wc.cell? ⟨gb384, 6, none⟩ = some (.int .i64 a0_6) := (blk_cell BK384.out 6).trans rfl
          have hcz14_7 : wc.cell? ⟨gb384, 7, none⟩ = some (.int .i64 a0_7) := (blk_cell BK384.out 7).trans rfl
          have hcz14_8 : wc.cell? ⟨gb384, 8, none⟩ = some (.int .i64 a0_8) := (blk_cell BK384.out 8).trans rfl
          have hfz14_0 := blk_frozen BK384.out 0
          have hfz14_1 := blk_frozen BK384.out 1
          have hfz14_2 := blk_frozen BK384.out 2
          have hfz14_3 := blk_frozen BK384.out 3
          have hfz14_4 := blk_frozen BK384.out 4
          have hfz14_5 := blk_frozen BK384.out 5
          have hfz14_6 := blk_frozen BK384.out 6
          have hfz14_7 := blk_frozen BK384.out 7
          have hfz14_8 := blk_frozen BK384.out 8
          go_wp2
          go_meet
          case rel => exact ⟨_, (decide (a0_2 ≤ 162)), (by first | rfl | (simp; done) | (simp [*]; done)), H', ⟨by have := HJ1.out; first | omega | exact Nat.le_refl _⟩, ⟨by (with_reducible repeat (first | refine blk_drewN ?_ _ | refine blk_drew ?_ | refine blk_alloc ?_ _)); exact BK384.out⟩, ⟨by repeat (first | (with_reducible first | exact HB.out | apply below_alloc | apply pw_below_drewN | apply below_drew1 | refine below_set ?_ GE384.out) | exact HB.out)⟩⟩
        · rw [if_neg c13] at H
          have c13b0 : decide (160 ≤ a0_2) = false := decide_eq_false c13
          clear c13
          have H' := Aside0.mk H
          clear H
          have hcz15_0 : wc.cell? ⟨gb384, 0, none⟩ = some (.int .i64 a0_0) := (blk_cell BK384.out 0).trans rfl
          have hcz15_1 : wc.cell? ⟨gb384, 1, none⟩ = some (.int .i64 a0_1) := (blk_cell BK384.out 1).trans rfl
          have hcz15_2 : wc.cell? ⟨gb384, 2, none⟩ = some (.int .i64 a0_2) := (blk_cell BK384.out 2).trans rfl
          have hcz15_3 : wc.cell? ⟨gb384, 3, none⟩ = some (.int .i64 a0_3) := (blk_cell BK384.out 3).trans rfl
          have hcz15_4 : wc.cell? ⟨gb384, 4, none⟩ = some (.int .i64 a0_4) := (blk_cell BK384.out 4).trans rfl
          have hcz15_5 : wc.cell? ⟨gb384, 5, none⟩ = some (.int .i64 a0_5) := (blk_cell BK384.out 5).trans rfl
          have hcz15_6 : wc.cell? ⟨gb384, 6, none⟩ = some (.int .i64 a0_6) := (blk_cell BK384.out 6).trans rfl
          have hcz15_7 : wc.cell? ⟨gb384, 7, none⟩ = some (.int .i64 a0_7) := (blk_cell BK384.out 7).trans rfl
          have hcz15_8 : wc.cell? ⟨gb384, 8, none⟩ = some (.int .i64 a0_8) := (blk_cell BK384.out 8).trans rfl
          have hfz15_0 := blk_frozen BK384.out 0
          have hfz15_1 := blk_frozen BK384.out 1
          have hfz15_2 := blk_frozen BK384.out 2
          have hfz15_3 := blk_frozen BK384.out 3
          have hfz15_4 := blk_frozen BK384.out 4
          have hfz15_5 := blk_frozen BK384.out 5
          have hfz15_6 := blk_frozen BK384.out 6
          have hfz15_7 := blk_frozen BK384.out 7
          have hfz15_8 := blk_frozen BK384.out 8
          go_wp2
          go_meet
          case rel => exact ⟨_, (false), (by first | rfl | (simp; done) | (simp [*]; done)), H', ⟨by have := HJ1.out; first | omega | exact Nat.le_refl _⟩, ⟨by (with_reducible repeat (first | refine blk_drewN ?_ _ | refine blk_drew ?_ | refine blk_alloc ?_ _)); exact BK384.out⟩, ⟨by repeat (first | (with_reducible first | exact HB.out | apply below_alloc | apply pw_below_drewN | apply below_drew1 | refine below_set ?_ GE384.out) | exact HB.out)⟩⟩
    · rw [if_neg c10] at H
      have c10b0 : decide (0 ≤ a0_2) = false := decide_eq_false c10
      clear c10
      (first | rw [c10b0] | (simp only [i64_w, i32_w]; rw [c10b0]) | skip)
      by_cases c16 : a0_2 ≥ 160
      · rw [if_pos c16] at H
        have c16b0 : decide (160 ≤ a0_2) = true := decide_eq_true c16
        clear c16
        have H' := Aside0.mk H
        clear H
        have hcz17_0 : wc.cell? ⟨gb384, 0, none⟩ = some (.int .i64 a0_0) := (blk_cell BK384.out 0).trans rfl
        have hcz17_1 : wc.cell? ⟨gb384, 1, none⟩ = some (.int .i64 a0_1) := (blk_cell BK384.out 1).trans rfl
        have hcz17_2 : wc.cell? ⟨gb384, 2, none⟩ = some (.int .i64 a0_2) := (blk_cell BK384.out 2).trans rfl
        have hcz17_3 : wc.cell? ⟨gb384, 3, none⟩ = some (.int .i64 a0_3) := (blk_cell BK384.out 3).trans rfl
        have hcz17_4 : wc.cell? ⟨gb384, 4, none⟩ = some (.int .i64 a0_4) := (blk_cell BK384.out 4).trans rfl
        have hcz17_5 : wc.cell? ⟨gb384, 5, none⟩ = some (.int .i64 a0_5) := (blk_cell BK384.out 5).trans rfl
        have hcz17_6 : wc.cell? ⟨gb384, 6, none⟩ = some (.int .i64 a0_6) := (blk_cell BK384.out 6).trans rfl
        have hcz17_7 : wc.cell? ⟨gb384, 7, none⟩ = some (.int .i64 a0_7) := (blk_cell BK384.out 7).trans rfl
        have hcz17_8 : wc.cell? ⟨gb384, 8, none⟩ = some (.int .i64 a0_8) := (blk_cell BK384.out 8).trans rfl
        have hfz17_0 := blk_frozen BK384.out 0
        have hfz17_1 := blk_frozen BK384.out 1
        have hfz17_2 := blk_frozen BK384.out 2
        have hfz17_3 := blk_frozen BK384.out 3
        have hfz17_4 := blk_frozen BK384.out 4
        have hfz17_5 := blk_frozen BK384.out 5
        have hfz17_6 := blk_frozen BK384.out 6
        have hfz17_7 := blk_frozen BK384.out 7
        have hfz17_8 := blk_frozen BK384.out 8
        go_wp2
        go_meet
        case rel => exact ⟨_, (decide (a0_2 ≤ 162)), (by first | rfl | (simp; done) | (simp [*]; done)), H', ⟨by have := HJ1.out; first | omega | exact Nat.le_refl _⟩, ⟨by (with_reducible repeat (first | refine blk_drewN ?_ _ | refine blk_drew ?_ | refine blk_alloc ?_ _)); exact BK384.out⟩, ⟨by repeat (first | (with_reducible first | exact HB.out | apply below_alloc | apply pw_below_drewN | apply below_drew1 | refine below_set ?_ GE384.out) | exact HB.out)⟩⟩
      · rw [if_neg c16] at H
        have c16b0 : decide (160 ≤ a0_2) = false := decide_eq_false c16
        clear c16
        have H' := Aside0.mk H
        clear H
        have hcz18_0 : wc.cell? ⟨gb384, 0, none⟩ = some (.int .i64 a0_0) := (blk_cell BK384.out 0).trans rfl
        have hcz18_1 : wc.cell? ⟨gb384, 1, none⟩ = some (.int .i64 a0_1) := (blk_cell BK384.out 1).trans rfl
        have hcz18_2 : wc.cell? ⟨gb384, 2, none⟩ = some (.int .i64 a0_2) := (blk_cell BK384.out 2).trans rfl
        have hcz18_3 : wc.cell? ⟨gb384, 3, none⟩ = some (.int .i64 a0_3) := (blk_cell BK384.out 3).trans rfl
        have hcz18_4 : wc.cell? ⟨gb384, 4, none⟩ = some (.int .i64 a0_4) := (blk_cell BK384.out 4).trans rfl
        have hcz18_5 : wc.cell? ⟨gb384, 5, none⟩ = some (.int .i64 a0_5) := (blk_cell BK384.out 5).trans rfl
        have hcz18_6 : wc.cell? ⟨gb384, 6, none⟩ = some (.int .i64 a0_6) := (blk_cell BK384.out 6).trans rfl
        have hcz18_7 : wc.cell? ⟨gb384, 7, none⟩ = some (.int .i64 a0_7) := (blk_cell BK384.out 7).trans rfl
        have hcz18_8 : wc.cell? ⟨gb384, 8, none⟩ = some (.int .i64 a0_8) := (blk_cell BK384.out 8).trans rfl
        have hfz18_0 := blk_frozen BK384.out 0
        have hfz18_1 := blk_frozen BK384.out 1
        have hfz18_2 := blk_frozen BK384.out 2
        have hfz18_3 := blk_frozen BK384.out 3
        have hfz18_4 := blk_frozen BK384.out 4
        have hfz18_5 := blk_frozen BK384.out 5
        have hfz18_6 := blk_frozen BK384.out 6
        have hfz18_7 := blk_frozen BK384.out 7
        have hfz18_8 := blk_frozen BK384.out 8
        go_wp2
        go_meet
        case rel => exact ⟨_, (false), (by first | rfl | (simp; done) | (simp [*]; done)), H', ⟨by have := HJ1.out; first | omega | exact Nat.le_refl _⟩, ⟨by (with_reducible repeat (first | refine blk_drewN ?_ _ | refine blk_drew ?_ | refine blk_alloc ?_ _)); exact BK384.out⟩, ⟨by repeat (first | (with_reducible first | exact HB.out | apply below_alloc | apply pw_below_drewN | apply below_drew1 | refine below_set ?_ GE384.out) | exact HB.out)⟩⟩
   case rest =>
    clear HC9
    try clear c1
    try clear p2
    try clear c4
    try clear c4b0
    try clear c5
    try clear c5b0
    try clear c10
    try clear c10b0
    try clear c11
    try clear c11b0
    try clear c13
    try clear c13b0
    try clear c16
    try clear c16b0
    try clear hcz12_0
    try clear hcz12_1
    try clear hcz12_2
    try clear hcz12_3
    try clear hcz12_4
    try clear hcz12_5
    try clear hcz12_6
    try clear hcz12_7
    try clear hcz12_8
    try clear hcz14_0
    try clear hcz14_1
    try clear hcz14_2
    try clear hcz14_3
    try clear hcz14_4
    try clear hcz14_5
    try clear hcz14_6
    try clear hcz14_7
    try clear hcz14_8
    try clear hcz15_0
    try clear hcz15_1
    try clear hcz15_2
    try clear hcz15_3
    try clear hcz15_4
    try clear hcz15_5
    try clear hcz15_6
    try clear hcz15_7
    try clear hcz15_8
    try clear hcz17_0
    try clear hcz17_1
    try clear hcz17_2
    try clear hcz17_3
    try clear hcz17_4
    try clear hcz17_5
    try clear hcz17_6
    try clear hcz17_7
    try clear hcz17_8
    try clear hcz18_0
    try clear hcz18_1
    try clear hcz18_2
    try clear hcz18_3
    try clear hcz18_4
    try clear hcz18_5
    try clear hcz18_6
    try clear hcz18_7
    try clear hcz18_8
    try clear hcz6_0
    try clear hcz6_1
    try clear hcz6_2
    try clear hcz6_3
    try clear hcz6_4
    try clear hcz6_5
    try clear hcz6_6
    try clear hcz6_7
    try clear hcz6_8
    try clear hcz7_0
    try clear hcz7_1
    try clear hcz7_2
    try clear hcz7_3
    try clear hcz7_4
    try clear hcz7_5
    try clear hcz7_6
    try clear hcz7_7
    try clear hcz7_8
    try clear hcz8_0
    try clear hcz8_1
    try clear hcz8_2
    try clear hcz8_3
    try clear hcz8_4
    try clear hcz8_5
    try clear hcz8_6
    try clear hcz8_7
    try clear hcz8_8
    try clear hfz12_0
    try clear hfz12_1
    try clear hfz12_2
    try clear hfz12_3
    try clear hfz12_4
    try clear hfz12_5
    try clear hfz12_6
    try clear hfz12_7
    try clear hfz12_8
    try clear hfz14_0
    try clear hfz14_1
    try clear hfz14_2
    try clear hfz14_3
    try clear hfz14_4
    try clear hfz14_5
    try clear hfz14_6
    try clear hfz14_7
    try clear hfz14_8
    try clear hfz15_0
    try clear hfz15_1
    try clear hfz15_2
    try clear hfz15_3
    try clear hfz15_4
    try clear hfz15_5
    try clear hfz15_6
    try clear hfz15_7
    try clear hfz15_8
    try clear hfz17_0
    try clear hfz17_1
    try clear hfz17_2
    try clear hfz17_3
    try clear hfz17_4
    try clear hfz17_5
    try clear hfz17_6
    try clear hfz17_7
    try clear hfz17_8
    try clear hfz18_0
    try clear hfz18_1
    try clear hfz18_2
    try clear hfz18_3
    try clear hfz18_4
    try clear hfz18_5
    try clear hfz18_6
    try clear hfz18_7
    try clear hfz18_8
    try clear hfz6_0
    try clear hfz6_1
    try clear hfz6_2
    try clear hfz6_3
    try clear hfz6_4
    try clear hfz6_5
    try clear hfz6_6
    try clear hfz6_7
    try clear hfz6_8
    try clear hfz7_0
    try clear hfz7_1
    try clear hfz7_2
    try clear hfz7_3
    try clear hfz7_4
    try clear hfz7_5
    try clear hfz7_6
    try clear hfz7_7
    try clear hfz7_8
    try clear hfz8_0
    try clear hfz8_1
    try clear hfz8_2
    try clear hfz8_3
    try clear hfz8_4
    try clear hfz8_5
    try clear hfz8_6
    try clear hfz8_7
    try clear hfz8_8
    try clear p2
    obtain ⟨kq, x4_8, rfl, HA, HJ8, BK384, HB⟩ := hcut
    cases kq with
    | zero => exact absurd HA.out (by simp [masterdiscref10_Valid.j1])
    | succ kj8 =>
     have H := HA.out
     clear HA
     simp only [masterdiscref10_Valid.j1] at H
     by_cases c19 : a0_0 ≥ 0
     · rw [if_pos c19] at H
       have c19b0 : decide (0 ≤ a0_0) = true := decide_eq_true c19
       clear c19
       by_cases c20 : a0_0 ≤ 15
       · rw [if_pos c20] at H
         have c20b0 : decide (a0_0 ≤ 15) = true := decide_eq_true c20
         clear c20
         by_cases c21 : x3_1 = true
         · subst c21
           have H1 : (if x4_8 = true then ((masterdiscref06_Valid.f a0_3 a0_4 a0_5).bind fun t385 => (if t385 = true then ((masterdiscref06_Valid.f a0_6 a0_7 a0_8).bind fun t386 => (some t386)) else (some false))) else (some false)) = some r := by rw [if_pos rfl] at H; exact H
           clear H
           have H := H1
           clear H1
           by_cases c22 : x4_8 = true
           · subst c22
             have H1 : ((masterdiscref06_Valid.f a0_3 a0_4 a0_5).bind fun t385 => (if t385 = true then ((masterdiscref06_Valid.f a0_6 a0_7 a0_8).bind fun t386 => (some t386)) else (some false))) = some r := by rw [if_pos rfl] at H; exact H
             clear H
             have H := H1
             clear H1
             replace H := Option.bind_eq_some_iff.mp H
             obtain ⟨t385, A230, H⟩ := H
             replace H : (if t385 = true then ((masterdiscref06_Valid.f a0_6 a0_7 a0_8).bind fun t386 => (some t386)) else (some false)) = some r := H
             have A23 := Aside0.mk A230
             clear A230
             by_cases c24 : t385 = true
             · subst c24
               have H1 : ((masterdiscref06_Valid.f a0_6 a0_7 a0_8).bind fun t386 => (some t386)) = some r := by rw [if_pos rfl] at H; exact H
               clear H
               have H := H1
               clear H1
               replace H := Option.bind_eq_some_iff.mp H
               obtain ⟨t386, A250, H⟩ := H
               replace H : (some t386) = some r := H
               have A25 := Aside0.mk A250
               clear A250
               obtain rfl := Option.some.inj H
               have hcz26_0 : wc.cell? ⟨gb384, 0, none⟩ = some (.int .i64 a0_0) := (blk_cell BK384.out 0).trans rfl
               have hcz26_1 : wc.cell? ⟨gb384, 1, none⟩ = some (.int .i64 a0_1) := (blk_cell BK384.out 1).trans rfl
               have hcz26_2 : wc.cell? ⟨gb384, 2, none⟩ = some (.int .i64 a0_2) := (blk_cell BK384.out 2).trans rfl
               have hcz26_3 : wc.cell? ⟨gb384, 3, none⟩ = some (.int .i64 a0_3) := (blk_cell BK384.out 3).trans rfl
               have hcz26_4 : wc.cell? ⟨gb384, 4, none⟩ = some (.int .i64 a0_4) := (blk_cell BK384.out 4).trans rfl
               have hcz26_5 : wc.cell? ⟨gb384, 5, none⟩ = some (.int .i64 a0_5) := (blk_cell BK384.out 5).trans rfl
               have hcz26_6 : wc.cell? ⟨gb384, 6, none⟩ = some (.int .i64 a0_6) := (blk_cell BK384.out 6).trans rfl
               have hcz26_7 : wc.cell? ⟨gb384, 7, none⟩ = some (.int .i64 a0_7) := (blk_cell BK384.out 7).trans rfl
               have hcz26_8 : wc.cell? ⟨gb384, 8, none⟩ = some (.int .i64 a0_8) := (blk_cell BK384.out 8).trans rfl
               have hfz26_0 := blk_frozen BK384.out 0
               have hfz26_1 := blk_frozen BK384.out 1
               have hfz26_2 := blk_frozen BK384.out 2
               have hfz26_3 := blk_frozen BK384.out 3
               have hfz26_4 := blk_frozen BK384.out 4
               have hfz26_5 := blk_frozen BK384.out 5
               have hfz26_6 := blk_frozen BK384.out 6
               have hfz26_7 := blk_frozen BK384.out 7
               have hfz26_8 := blk_frozen BK384.out 8
               go_wp2_with (first | (go_at_call 63; (with_reducible refine (masterdiscref06_Valid.calls a0_3 a0_4 a0_5 true _ A23.out).mono ?_); rintro e w27 ⟨rfl, hb⟩; have n0_ := Aside0.mk (blk_below (g := gb384) (o := .cells #[.int .i64 a0_0, .int .i64 a0_1, .int .i64 a0_2, .int .i64 a0_3, .int .i64 a0_4, .int .i64 a0_5, .int .i64 a0_6, .int .i64 a0_7, .int .i64 a0_8] 27 (0, 0)) (by (with_reducible repeat (first | refine blk_drewN ?_ _ | refine blk_drew ?_ | refine blk_alloc ?_ _)); exact BK384.out) hb); have n1_ := Aside0.mk (below_step (by repeat (first | (with_reducible first | exact HB.out | apply below_alloc | apply pw_below_drewN | apply below_drew1 | refine below_set ?_ GE384.out) | exact HB.out)) hb); clear BK384; clear HB; have BK384 := n0_; have HB := n1_; clear n0_ n1_; (try clear hb); (try clear hb2); (try clear hk); (try clear hi); have hcz28_0 : w27.cell? ⟨gb384, 0, none⟩ = some (.int .i64 a0_0) := (blk_cell BK384.out 0).trans rfl; have hcz28_1 : w27.cell? ⟨gb384, 1, none⟩ = some (.int .i64 a0_1) := (blk_cell BK384.out 1).trans rfl; have hcz28_2 : w27.cell? ⟨gb384, 2, none⟩ = some (.int .i64 a0_2) := (blk_cell BK384.out 2).trans rfl; have hcz28_3 : w27.cell? ⟨gb384, 3, none⟩ = some (.int .i64 a0_3) := (blk_cell BK384.out 3).trans rfl; have hcz28_4 : w27.cell? ⟨gb384, 4, none⟩ = some (.int .i64 a0_4) := (blk_cell BK384.out 4).trans rfl; have hcz28_5 : w27.cell? ⟨gb384, 5, none⟩ = some (.int .i64 a0_5) := (blk_cell BK384.out 5).trans rfl; have hcz28_6 : w27.cell? ⟨gb384, 6, none⟩ = some (.int .i64 a0_6) := (blk_cell BK384.out 6).trans rfl; have hcz28_7 : w27.cell? ⟨gb384, 7, none⟩ = some (.int .i64 a0_7) := (blk_cell BK384.out 7).trans rfl; have hcz28_8 : w27.cell? ⟨gb384, 8, none⟩ = some (.int .i64 a0_8) := (blk_cell BK384.out 8).trans rfl; have hfz28_0 := blk_frozen BK384.out 0; have hfz28_1 := blk_frozen BK384.out 1; have hfz28_2 := blk_frozen BK384.out 2; have hfz28_3 := blk_frozen BK384.out 3; have hfz28_4 := blk_frozen BK384.out 4; have hfz28_5 := blk_frozen BK384.out 5; have hfz28_6 := blk_frozen BK384.out 6; have hfz28_7 := blk_frozen BK384.out 7; have hfz28_8 := blk_frozen BK384.out 8) | (go_at_call 63; (with_reducible refine (masterdiscref06_Valid.calls a0_6 a0_7 a0_8 t386 _ A25.out).mono ?_); rintro e w29 ⟨rfl, hb⟩; have n0_ := Aside0.mk (blk_below (g := gb384) (o := .cells #[.int .i64 a0_0, .int .i64 a0_1, .int .i64 a0_2, .int .i64 a0_3, .int .i64 a0_4, .int .i64 a0_5, .int .i64 a0_6, .int .i64 a0_7, .int .i64 a0_8] 27 (0, 0)) (by (with_reducible repeat (first | refine blk_drewN ?_ _ | refine blk_drew ?_ | refine blk_alloc ?_ _)); exact BK384.out) hb); have n1_ := Aside0.mk (below_step (by repeat (first | (with_reducible first | exact HB.out | apply below_alloc | apply pw_below_drewN | apply below_drew1 | refine below_set ?_ GE384.out) | exact HB.out)) hb); clear BK384; clear HB; have BK384 := n0_; have HB := n1_; clear n0_ n1_; (try clear hb); (try clear hb2); (try clear hk); (try clear hi)))
               go_ret
               exact ⟨by first | rfl | (simp [errW_none, errW_some] <;> rfl) | (simp [*, errW_none, errW_some] <;> rfl), by repeat (first | (with_reducible first | exact HB.out | apply below_alloc | apply pw_below_drewN | apply below_drew1 | refine below_set ?_ GE384.out) | exact HB.out)⟩
             · replace c24 := Bool.eq_false_iff.mpr c24
               subst c24
               have H1 : (some false) = some r := by rw [if_neg (show ¬ (false = true) by decide)] at H; exact H
               clear H
               have H := H1
               clear H1
               obtain rfl := Option.some.inj H
               have hcz30_0 : wc.cell? ⟨gb384, 0, none⟩ = some (.int .i64 a0_0) := (blk_cell BK384.out 0).trans rfl
               have hcz30_1 : wc.cell? ⟨gb384, 1, none⟩ = some (.int .i64 a0_1) := (blk_cell BK384.out 1).trans rfl
               have hcz30_2 : wc.cell? ⟨gb384, 2, none⟩ = some (.int .i64 a0_2) := (blk_cell BK384.out 2).trans rfl
               have hcz30_3 : wc.cell? ⟨gb384, 3, none⟩ = some (.int .i64 a0_3) := (blk_cell BK384.out 3).trans rfl
               have hcz30_4 : wc.cell? ⟨gb384, 4, none⟩ = some (.int .i64 a0_4) := (blk_cell BK384.out 4).trans rfl
               have hcz30_5 : wc.cell? ⟨gb384, 5, none⟩ = some (.int .i64 a0_5) := (blk_cell BK384.out 5).trans rfl
               have hcz30_6 : wc.cell? ⟨gb384, 6, none⟩ = some (.int .i64 a0_6) := (blk_cell BK384.out 6).trans rfl
               have hcz30_7 : wc.cell? ⟨gb384, 7, none⟩ = some (.int .i64 a0_7) := (blk_cell BK384.out 7).trans rfl
               have hcz30_8 : wc.cell? ⟨gb384, 8, none⟩ = some (.int .i64 a0_8) := (blk_cell BK384.out 8).trans rfl
               have hfz30_0 := blk_frozen BK384.out 0
               have hfz30_1 := blk_frozen BK384.out 1
               have hfz30_2 := blk_frozen BK384.out 2
               have hfz30_3 := blk_frozen BK384.out 3
               have hfz30_4 := blk_frozen BK384.out 4
               have hfz30_5 := blk_frozen BK384.out 5
               have hfz30_6 := blk_frozen BK384.out 6
               have hfz30_7 := blk_frozen BK384.out 7
               have hfz30_8 := blk_frozen BK384.out 8
               go_wp2_with (first | (go_at_call 63; (with_reducible refine (masterdiscref06_Valid.calls a0_3 a0_4 a0_5 false _ A23.out).mono ?_); rintro e w31 ⟨rfl, hb⟩; have n0_ := Aside0.mk (blk_below (g := gb384) (o := .cells #[.int .i64 a0_0, .int .i64 a0_1, .int .i64 a0_2, .int .i64 a0_3, .int .i64 a0_4, .int .i64 a0_5, .int .i64 a0_6, .int .i64 a0_7, .int .i64 a0_8] 27 (0, 0)) (by (with_reducible repeat (first | refine blk_drewN ?_ _ | refine blk_drew ?_ | refine blk_alloc ?_ _)); exact BK384.out) hb); have n1_ := Aside0.mk (below_step (by repeat (first | (with_reducible first | exact HB.out | apply below_alloc | apply pw_below_drewN | apply below_drew1 | refine below_set ?_ GE384.out) | exact HB.out)) hb); clear BK384; clear HB; have BK384 := n0_; have HB := n1_; clear n0_ n1_; (try clear hb); (try clear hb2); (try clear hk); (try clear hi)))
               go_ret
               exact ⟨by first | rfl | (simp [errW_none, errW_some] <;> rfl) | (simp [*, errW_none, errW_some] <;> rfl), by repeat (first | (with_reducible first | exact HB.out | apply below_alloc | apply pw_below_drewN | apply below_drew1 | refine below_set ?_ GE384.out) | exact HB.out)⟩
           · replace c22 := Bool.eq_false_iff.mpr c22
             subst c22
             have H1 : (some false) = some r := by rw [if_neg (show ¬ (false = true) by decide)] at H; exact H
             clear H
             have H := H1
             clear H1
             obtain rfl := Option.some.inj H
             have hcz32_0 : wc.cell? ⟨gb384, 0, none⟩ = some (.int .i64 a0_0) := (blk_cell BK384.out 0).trans rfl
             have hcz32_1 : wc.cell? ⟨gb384, 1, none⟩ = some (.int .i64 a0_1) := (blk_cell BK384.out 1).trans rfl
             have hcz32_2 : wc.cell? ⟨gb384, 2, none⟩ = some (.int .i64 a0_2) := (blk_cell BK384.out 2).trans rfl
             have hcz32_3 : wc.cell? ⟨gb384, 3, none⟩ = some (.int .i64 a0_3) := (blk_cell BK384.out 3).trans rfl
             have hcz32_4 : wc.cell? ⟨gb384, 4, none⟩ = some (.int .i64 a0_4) := (blk_cell BK384.out 4).trans rfl
             have hcz32_5 : wc.cell? ⟨gb384, 5, none⟩ = some (.int .i64 a0_5) := (blk_cell BK384.out 5).trans rfl
             have hcz32_6 : wc.cell? ⟨gb384, 6, none⟩ = some (.int .i64 a0_6) := (blk_cell BK384.out 6).trans rfl
             have hcz32_7 : wc.cell? ⟨gb384, 7, none⟩ = some (.int .i64 a0_7) := (blk_cell BK384.out 7).trans rfl
             have hcz32_8 : wc.cell? ⟨gb384, 8, none⟩ = some (.int .i64 a0_8) := (blk_cell BK384.out 8).trans rfl
             have hfz32_0 := blk_frozen BK384.out 0
             have hfz32_1 := blk_frozen BK384.out 1
             have hfz32_2 := blk_frozen BK384.out 2
             have hfz32_3 := blk_frozen BK384.out 3
             have hfz32_4 := blk_frozen BK384.out 4
             have hfz32_5 := blk_frozen BK384.out 5
             have hfz32_6 := blk_frozen BK384.out 6
             have hfz32_7 := blk_frozen BK384.out 7
             have hfz32_8 := blk_frozen BK384.out 8
             go_wp2
             go_ret
             exact ⟨by first | rfl | (simp [errW_none, errW_some] <;> rfl) | (simp [*, errW_none, errW_some] <;> rfl), by repeat (first | (with_reducible first | exact HB.out | apply below_alloc | apply pw_below_drewN | apply below_drew1 | refine below_set ?_ GE384.out) | exact HB.out)⟩
         · replace c21 := Bool.eq_false_iff.mpr c21
           subst c21
           have H1 : (some false) = some r := by rw [if_neg (show ¬ (false = true) by decide)] at H; exact H
           clear H
           have H := H1
           clear H1
           obtain rfl := Option.some.inj H
           have hcz33_0 : wc.cell? ⟨gb384, 0, none⟩ = some (.int .i64 a0_0) := (blk_cell BK384.out 0).trans rfl
           have hcz33_1 : wc.cell? ⟨gb384, 1, none⟩ = some (.int .i64 a0_1) := (blk_cell BK384.out 1).trans rfl
           have hcz33_2 : wc.cell? ⟨gb384, 2, none⟩ = some (.int .i64 a0_2) := (blk_cell BK384.out 2).trans rfl
           have hcz33_3 : wc.cell? ⟨gb384, 3, none⟩ = some (.int .i64 a0_3) := (blk_cell BK384.out 3).trans rfl
           have hcz33_4 : wc.cell? ⟨gb384, 4, none⟩ = some (.int .i64 a0_4) := (blk_cell BK384.out 4).trans rfl
           have hcz33_5 : wc.cell? ⟨gb384, 5, none⟩ = some (.int .i64 a0_5) := (blk_cell BK384.out 5).trans rfl
           have hcz33_6 : wc.cell? ⟨gb384, 6, none⟩ = some (.int .i64 a0_6) := (blk_cell BK384.out 6).trans rfl
           have hcz33_7 : wc.cell? ⟨gb384, 7, none⟩ = some (.int .i64 a0_7) := (blk_cell BK384.out 7).trans rfl
           have hcz33_8 : wc.cell? ⟨gb384, 8, none⟩ = some (.int .i64 a0_8) := (blk_cell BK384.out 8).trans rfl
           have hfz33_0 := blk_frozen BK384.out 0
           have hfz33_1 := blk_frozen BK384.out 1
           have hfz33_2 := blk_frozen BK384.out 2
           have hfz33_3 := blk_frozen BK384.out 3
           have hfz33_4 := blk_frozen BK384.out 4
           have hfz33_5 := blk_frozen BK384.out 5
           have hfz33_6 := blk_frozen BK384.out 6
           have hfz33_7 := blk_frozen BK384.out 7
           have hfz33_8 := blk_frozen BK384.out 8
           go_wp2
           go_ret
           exact ⟨by first | rfl | (simp [errW_none, errW_some] <;> rfl) | (simp [*, errW_none, errW_some] <;> rfl), by repeat (first | (with_reducible first | exact HB.out | apply below_alloc | apply pw_below_drewN | apply below_drew1 | refine below_set ?_ GE384.out) | exact HB.out)⟩
       · rw [if_neg c20] at H
         have c20b0 : decide (a0_0 ≤ 15) = false := decide_eq_false c20
         clear c20
         obtain rfl := Option.some.inj H
         have hcz34_0 : wc.cell? ⟨gb384, 0, none⟩ = some (.int .i64 a0_0) := (blk_cell BK384.out 0).trans rfl
         have hcz34_1 : wc.cell? ⟨gb384, 1, none⟩ = some (.int .i64 a0_1) := (blk_cell BK384.out 1).trans rfl
         have hcz34_2 : wc.cell? ⟨gb384, 2, none⟩ = some (.int .i64 a0_2) := (blk_cell BK384.out 2).trans rfl
         have hcz34_3 : wc.cell? ⟨gb384, 3, none⟩ = some (.int .i64 a0_3) := (blk_cell BK384.out 3).trans rfl
         have hcz34_4 : wc.cell? ⟨gb384, 4, none⟩ = some (.int .i64 a0_4) := (blk_cell BK384.out 4).trans rfl
         have hcz34_5 : wc.cell? ⟨gb384, 5, none⟩ = some (.int .i64 a0_5) := (blk_cell BK384.out 5).trans rfl
         have hcz34_6 : wc.cell? ⟨gb384, 6, none⟩ = some (.int .i64 a0_6) := (blk_cell BK384.out 6).trans rfl
         have hcz34_7 : wc.cell? ⟨gb384, 7, none⟩ = some (.int .i64 a0_7) := (blk_cell BK384.out 7).trans rfl
         have hcz34_8 : wc.cell? ⟨gb384, 8, none⟩ = some (.int .i64 a0_8) := (blk_cell BK384.out 8).trans rfl
         have hfz34_0 := blk_frozen BK384.out 0
         have hfz34_1 := blk_frozen BK384.out 1
         have hfz34_2 := blk_frozen BK384.out 2
         have hfz34_3 := blk_frozen BK384.out 3
         have hfz34_4 := blk_frozen BK384.out 4
         have hfz34_5 := blk_frozen BK384.out 5
         have hfz34_6 := blk_frozen BK384.out 6
         have hfz34_7 := blk_frozen BK384.out 7
         have hfz34_8 := blk_frozen BK384.out 8
         go_wp2
         go_ret
         exact ⟨by first | rfl | (simp [errW_none, errW_some] <;> rfl) | (simp [*, errW_none, errW_some] <;> rfl), by repeat (first | (with_reducible first | exact HB.out | apply below_alloc | apply pw_below_drewN | apply below_drew1 | refine below_set ?_ GE384.out) | exact HB.out)⟩
     · rw [if_neg c19] at H
       have c19b0 : decide (0 ≤ a0_0) = false := decide_eq_false c19
       clear c19
       obtain rfl := Option.some.inj H
       have hcz35_0 : wc.cell? ⟨gb384, 0, none⟩ = some (.int .i64 a0_0) := (blk_cell BK384.out 0).trans rfl
       have hcz35_1 : wc.cell? ⟨gb384, 1, none⟩ = some (.int .i64 a0_1) := (blk_cell BK384.out 1).trans rfl
       have hcz35_2 : wc.cell? ⟨gb384, 2, none⟩ = some (.int .i64 a0_2) := (blk_cell BK384.out 2).trans rfl
       have hcz35_3 : wc.cell? ⟨gb384, 3, none⟩ = some (.int .i64 a0_3) := (blk_cell BK384.out 3).trans rfl
       have hcz35_4 : wc.cell? ⟨gb384, 4, none⟩ = some (.int .i64 a0_4) := (blk_cell BK384.out 4).trans rfl
       have hcz35_5 : wc.cell? ⟨gb384, 5, none⟩ = some (.int .i64 a0_5) := (blk_cell BK384.out 5).trans rfl
       have hcz35_6 : wc.cell? ⟨gb384, 6, none⟩ = some (.int .i64 a0_6) := (blk_cell BK384.out 6).trans rfl
       have hcz35_7 : wc.cell? ⟨gb384, 7, none⟩ = some (.int .i64 a0_7) := (blk_cell BK384.out 7).trans rfl
       have hcz35_8 : wc.cell? ⟨gb384, 8, none⟩ = some (.int .i64 a0_8) := (blk_cell BK384.out 8).trans rfl
       have hfz35_0 := blk_frozen BK384.out 0
       have hfz35_1 := blk_frozen BK384.out 1
       have hfz35_2 := blk_frozen BK384.out 2
       have hfz35_3 := blk_frozen BK384.out 3
       have hfz35_4 := blk_frozen BK384.out 4
       have hfz35_5 := blk_frozen BK384.out 5
       have hfz35_6 := blk_frozen BK384.out 6
       have hfz35_7 := blk_frozen BK384.out 7
       have hfz35_8 := blk_frozen BK384.out 8
       go_wp2
       go_ret
       exact ⟨by first | rfl | (simp [errW_none, errW_some] <;> rfl) | (simp [*, errW_none, errW_some] <;> rfl), by repeat (first | (with_reducible first | exact HB.out | apply below_alloc | apply pw_below_drewN | apply below_drew1 | refine below_set ?_ GE384.out) | exact HB.out)⟩
end Go.Proofs.Ytpmkibggmkibeaa.G
namespace Go.Proofs.Ytpmkibggmkibeaa.G
open Go.RowKit Go.Proofs.YtpmkibggmkibeaaW.PrintWords Go.Proofs.YtpmkibggmkibeaaW.PrintLast Go.Proofs.YtpmkibggmkibeaaW.PrintMore
attribute [local go_sem] max2_int min2_int max_two min_two max_three min_three max_four min_four   -- for this text's walks alone
set_option linter.unusedVariables false
set_option linter.unusedSimpArgs false
def masterdiscref10_Encode.f (k : Nat) (a0_0 : Int) (a0_1 : Int) (a0_2 : Int) (a0_3 : Int) (a0_4 : Int) (a0_5 : Int) (a0_6 : Int) (a0_7 : Int) (a0_8 : Int) : Option (ByteArray × Int) := (masterdiscref10_Valid.f k a0_0 a0_1 a0_2 a0_3 a0_4 a0_5 a0_6 a0_7 a0_8).bind fun t407 => (if t407 = true then ((masterdiscref06_Encode.f a0_3 a0_4 a0_5).bind fun bt408 => ((masterdiscref06_Encode.f a0_6 a0_7 a0_8).bind fun bt410 => ((masterdiscref10_number.f a0_1).bind fun t412 => ((masterdiscref10_number.f a0_2).bind fun t413 => ((some (([(wrap64 ((wrap64 (16 * a0_0)) + 1)) % 256, t412, t413] : List Int) : List Int)).bind fun y414 => (if (strOfNums y414).size + bt408.1.size ≤ 9223372036854775807 then (if ((strOfNums y414) ++ bt408.1).size + 1 ≤ 9223372036854775807 then (if (((strOfNums y414) ++ bt408.1) ++ (⟨#[0]⟩ : ByteArray)).size + bt410.1.size ≤ 9223372036854775807 then ((masterdiscref10_check.f k ((((strOfNums y414) ++ bt408.1) ++ (⟨#[0]⟩ : ByteArray)) ++ bt410.1)).bind fun t417 => (if ((((strOfNums y414) ++ bt408.1) ++ (⟨#[0]⟩ : ByteArray)) ++ bt410.1).size + t417.size ≤ 9223372036854775807 then (some (((((strOfNums y414) ++ bt408.1) ++ (⟨#[0]⟩ : ByteArray)) ++ bt410.1) ++ t417, 0)) else (none))) else (none)) else (none)) else (none))))))) else (some ((⟨#[]⟩ : ByteArray), 1)))
theorem masterdiscref10_Encode.mono : ∀ a0 a1 a2 a3 a4 a5 a6 a7 a8 k, LeO (masterdiscref10_Encode.f k a0 a1 a2 a3 a4 a5 a6 a7 a8) (masterdiscref10_Encode.f (k + 1) a0 a1 a2 a3 a4 a5 a6 a7 a8) := by
 intro a0 a1 a2 a3 a4 a5 a6 a7 a8 k
 unfold masterdiscref10_Encode.f
 repeat' first
  | (with_reducible exact masterdiscref10_Valid.mono _ _ _ _ _ _ _ _ _ _)
  | (with_reducible exact masterdiscref10_check.mono _ _)
  | (with_reducible exact LeO.refl _)
  | (with_reducible exact LeO.none _)
  | (with_reducible refine LeO.ite ?_ ?_)
  | (with_reducible refine LeO.bind ?_ (fun _ => ?_))
  | exact masterdiscref10_Valid.mono _ _ _ _ _ _ _ _ _ _
  | exact masterdiscref10_check.mono _ _
  | exact LeO.none _
  | refine LeO.ite ?_ ?_
  | refine LeO.bind ?_ (fun _ => ?_)
def masterdiscref10_Encode.T5 : Bool × List (List Nat × List Nat) := (true, [([], []), ([0], [0]), ([1], [1]), ([2], [2]), ([3], [3]), ([], []), ([5], [5]), ([6], [6]), ([], []), ([8], [8]), ([9, 7], [9]), ([4, 7, 10], [4, 7, 10]), ([11], [11]), ([], []), ([12, 13], [12, 13]), ([14], [14]), ([], []), ([15, 16], [15, 16]), ([17, 10, 0, 1, 2, 3, 4, 5, 6, 7, 8, 9, 10, 11, 12, 13, 14, 15, 16, 17], [17])])
def masterdiscref10_Encode.B5 : List Nat := [0, 1, 3, 7, 15, 0, 32, 96, 0, 256, 992, 2047, 4095, 0, 16383, 32767, 0, 131071, 262143]
theorem masterdiscref10_Encode.tab5 : rtab .any (opsOf Try.f22 5) = masterdiscref10_Encode.T5 := by kernel_rfl
theorem masterdiscref10_Encode.bits5 : waitsOk masterdiscref10_Encode.T5.2 masterdiscref10_Encode.B5 = true := by kernel_rfl
set_option maxHeartbeats 8000000 in
set_option maxRecDepth 100000 in
theorem masterdiscref10_Encode.calls (k : Nat) (a0_0 : Int) (a0_1 : Int) (a0_2 : Int) (a0_3 : Int) (a0_4 : Int) (a0_5 : Int) (a0_6 : Int) (a0_7 : Int) (a0_8 : Int) (r1 : ByteArray) (r2 : Int) (w : World) (h : masterdiscref10_Encode.f k a0_0 a0_1 a0_2 a0_3 a0_4 a0_5 a0_6 a0_7 a0_8 = some (r1, r2)) :
 Calls Try.prog 22 #[.agg #[.int .i64 a0_0, .int .i64 a0_1, .int .i64 a0_2, .int .i64 a0_3, .int .i64 a0_4, .int .i64 a0_5, .int .i64 a0_6, .int .i64 a0_7, .int .i64 a0_8]] w fun e w' => e = .returned (.tuple #[.string r1, .int .i64 r2]) ∧ Below w.heap.size w w' := by
 have hu27 := Try.underlying27
 have hu25 := Try.underlying25
 have HB := Aside0.mk (Below.refl w.heap.size w)
 have H : ((masterdiscref10_Valid.f k a0_0 a0_1 a0_2 a0_3 a0_4 a0_5 a0_6 a0_7 a0_8).bind fun t407 => (if t407 = true then ((masterdiscref06_Encode.f a0_3 a0_4 a0_5).bind fun bt408 => ((masterdiscref06_Encode.f a0_6 a0_7 a0_8).bind fun bt410 => ((masterdiscref10_number.f a0_1).bind fun t412 => ((masterdiscref10_number.f a0_2).bind fun t413 => ((some (([(wrap64 ((wrap64 (16 * a0_0)) + 1)) % 256, t412, t413] : List Int) : List Int)).bind fun y414 => (if (strOfNums y414).size + bt408.1.size ≤ 9223372036854775807 then (if ((strOfNums y414) ++ bt408.1).size + 1 ≤ 9223372036854775807 then (if (((strOfNums y414) ++ bt408.1) ++ (⟨#[0]⟩ : ByteArray)).size + bt410.1.size ≤ 9223372036854775807 then ((masterdiscref10_check.f k ((((strOfNums y414) ++ bt408.1) ++ (⟨#[0]⟩ : ByteArray)) ++ bt410.1)).bind fun t417 => (if ((((strOfNums y414) ++ bt408.1) ++ (⟨#[0]⟩ : ByteArray)) ++ bt410.1).size + t417.size ≤ 9223372036854775807 then (some (((((strOfNums y414) ++ bt408.1) ++ (⟨#[0]⟩ : ByteArray)) ++ bt410.1) ++ t417, 0)) else (none))) else (none)) else (none)) else (none))))))) else (some ((⟨#[]⟩ : ByteArray), 1)))) = some (r1, r2) := h
 clear h
 replace H := Option.bind_eq_some_iff.mp H
 obtain ⟨t407, A20, H⟩ := H
 replace H : (if t407 = true then ((masterdiscref06_Encode.f a0_3 a0_4 a0_5).bind fun bt408 => ((masterdiscref06_Encode.f a0_6 a0_7 a0_8).bind fun bt410 => ((masterdiscref10_number.f a0_1).bind fun t412 => ((masterdiscref10_number.f a0_2).bind fun t413 => ((some (([(wrap64 ((wrap64 (16 * a0_0)) + 1)) % 256, t412, t413] : List Int) : List Int)).bind fun y414 => (if (strOfNums y414).size + bt408.1.size ≤ 9223372036854775807 then (if ((strOfNums y414) ++ bt408.1).size + 1 ≤ 9223372036854775807 then (if (((strOfNums y414) ++ bt408.1) ++ (⟨#[0]⟩ : ByteArray)).size + bt410.1.size ≤ 9223372036854775807 then ((masterdiscref10_check.f k ((((strOfNums y414) ++ bt408.1) ++ (⟨#[0]⟩ : ByteArray)) ++ bt410.1)).bind fun t417 => (if ((((strOfNums y414) ++ bt408.1) ++ (⟨#[0]⟩ : ByteArray)) ++ bt410.1).size + t417.size ≤ 9223372036854775807 then (some (((((strOfNums y414) ++ bt408.1) ++ (⟨#[0]⟩ : ByteArray)) ++ bt410.1) ++ t417, 0)) else (none))) else (none)) else (none)) else (none))))))) else (some ((⟨#[]⟩ : ByteArray), 1))) = some (r1, r2) := H
 have A2 := Aside0.mk A20
 clear A20
 by_cases c3 : t407 = true
 · subst c3
   have H1 : ((masterdiscref06_Encode.f a0_3 a0_4 a0_5).bind fun bt408 => ((masterdiscref06_Encode.f a0_6 a0_7 a0_8).bind fun bt410 => ((masterdiscref10_number.f a0_1).bind fun t412 => ((masterdiscref10_number.f a0_2).bind fun t413 => ((some (([(wrap64 ((wrap64 (16 * a0_0)) + 1)) % 256, t412, t413] : List Int) : List Int)).bind fun y414 => (if (strOfNums y414).size + bt408.1.size ≤ 9223372036854775807 then (if ((strOfNums y414) ++ bt408.1).size + 1 ≤ 9223372036854775807 then (if (((strOfNums y414) ++ bt408.1) ++ (⟨#[0]⟩ : ByteArray)).size + bt410.1.size ≤ 9223372036854775807 then ((masterdiscref10_check.f k ((((strOfNums y414) ++ bt408.1) ++ (⟨#[0]⟩ : ByteArray)) ++ bt410.1)).bind fun t417 => (if ((((strOfNums y414) ++ bt408.1) ++ (⟨#[0]⟩ : ByteArray)) ++ bt410.1).size + t417.size ≤ 9223372036854775807 then (some (((((strOfNums y414) ++ bt408.1) ++ (⟨#[0]⟩ : ByteArray)) ++ bt410.1) ++ t417, 0)) else (none))) else (none)) else (none)) else (none))))))) = some (r1, r2) := by rw [if_pos rfl] at H; exact H
   clear H
   have H := H1
   clear H1
   replace H := Option.bind_eq_some_iff.mp H
   obtain ⟨⟨t408, t409⟩, A40, H⟩ := H
   replace H : ((masterdiscref06_Encode.f a0_6 a0_7 a0_8).bind fun bt410 => ((masterdiscref10_number.f a0_1).bind fun t412 => ((masterdiscref10_number.f a0_2).bind fun t413 => ((some (([(wrap64 ((wrap64 (16 * a0_0)) + 1)) % 256, t412, t413] : List Int) : List Int)).bind fun y414 => (if (strOfNums y414).size + t408.size ≤ 9223372036854775807 then (if ((strOfNums y414) ++ t408).size + 1 ≤ 9223372036854775807 then (if (((strOfNums y414) ++ t408) ++ (⟨#[0]⟩ : ByteArray)).size + bt410.1.size ≤ 9223372036854775807 then ((masterdiscref10_check.f k ((((strOfNums y414) ++ t408) ++ (⟨#[0]⟩ : ByteArray)) ++ bt410.1)).bind fun t417 => (if ((((strOfNums y414) ++ t408) ++ (⟨#[0]⟩ : ByteArray)) ++ bt410.1).size + t417.size ≤ 9223372036854775807 then (some (((((strOfNums y414) ++ t408) ++ (⟨#[0]⟩ : ByteArray)) ++ bt410.1) ++ t417, 0)) else (none))) else (none)) else (none)) else (none)))))) = some (r1, r2) := H
   have A4 := Aside0.mk A40
   clear A40
   replace H := Option.bind_eq_some_iff.mp H
   obtain ⟨⟨t410, t411⟩, A50, H⟩ := H
   replace H : ((masterdiscref10_number.f a0_1).bind fun t412 => ((masterdiscref10_number.f a0_2).bind fun t413 => ((some (([(wrap64 ((wrap64 (16 * a0_0)) + 1)) % 256, t412, t413] : List Int) : List Int)).bind fun y414 => (if (strOfNums y414).size + t408.size ≤ 9223372036854775807 then (if ((strOfNums y414) ++ t408).size + 1 ≤ 9223372036854775807 then (if (((strOfNums y414) ++ t408) ++ (⟨#[0]⟩ : ByteArray)).size + t410.size ≤ 9223372036854775807 then ((masterdiscref10_check.f k ((((strOfNums y414) ++ t408) ++ (⟨#[0]⟩ : ByteArray)) ++ t410)).bind fun t417 => (if ((((strOfNums y414) ++ t408) ++ (⟨#[0]⟩ : ByteArray)) ++ t410).size + t417.size ≤ 9223372036854775807 then (some (((((strOfNums y414) ++ t408) ++ (⟨#[0]⟩ : ByteArray)) ++ t410) ++ t417, 0)) else (none))) else (none)) else (none)) else (none))))) = some (r1, r2) := H
   have A5 := Aside0.mk A50
   clear A50
   replace H := Option.bind_eq_some_iff.mp H
   obtain ⟨t412, A60, H⟩ := H
   replace H : ((masterdiscref10_number.f a0_2).bind fun t413 => ((some (([(wrap64 ((wrap64 (16 * a0_0)) + 1)) % 256, t412, t413] : List Int) : List Int)).bind fun y414 => (if (strOfNums y414).size + t408.size ≤ 9223372036854775807 then (if ((strOfNums y414) ++ t408).size + 1 ≤ 9223372036854775807 then (if (((strOfNums y414) ++ t408) ++ (⟨#[0]⟩ : ByteArray)).size + t410.size ≤ 9223372036854775807 then ((masterdiscref10_check.f k ((((strOfNums y414) ++ t408) ++ (⟨#[0]⟩ : ByteArray)) ++ t410)).bind fun t417 => (if ((((strOfNums y414) ++ t408) ++ (⟨#[0]⟩ : ByteArray)) ++ t410).size + t417.size ≤ 9223372036854775807 then (some (((((strOfNums y414) ++ t408) ++ (⟨#[0]⟩ : ByteArray)) ++ t410) ++ t417, 0)) else (none))) else (none)) else (none)) else (none)))) = some (r1, r2) := H
   have A6 := Aside0.mk A60
   clear A60
   replace H := Option.bind_eq_some_iff.mp H
   obtain ⟨t413, A70, H⟩ := H
   replace H : ((some (([(wrap64 ((wrap64 (16 * a0_0)) + 1)) % 256, t412, t413] : List Int) : List Int)).bind fun y414 => (if (strOfNums y414).size + t408.size ≤ 9223372036854775807 then (if ((strOfNums y414) ++ t408).size + 1 ≤ 9223372036854775807 then (if (((strOfNums y414) ++ t408) ++ (⟨#[0]⟩ : ByteArray)).size + t410.size ≤ 9223372036854775807 then ((masterdiscref10_check.f k ((((strOfNums y414) ++ t408) ++ (⟨#[0]⟩ : ByteArray)) ++ t410)).bind fun t417 => (if ((((strOfNums y414) ++ t408) ++ (⟨#[0]⟩ : ByteArray)) ++ t410).size + t417.size ≤ 9223372036854775807 then (some (((((strOfNums y414) ++ t408) ++ (⟨#[0]⟩ : ByteArray)) ++ t410) ++ t417, 0)) else (none))) else (none)) else (none)) else (none))) = some (r1, r2) := H
   have A7 := Aside0.mk A70
   clear A70
   obtain ⟨y414, hy414⟩ : ∃ y_ : List Int, y_ = (([(wrap64 ((wrap64 (16 * a0_0)) + 1)) % 256, t412, t413] : List Int)) := ⟨_, rfl⟩
   replace H : (if (strOfNums y414).size + t408.size ≤ 9223372036854775807 then (if ((strOfNums y414) ++ t408).size + 1 ≤ 9223372036854775807 then (if (((strOfNums y414) ++ t408) ++ (⟨#[0]⟩ : ByteArray)).size + t410.size ≤ 9223372036854775807 then ((masterdiscref10_check.f k ((((strOfNums y414) ++ t408) ++ (⟨#[0]⟩ : ByteArray)) ++ t410)).bind fun t417 => (if ((((strOfNums y414) ++ t408) ++ (⟨#[0]⟩ : ByteArray)) ++ t410).size + t417.size ≤ 9223372036854775807 then (some (((((strOfNums y414) ++ t408) ++ (⟨#[0]⟩ : ByteArray)) ++ t410) ++ t417, 0)) else (none))) else (none)) else (none)) else (none)) = some (r1, r2) := by first | (rw [hy414]; with_reducible exact H) | (have H2_ := (Option.bind_some _ _).symm.trans H; rw [hy414]; with_reducible exact H2_) | (have H2_ := (Option.bind_some _ _).symm.trans H; with_reducible exact H2_) | with_reducible exact H | (rw [hy414]; exact H) | exact H
   have Ny414 := Aside0.mk hy414
   clear hy414
   by_cases c8 : (strOfNums y414).size + t408.size ≤ 9223372036854775807
   · rw [if_pos c8] at H
     have c8b0 := eq_true c8
     have c8b1 : decide ((strOfNums y414).size + t408.size ≤ 9223372036854775807) = true := decide_eq_true c8
     try have c8b2 : (9223372036854775807 < (strOfNums y414).size + t408.size) = False := eq_false (Nat.not_lt.2 c8)
     by_cases c9 : ((strOfNums y414) ++ t408).size + 1 ≤ 9223372036854775807
     · rw [if_pos c9] at H
       have c9b0 := eq_true c9
       have c9b1 : decide (((strOfNums y414) ++ t408).size + 1 ≤ 9223372036854775807) = true := decide_eq_true c9
       try have c9b2 : (9223372036854775807 < ((strOfNums y414) ++ t408).size + 1) = False := eq_false (Nat.not_lt.2 c9)
       try have c9b3 : (9223372036854775807 < (strOfNums y414).size + t408.size + 1) = False := eq_false (Nat.not_lt.2 (by have h_ := c9; simp only [ByteArray.size_append] at h_; exact h_))
       by_cases c10 : (((strOfNums y414) ++ t408) ++ (⟨#[0]⟩ : ByteArray)).size + t410.size ≤ 9223372036854775807
       · rw [if_pos c10] at H
         have c10b0 := eq_true c10
         have c10b1 : decide ((((strOfNums y414) ++ t408) ++ (⟨#[0]⟩ : ByteArray)).size + t410.size ≤ 9223372036854775807) = true := decide_eq_true c10
         try have c10b2 : (9223372036854775807 < (((strOfNums y414) ++ t408) ++ (⟨#[0]⟩ : ByteArray)).size + t410.size) = False := eq_false (Nat.not_lt.2 c10)
         try have c10b3 : (9223372036854775807 < (strOfNums y414).size + t408.size + 1 + t410.size) = False := eq_false (Nat.not_lt.2 (by have h_ := c10; simp only [ByteArray.size_append] at h_; exact h_))
         replace H := Option.bind_eq_some_iff.mp H
         obtain ⟨t417, A110, H⟩ := H
         replace H : (if ((((strOfNums y414) ++ t408) ++ (⟨#[0]⟩ : ByteArray)) ++ t410).size + t417.size ≤ 9223372036854775807 then (some (((((strOfNums y414) ++ t408) ++ (⟨#[0]⟩ : ByteArray)) ++ t410) ++ t417, 0)) else (none)) = some (r1, r2) := H
         have A11 := Aside0.mk A110
         clear A110
         by_cases c12 : ((((strOfNums y414) ++ t408) ++ (⟨#[0]⟩ : ByteArray)) ++ t410).size + t417.size ≤ 9223372036854775807
         · rw [if_pos c12] at H
           have c12b0 := eq_true c12
           have c12b1 : decide (((((strOfNums y414) ++ t408) ++ (⟨#[0]⟩ : ByteArray)) ++ t410).size + t417.size ≤ 9223372036854775807) = true := decide_eq_true c12
           try have c12b2 : (9223372036854775807 < ((((strOfNums y414) ++ t408) ++ (⟨#[0]⟩ : ByteArray)) ++ t410).size + t417.size) = False := eq_false (Nat.not_lt.2 c12)
           try have c12b3 : (9223372036854775807 < (strOfNums y414).size + t408.size + 1 + t410.size + t417.size) = False := eq_false (Nat.not_lt.2 (by have h_ := c12; simp only [ByteArray.size_append] at h_; exact h_))
           simp only [Option.some.injEq, Prod.mk.injEq] at H
           obtain ⟨rfl, rfl⟩ := H
           go_enter Try.func22, Try.ntmps22
           try go_wp2_with (first | ((with_reducible refine gate_dst (N := 1) rfl ?_); refine box_event ?hg (N := 1) ?hd (cs := #[.int .i64 a0_0, .int .i64 a0_1, .int .i64 a0_2, .int .i64 a0_3, .int .i64 a0_4, .int .i64 a0_5, .int .i64 a0_6, .int .i64 a0_7, .int .i64 a0_8]) (t := 27) ?hr ?_; (case hd => rfl); (case hg => rfl); (case hr => first | (go_simp; done) | (go_simp; rfl)); intro gb406 hg w13 hbox hb; have n0_ := Aside0.mk (below_step (by repeat (first | (with_reducible first | exact HB.out | apply below_alloc | apply pw_below_drewN | apply below_drew1) | exact HB.out)) hb); have n1_ := Aside0.mk (hbox); have n2_ := Aside0.mk ((by rw [hg]; exact (below_size (by repeat (first | (with_reducible first | exact HB.out | apply below_alloc | apply pw_below_drewN | apply below_drew1) | exact HB.out))) : w.heap.size ≤ gb406)); have n3_ := Aside0.mk ((by rw [hg]; exact (below_size (by repeat (first | (with_reducible first | exact HB.out | apply below_alloc | apply pw_below_drewN | apply below_drew1) | exact HB.out))) : w.heap.size ≤ gb406)); clear HB; have HB := n0_; have BK406 := n1_; have GW406 := n2_; have GE406 := n3_; clear n0_ n1_ n2_ n3_; clear hb hbox hg; have hcz14_0 : w13.cell? ⟨gb406, 0, none⟩ = some (.int .i64 a0_0) := (blk_cell BK406.out 0).trans rfl; have hcz14_1 : w13.cell? ⟨gb406, 1, none⟩ = some (.int .i64 a0_1) := (blk_cell BK406.out 1).trans rfl; have hcz14_2 : w13.cell? ⟨gb406, 2, none⟩ = some (.int .i64 a0_2) := (blk_cell BK406.out 2).trans rfl; have hcz14_3 : w13.cell? ⟨gb406, 3, none⟩ = some (.int .i64 a0_3) := (blk_cell BK406.out 3).trans rfl; have hcz14_4 : w13.cell? ⟨gb406, 4, none⟩ = some (.int .i64 a0_4) := (blk_cell BK406.out 4).trans rfl; have hcz14_5 : w13.cell? ⟨gb406, 5, none⟩ = some (.int .i64 a0_5) := (blk_cell BK406.out 5).trans rfl; have hcz14_6 : w13.cell? ⟨gb406, 6, none⟩ = some (.int .i64 a0_6) := (blk_cell BK406.out 6).trans rfl; have hcz14_7 : w13.cell? ⟨gb406, 7, none⟩ = some (.int .i64 a0_7) := (blk_cell BK406.out 7).trans rfl; have hcz14_8 : w13.cell? ⟨gb406, 8, none⟩ = some (.int .i64 a0_8) := (blk_cell BK406.out 8).trans rfl; have hfz14_0 := blk_frozen BK406.out 0; have hfz14_1 := blk_frozen BK406.out 1; have hfz14_2 := blk_frozen BK406.out 2; have hfz14_3 := blk_frozen BK406.out 3; have hfz14_4 := blk_frozen BK406.out 4; have hfz14_5 := blk_frozen BK406.out 5; have hfz14_6 := blk_frozen BK406.out 6; have hfz14_7 := blk_frozen BK406.out 7; have hfz14_8 := blk_frozen BK406.out 8) | ((with_reducible refine gate_callee (f := 46) rfl ?_); refine goesL_ (some 10) rfl rfl Try.func46 (by kernel_rfl) rfl #[.agg #[.int .i64 a0_0, .int .i64 a0_1, .int .i64 a0_2, .int .i64 a0_3, .int .i64 a0_4, .int .i64 a0_5, .int .i64 a0_6, .int .i64 a0_7, .int .i64 a0_8]] rfl (by (try simp only [List.map_toArray, List.map_cons, List.map_nil]); first | done | rfl | (simp only [List.length_drop, List.length_take]; rfl)) ?_; (with_reducible refine (masterdiscref10_Valid.calls k a0_0 a0_1 a0_2 a0_3 a0_4 a0_5 a0_6 a0_7 a0_8 true _ A2.out).mono ?_); rintro e w15 ⟨rfl, hb⟩; refine ⟨_, rfl, ?_⟩; have n0_ := Aside0.mk (blk_below (g := gb406) (o := .cells #[.int .i64 a0_0, .int .i64 a0_1, .int .i64 a0_2, .int .i64 a0_3, .int .i64 a0_4, .int .i64 a0_5, .int .i64 a0_6, .int .i64 a0_7, .int .i64 a0_8] 27 (0, 0)) (by (with_reducible repeat (first | refine blk_drewN ?_ _ | refine blk_drew ?_ | refine blk_alloc ?_ _)); exact BK406.out) hb); have n1_ := Aside0.mk (below_step (by repeat (first | (with_reducible first | exact HB.out | apply below_alloc | apply pw_below_drewN | apply below_drew1 | refine below_set ?_ GE406.out) | exact HB.out)) hb); clear BK406; clear HB; have BK406 := n0_; have HB := n1_; clear n0_ n1_; (try clear hb); (try clear hb2); (try clear hk); (try clear hi); have hcz16_0 : w15.cell? ⟨gb406, 0, none⟩ = some (.int .i64 a0_0) := (blk_cell BK406.out 0).trans rfl; have hcz16_1 : w15.cell? ⟨gb406, 1, none⟩ = some (.int .i64 a0_1) := (blk_cell BK406.out 1).trans rfl; have hcz16_2 : w15.cell? ⟨gb406, 2, none⟩ = some (.int .i64 a0_2) := (blk_cell BK406.out 2).trans rfl; have hcz16_3 : w15.cell? ⟨gb406, 3, none⟩ = some (.int .i64 a0_3) := (blk_cell BK406.out 3).trans rfl; have hcz16_4 : w15.cell? ⟨gb406, 4, none⟩ = some (.int .i64 a0_4) := (blk_cell BK406.out 4).trans rfl; have hcz16_5 : w15.cell? ⟨gb406, 5, none⟩ = some (.int .i64 a0_5) := (blk_cell BK406.out 5).trans rfl; have hcz16_6 : w15.cell? ⟨gb406, 6, none⟩ = some (.int .i64 a0_6) := (blk_cell BK406.out 6).trans rfl; have hcz16_7 : w15.cell? ⟨gb406, 7, none⟩ = some (.int .i64 a0_7) := (blk_cell BK406.out 7).trans rfl; have hcz16_8 : w15.cell? ⟨gb406, 8, none⟩ = some (.int .i64 a0_8) := (blk_cell BK406.out 8).trans rfl; have hfz16_0 := blk_frozen BK406.out 0; have hfz16_1 := blk_frozen BK406.out 1; have hfz16_2 := blk_frozen BK406.out 2; have hfz16_3 := blk_frozen BK406.out 3; have hfz16_4 := blk_frozen BK406.out 4; have hfz16_5 := blk_frozen BK406.out 5; have hfz16_6 := blk_frozen BK406.out 6; have hfz16_7 := blk_frozen BK406.out 7; have hfz16_8 := blk_frozen BK406.out 8) | ((with_reducible refine gate_callee (f := 47) rfl ?_); refine goesL_ (some 15) rfl rfl Try.func47 (by kernel_rfl) rfl #[.agg #[.int .i64 a0_3, .int .i64 a0_4, .int .i64 a0_5]] rfl (by (try simp only [List.map_toArray, List.map_cons, List.map_nil]); first | done | rfl | (simp only [List.length_drop, List.length_take]; rfl)) ?_; (with_reducible refine (masterdiscref06_Encode.calls a0_3 a0_4 a0_5 t408 t409 _ A4.out).mono ?_); rintro e w17 ⟨rfl, hb⟩; refine ⟨_, rfl, ?_⟩; have n0_ := Aside0.mk (blk_below (g := gb406) (o := .cells #[.int .i64 a0_0, .int .i64 a0_1, .int .i64 a0_2, .int .i64 a0_3, .int .i64 a0_4, .int .i64 a0_5, .int .i64 a0_6, .int .i64 a0_7, .int .i64 a0_8] 27 (0, 0)) (by (with_reducible repeat (first | refine blk_drewN ?_ _ | refine blk_drew ?_ | refine blk_alloc ?_ _)); exact BK406.out) hb); have n1_ := Aside0.mk (below_step (by repeat (first | (with_reducible first | exact HB.out | apply below_alloc | apply pw_below_drewN | apply below_drew1 | refine below_set ?_ GE406.out) | exact HB.out)) hb); clear BK406; clear HB; have BK406 := n0_; have HB := n1_; clear n0_ n1_; (try clear hb); (try clear hb2); (try clear hk); (try clear hi); have hcz18_0 : w17.cell? ⟨gb406, 0, none⟩ = some (.int .i64 a0_0) := (blk_cell BK406.out 0).trans rfl; have hcz18_1 : w17.cell? ⟨gb406, 1, none⟩ = some (.int .i64 a0_1) := (blk_cell BK406.out 1).trans rfl; have hcz18_2 : w17.cell? ⟨gb406, 2, none⟩ = some (.int .i64 a0_2) := (blk_cell BK406.out 2).trans rfl; have hcz18_3 : w17.cell? ⟨gb406, 3, none⟩ = some (.int .i64 a0_3) := (blk_cell BK406.out 3).trans rfl; have hcz18_4 : w17.cell? ⟨gb406, 4, none⟩ = some (.int .i64 a0_4) := (blk_cell BK406.out 4).trans rfl; have hcz18_5 : w17.cell? ⟨gb406, 5, none⟩ = some (.int .i64 a0_5) := (blk_cell BK406.out 5).trans rfl; have hcz18_6 : w17.cell? ⟨gb406, 6, none⟩ = some (.int .i64 a0_6) := (blk_cell BK406.out 6).trans rfl; have hcz18_7 : w17.cell? ⟨gb406, 7, none⟩ = some (.int .i64 a0_7) := (blk_cell BK406.out 7).trans rfl; have hcz18_8 : w17.cell? ⟨gb406, 8, none⟩ = some (.int .i64 a0_8) := (blk_cell BK406.out 8).trans rfl; have hfz18_0 := blk_frozen BK406.out 0; have hfz18_1 := blk_frozen BK406.out 1; have hfz18_2 := blk_frozen BK406.out 2; have hfz18_3 := blk_frozen BK406.out 3; have hfz18_4 := blk_frozen BK406.out 4; have hfz18_5 := blk_frozen BK406.out 5; have hfz18_6 := blk_frozen BK406.out 6; have hfz18_7 := blk_frozen BK406.out 7; have hfz18_8 := blk_frozen BK406.out 8) | ((with_reducible refine gate_callee (f := 47) rfl ?_); refine goesL_ (some 21) rfl rfl Try.func47 (by kernel_rfl) rfl #[.agg #[.int .i64 a0_6, .int .i64 a0_7, .int .i64 a0_8]] rfl (by (try simp only [List.map_toArray, List.map_cons, List.map_nil]); first | done | rfl | (simp only [List.length_drop, List.length_take]; rfl)) ?_; (with_reducible refine (masterdiscref06_Encode.calls a0_6 a0_7 a0_8 t410 t411 _ A5.out).mono ?_); rintro e w19 ⟨rfl, hb⟩; refine ⟨_, rfl, ?_⟩; have n0_ := Aside0.mk (blk_below (g := gb406) (o := .cells #[.int .i64 a0_0, .int .i64 a0_1, .int .i64 a0_2, .int .i64 a0_3, .int .i64 a0_4, .int .i64 a0_5, .int .i64 a0_6, .int .i64 a0_7, .int .i64 a0_8] 27 (0, 0)) (by (with_reducible repeat (first | refine blk_drewN ?_ _ | refine blk_drew ?_ | refine blk_alloc ?_ _)); exact BK406.out) hb); have n1_ := Aside0.mk (below_step (by repeat (first | (with_reducible first | exact HB.out | apply below_alloc | apply pw_below_drewN | apply below_drew1 | refine below_set ?_ GE406.out) | exact HB.out)) hb); clear BK406; clear HB; have BK406 := n0_; have HB := n1_; clear n0_ n1_; (try clear hb); (try clear hb2); (try clear hk); (try clear hi)))
           have n0_ := Aside0.mk (blk_drew BK406.out)
           have n1_ := Aside0.mk (below_drew1 HB.out)
           clear BK406
           clear HB
           have BK406 := n0_
           have HB := n1_
           clear n0_ n1_
           refine start_ (n := 19) (S := fun w' => w'.cell? ⟨gb406, 0, none⟩ = some (.int .i64 a0_0) ∧ w'.cell? ⟨gb406, 1, none⟩ = some (.int .i64 a0_1) ∧ w'.cell? ⟨gb406, 2, none⟩ = some (.int .i64 a0_2) ∧ w'.cell? ⟨gb406, 3, none⟩ = some (.int .i64 a0_3) ∧ w'.cell? ⟨gb406, 4, none⟩ = some (.int .i64 a0_4) ∧ w'.cell? ⟨gb406, 5, none⟩ = some (.int .i64 a0_5) ∧ w'.cell? ⟨gb406, 6, none⟩ = some (.int .i64 a0_6) ∧ w'.cell? ⟨gb406, 7, none⟩ = some (.int .i64 a0_7) ∧ w'.cell? ⟨gb406, 8, none⟩ = some (.int .i64 a0_8)) (ds := []) #[false, false, false, false, false, false, false, false, false, false, false, false, false, false, false, false, false, false, false] (by kernel_rfl) rfl rfl ⟨(blk_cell BK406.out 0).trans rfl, (blk_cell BK406.out 1).trans rfl, (blk_cell BK406.out 2).trans rfl, (blk_cell BK406.out 3).trans rfl, (blk_cell BK406.out 4).trans rfl, (blk_cell BK406.out 5).trans rfl, (blk_cell BK406.out 6).trans rfl, (blk_cell BK406.out 7).trans rfl, (blk_cell BK406.out 8).trans rfl⟩ (fun hHeld => ?_); refine with_tabW masterdiscref10_Encode.tab5 masterdiscref10_Encode.bits5 (fun HT_ HW_ => ?_)
           generalize w19.drew = w20 at BK406 HB hHeld ⊢
           refine pure_ (i := 0) (N := some 24) (v := ?_) (a' := ?_) (mS 19 1) rfl rfl (any_of HT_.out (by kernel_rfl)) (fun _ _ _ h => h) (Or.inl ⟨by rfl, ?_⟩) ?_ ?_
           rotate_left
           · intro w'
             go_simp
             with_reducible rfl
           rotate_left
           · simp only [Act.put, List.setIfInBounds_toArray, List.set_cons_zero, List.set_cons_succ, i64_w, i32_w]
             rfl
           refine pure_ (i := 5) (N := some 29) (v := ?_) (a' := ?_) (mS 19 33) rfl rfl (any_of HT_.out (by kernel_rfl)) (fun _ _ _ h => h) (Or.inl ⟨by rfl, ?_⟩) ?_ ?_
           rotate_left
           · intro w'
             go_simp
             with_reducible rfl
           rotate_left
           · simp only [Act.put, List.setIfInBounds_toArray, List.set_cons_zero, List.set_cons_succ, i64_w, i32_w]
             rfl
           refine pure_ (i := 8) (N := some 32) (v := ?_) (a' := ?_) (mS 19 289) rfl rfl (any_of HT_.out (by kernel_rfl)) (fun _ _ _ h => h) (Or.inl ⟨by rfl, ?_⟩) ?_ ?_
           rotate_left
           · intro w'
             go_simp
             with_reducible rfl
           rotate_left
           · simp only [Act.put, List.setIfInBounds_toArray, List.set_cons_zero, List.set_cons_succ, i64_w, i32_w]
             rfl
           refine pure_ (i := 13) (N := some 37) (v := ?_) (a' := ?_) (mS 19 8481) rfl rfl (any_of HT_.out (by kernel_rfl)) (fun _ _ _ h => h) (Or.inl ⟨by rfl, ?_⟩) ?_ ?_
           rotate_left
           · intro w'
             go_simp
             with_reducible rfl
           rotate_left
           · simp only [Act.put, List.setIfInBounds_toArray, List.set_cons_zero, List.set_cons_succ, i64_w, i32_w]
             rfl
           refine pure_ (i := 16) (N := some 40) (v := ?_) (a' := ?_) (mS 19 74017) rfl rfl (any_of HT_.out (by kernel_rfl)) (fun _ _ _ h => h) (Or.inl ⟨by rfl, ?_⟩) ?_ ?_
           rotate_left
           · intro w'
             go_simp
             with_reducible rfl
           rotate_left
           · simp only [Act.put, List.setIfInBounds_toArray, List.set_cons_zero, List.set_cons_succ, i64_w, i32_w]
             rfl
           refine take_ (i := 1) (N := some 25) (v := ?_) (a' := ?_) (mS 19 74019) rfl rfl (take_ofW HT_.out HW_.out (by kernel_rfl)) (fun _ _ _ h => h) (Or.inl ⟨by rfl, ?_⟩) hHeld ?_ ?_
           rotate_left
           · rintro w' ⟨s0, s1, s2, s3, s4, s5, s6, s7, s8⟩
             go_simp
             with_reducible rfl
           rotate_left
           · simp only [Act.put, List.setIfInBounds_toArray, List.set_cons_zero, List.set_cons_succ, i64_w, i32_w]
             rfl
           refine pure_ (i := 2) (N := some 26) (v := ?_) (a' := ?_) (mS 19 74023) rfl rfl (any_of HT_.out (by kernel_rfl)) (fun _ _ _ h => h) (Or.inl ⟨by rfl, ?_⟩) ?_ ?_
           rotate_left
           · intro w'
             go_simp
             with_reducible rfl
           rotate_left
           · simp only [Act.put, List.setIfInBounds_toArray, List.set_cons_zero, List.set_cons_succ, i64_w, i32_w]
             rfl
           refine pure_ (i := 3) (N := some 27) (v := ?_) (a' := ?_) (mS 19 74031) rfl rfl (any_of HT_.out (by kernel_rfl)) (fun _ _ _ h => h) (Or.inl ⟨by rfl, ?_⟩) ?_ ?_
           rotate_left
           · intro w'
             go_simp
             with_reducible rfl
           rotate_left
           · simp only [Act.put, List.setIfInBounds_toArray, List.set_cons_zero, List.set_cons_succ, i64_w, i32_w]
             rfl
           refine pure_ (i := 4) (N := some 28) (v := ?_) (a' := ?_) (mS 19 74047) rfl rfl (any_of HT_.out (by kernel_rfl)) (fun _ _ _ h => h) (Or.inl ⟨by rfl, ?_⟩) ?_ ?_
           rotate_left
           · intro w'
             go_simp
             with_reducible rfl
           rotate_left
           · simp only [Act.put, List.setIfInBounds_toArray, List.set_cons_zero, List.set_cons_succ, i64_w, i32_w]
             rfl
           refine take_ (i := 6) (N := some 30) (v := ?_) (a' := ?_) (mS 19 74111) rfl rfl (take_ofW HT_.out HW_.out (by kernel_rfl)) (fun _ _ _ h => h) (Or.inl ⟨by rfl, ?_⟩) hHeld ?_ ?_
           rotate_left
           · rintro w' ⟨s0, s1, s2, s3, s4, s5, s6, s7, s8⟩
             go_simp
             with_reducible rfl
           rotate_left
           · simp only [Act.put, List.setIfInBounds_toArray, List.set_cons_zero, List.set_cons_succ, i64_w, i32_w]
             rfl
           refine take_ (i := 9) (N := some 33) (v := ?_) (a' := ?_) (mS 19 74623) rfl rfl (take_ofW HT_.out HW_.out (by kernel_rfl)) (fun _ _ _ h => h) (Or.inl ⟨by rfl, ?_⟩) hHeld ?_ ?_
           rotate_left
           · rintro w' ⟨s0, s1, s2, s3, s4, s5, s6, s7, s8⟩
             go_simp
             with_reducible rfl
           rotate_left
           · simp only [Act.put, List.setIfInBounds_toArray, List.set_cons_zero, List.set_cons_succ, i64_w, i32_w]
             rfl
           refine one_ (i := 7) (N := some 31) (mS 19 74751) rfl rfl (one_of HT_.out (by kernel_rfl)) (by decide) (fun K hK => ?_)
           refine goes_ Try.func48 (by kernel_rfl) rfl #[.int .i64 a0_1] (by rfl) rfl rfl (by (try simp only [List.map_toArray, List.map_cons, List.map_nil]); first | done | rfl | (simp only [List.length_drop, List.length_take]; rfl)) ?_
           with_reducible refine (masterdiscref10_number.calls a0_1 t412 _ A6.out).mono ?_
           rintro e w' ⟨rfl, ⟨nd, rfl⟩⟩
           refine ⟨_, rfl, ?_⟩
           refine hK.out _ _ ⟨(blk_cell BK406.out 0).trans rfl, (blk_cell BK406.out 1).trans rfl, (blk_cell BK406.out 2).trans rfl, (blk_cell BK406.out 3).trans rfl, (blk_cell BK406.out 4).trans rfl, (blk_cell BK406.out 5).trans rfl, (blk_cell BK406.out 6).trans rfl, (blk_cell BK406.out 7).trans rfl, (blk_cell BK406.out 8).trans rfl⟩ (fun hHeld => ?_)
           clear hK K
           refine norm_ (a' := ?_) ?_ ?_
           rotate_left
           · show Act.put _ (some 31) _ = _
             simp only [Act.put, List.setIfInBounds_toArray, List.set_cons_zero, List.set_cons_succ, i64_w, i32_w]
             rfl
           refine one_ (i := 10) (N := some 34) (mS 19 75775) rfl rfl (one_of HT_.out (by kernel_rfl)) (by decide) (fun K hK => ?_)
           refine goes_ Try.func48 (by kernel_rfl) rfl #[.int .i64 a0_2] (by rfl) rfl rfl (by (try simp only [List.map_toArray, List.map_cons, List.map_nil]); first | done | rfl | (simp only [List.length_drop, List.length_take]; rfl)) ?_
           with_reducible refine (masterdiscref10_number.calls a0_2 t413 _ A7.out).mono ?_
           rintro e w' ⟨rfl, ⟨nd, rfl⟩⟩
           refine ⟨_, rfl, ?_⟩
           refine hK.out _ _ ⟨(blk_cell BK406.out 0).trans rfl, (blk_cell BK406.out 1).trans rfl, (blk_cell BK406.out 2).trans rfl, (blk_cell BK406.out 3).trans rfl, (blk_cell BK406.out 4).trans rfl, (blk_cell BK406.out 5).trans rfl, (blk_cell BK406.out 6).trans rfl, (blk_cell BK406.out 7).trans rfl, (blk_cell BK406.out 8).trans rfl⟩ (fun hHeld => ?_)
           clear hK K
           refine norm_ (a' := ?_) ?_ ?_
           rotate_left
           · show Act.put _ (some 34) _ = _
             simp only [Act.put, List.setIfInBounds_toArray, List.set_cons_zero, List.set_cons_succ, i64_w, i32_w]
             rfl
           refine one_ (i := 11) (N := some 35) (mS 19 77823) rfl rfl (one_of HT_.out (by kernel_rfl)) (by decide) (fun K hK => ?_)
           refine Kd.R_lit_step (Kd.int .u8) _ 5 ?hg (N := 35) ?hd (xs := ([(wrap64 ((wrap64 (16 * a0_0)) + 1)) % 256, t412, t413] : List Int)) (inner := [.int .u8 ((wrap64 ((wrap64 (16 * a0_0)) + 1)) % 256), .int .u8 t412, .int .u8 t413]) (ok := fun _ => True) (okp := fun _ => True) ?hr ?hp (fun _ hk => hk) trivial (Below.refl _ _) (Nat.le_refl _) (by simp) ?_; (case hd => rfl); (case hg => rfl); (case hr => first | (go_simp; done) | (go_simp; rfl)); (case hp => exact (Reps.one (show Kd.M (Kd.int .u8) _ _ _ ((wrap64 ((wrap64 (16 * a0_0)) + 1)) % 256) [.int .u8 ((wrap64 ((wrap64 (16 * a0_0)) + 1)) % 256)] from rfl) (Reps.one (show Kd.M (Kd.int .u8) _ _ _ t412 [.int .u8 t412] from rfl) (Reps.one (show Kd.M (Kd.int .u8) _ _ _ t413 [.int .u8 t413] from rfl) (Reps.none _ _)))))
           intro v415 w21 ho22 hb hg_ hnew_
           clear hg_ hnew_
           (first | rw [← Ny414.out] at ho22 | (simp only [Int.reduceToNat] at ho22; rw [← Ny414.out] at ho22))
           have n0_ := Aside0.mk (Kd.R_lower ho22 (below_size (by repeat (first | (with_reducible first | exact HB.out | apply below_alloc | apply pw_below_drewN | apply below_drew1 | refine below_set ?_ GE406.out) | exact HB.out))))
           have n1_ := Aside0.mk (blk_below (g := gb406) (o := .cells #[.int .i64 a0_0, .int .i64 a0_1, .int .i64 a0_2, .int .i64 a0_3, .int .i64 a0_4, .int .i64 a0_5, .int .i64 a0_6, .int .i64 a0_7, .int .i64 a0_8] 27 (0, 0)) (by (with_reducible repeat (first | refine blk_drewN ?_ _ | refine blk_drew ?_ | refine blk_alloc ?_ _)); exact BK406.out) hb)
           have n2_ := Aside0.mk (below_step (by repeat (first | (with_reducible first | exact HB.out | apply below_alloc | apply pw_below_drewN | apply below_drew1 | refine below_set ?_ GE406.out) | exact HB.out)) hb)
           clear BK406
           clear HB
           have HO416 := n0_
           have BK406 := n1_
           have HB := n2_
           clear n0_ n1_ n2_
           clear hb ho22
           refine hK.out _ _ ⟨(blk_cell BK406.out 0).trans rfl, (blk_cell BK406.out 1).trans rfl, (blk_cell BK406.out 2).trans rfl, (blk_cell BK406.out 3).trans rfl, (blk_cell BK406.out 4).trans rfl, (blk_cell BK406.out 5).trans rfl, (blk_cell BK406.out 6).trans rfl, (blk_cell BK406.out 7).trans rfl, (blk_cell BK406.out 8).trans rfl⟩ (fun hHeld => ?_)
           clear hK K
           refine norm_ (a' := ?_) ?_ ?_
           rotate_left
           · show Act.put _ (some 35) _ = _
             simp only [Act.put, List.setIfInBounds_toArray, List.set_cons_zero, List.set_cons_succ, i64_w, i32_w]
             rfl
           refine one_ (i := 12) (N := some 36) (mS 19 81919) rfl rfl (one_of HT_.out (by kernel_rfl)) (by decide) (fun K hK => ?_)
           have hcv23 := own_string (P := Try.prog) Try.underlying49 Try.underlying5 Try.underlying9 (Kd.own_of_R HO416.out)
           refine value_ (w1 := ?_) (v := ?_) (by rfl) rfl ?_ ?_
           rotate_left 2
           · go_simp
             constructor
             · rfl
             · rfl
           clear hcv23
           refine hK.out _ _ ⟨(blk_cell BK406.out 0).trans rfl, (blk_cell BK406.out 1).trans rfl, (blk_cell BK406.out 2).trans rfl, (blk_cell BK406.out 3).trans rfl, (blk_cell BK406.out 4).trans rfl, (blk_cell BK406.out 5).trans rfl, (blk_cell BK406.out 6).trans rfl, (blk_cell BK406.out 7).trans rfl, (blk_cell BK406.out 8).trans rfl⟩ (fun hHeld => ?_)
           clear hK K
           refine norm_ (a' := ?_) ?_ ?_
           rotate_left
           · show Act.put _ (some 36) _ = _
             simp only [Act.put, List.setIfInBounds_toArray, List.set_cons_zero, List.set_cons_succ, i64_w, i32_w]
             rfl
           refine pure_ (i := 14) (N := some 38) (v := ?_) (a' := ?_) (mS 19 98303) rfl rfl (any_of HT_.out (by kernel_rfl)) (fun _ _ _ h => h) (Or.inl ⟨by rfl, ?_⟩) ?_ ?_
           rotate_left
           · intro w'
             go_simp
             with_reducible rfl
           rotate_left
           · simp only [Act.put, List.setIfInBounds_toArray, List.set_cons_zero, List.set_cons_succ, i64_w, i32_w]
             rfl
           refine pure_ (i := 15) (N := some 39) (v := ?_) (a' := ?_) (mS 19 131071) rfl rfl (any_of HT_.out (by kernel_rfl)) (fun _ _ _ h => h) (Or.inl ⟨by rfl, ?_⟩) ?_ ?_
           rotate_left
           · intro w'
             go_simp
             with_reducible rfl
           rotate_left
           · simp only [Act.put, List.setIfInBounds_toArray, List.set_cons_zero, List.set_cons_succ, i64_w, i32_w]
             rfl
           refine pure_ (i := 17) (N := some 41) (v := ?_) (a' := ?_) (mS 19 262143) rfl rfl (any_of HT_.out (by kernel_rfl)) (fun _ _ _ h => h) (Or.inl ⟨by rfl, ?_⟩) ?_ ?_
           rotate_left
           · intro w'
             go_simp
             with_reducible rfl
           rotate_left
           · simp only [Act.put, List.setIfInBounds_toArray, List.set_cons_zero, List.set_cons_succ, i64_w, i32_w]
             rfl
           refine pure_ (i := 18) (N := some 8) (v := ?_) (a' := ?_) (mS 19 524287) rfl rfl (any_of HT_.out (by kernel_rfl)) (fun _ _ _ h => h) (Or.inl ⟨by rfl, ?_⟩) ?_ ?_
           rotate_left
           · intro w'
             go_simp
             with_reducible rfl
           rotate_left
           · simp only [Act.put, List.setIfInBounds_toArray, List.set_cons_zero, List.set_cons_succ, i64_w, i32_w]
             rfl
           refine done_ (done_of HT_.out (by kernel_rfl)) ?_
           try go_wp2_with (first | ((with_reducible refine gate_callee (f := 49) rfl ?_); refine goesL_ (some 44) rfl rfl Try.func49 (by kernel_rfl) rfl #[.string ((((strOfNums y414) ++ t408) ++ (⟨#[0]⟩ : ByteArray)) ++ t410)] rfl (by (try simp only [List.map_toArray, List.map_cons, List.map_nil]); first | done | rfl | (simp only [List.length_drop, List.length_take]; rfl)) ?_; (with_reducible refine (masterdiscref10_check.calls k ((((strOfNums y414) ++ t408) ++ (⟨#[0]⟩ : ByteArray)) ++ t410) t417 _ A11.out).mono ?_); rintro e w24 ⟨rfl, hb⟩; refine ⟨_, rfl, ?_⟩; have n0_ := Aside0.mk (Kd.R_below (by (with_reducible repeat (first | apply Kd.R_alloc | apply Kd.R_drewN | apply Kd.R_drew)); exact HO416.out) hb); have n1_ := Aside0.mk (blk_below (g := gb406) (o := .cells #[.int .i64 a0_0, .int .i64 a0_1, .int .i64 a0_2, .int .i64 a0_3, .int .i64 a0_4, .int .i64 a0_5, .int .i64 a0_6, .int .i64 a0_7, .int .i64 a0_8] 27 (0, 0)) (by (with_reducible repeat (first | refine blk_drewN ?_ _ | refine blk_drew ?_ | refine blk_alloc ?_ _)); exact BK406.out) hb); have n2_ := Aside0.mk (below_step (by repeat (first | (with_reducible first | exact HB.out | apply below_alloc | apply pw_below_drewN | apply below_drew1 | refine below_set ?_ GE406.out) | exact HB.out)) hb); clear HO416; clear BK406; clear HB; have HO416 := n0_; have BK406 := n1_; have HB := n2_; clear n0_ n1_ n2_; (try clear hb); (try clear hb2); (try clear hk); (try clear hi)))
           go_ret2
           exact ⟨by first | rfl | (simp [errW_none, errW_some] <;> rfl) | (simp [*, errW_none, errW_some] <;> rfl), by repeat (first | (with_reducible first | exact HB.out | apply below_alloc | apply pw_below_drewN | apply below_drew1 | refine below_set ?_ GE406.out) | exact HB.out)⟩
         · rw [if_neg c12] at H
           exact absurd H (by simp)
       · rw [if_neg c10] at H
         exact absurd H (by simp)
     · rw [if_neg c9] at H
       exact absurd H (by simp)
   · rw [if_neg c8] at H
     exact absurd H (by simp)
 · replace c3 := Bool.eq_false_iff.mpr c3
   subst c3
   have H1 : (some ((⟨#[]⟩ : ByteArray), 1)) = some (r1, r2) := by rw [if_neg (show ¬ (false = true) by decide)] at H; exact H
   clear H
   have H := H1
   clear H1
   simp only [Option.some.injEq, Prod.mk.injEq] at H
   obtain ⟨rfl, rfl⟩ := H
   go_enter Try.func22, Try.ntmps22
   go_wp2_with (first | ((with_reducible refine gate_dst (N := 1) rfl ?_); refine box_event ?hg (N := 1) ?hd (cs := #[.int .i64 a0_0, .int .i64 a0_1, .int .i64 a0_2, .int .i64 a0_3, .int .i64 a0_4, .int .i64 a0_5, .int .i64 a0_6, .int .i64 a0_7, .int .i64 a0_8]) (t := 27) ?hr ?_; (case hd => rfl); (case hg => rfl); (case hr => first | (go_simp; done) | (go_simp; rfl)); intro gb406 hg w25 hbox hb; have n0_ := Aside0.mk (below_step (by repeat (first | (with_reducible first | exact HB.out | apply below_alloc | apply pw_below_drewN | apply below_drew1) | exact HB.out)) hb); have n1_ := Aside0.mk (hbox); have n2_ := Aside0.mk ((by rw [hg]; exact (below_size (by repeat (first | (with_reducible first | exact HB.out | apply below_alloc | apply pw_below_drewN | apply below_drew1) | exact HB.out))) : w.heap.size ≤ gb406)); have n3_ := Aside0.mk ((by rw [hg]; exact (below_size (by repeat (first | (with_reducible first | exact HB.out | apply below_alloc | apply pw_below_drewN | apply below_drew1) | exact HB.out))) : w.heap.size ≤ gb406)); clear HB; have HB := n0_; have BK406 := n1_; have GW406 := n2_; have GE406 := n3_; clear n0_ n1_ n2_ n3_; clear hb hbox hg; have hcz26_0 : w25.cell? ⟨gb406, 0, none⟩ = some (.int .i64 a0_0) := (blk_cell BK406.out 0).trans rfl; have hcz26_1 : w25.cell? ⟨gb406, 1, none⟩ = some (.int .i64 a0_1) := (blk_cell BK406.out 1).trans rfl; have hcz26_2 : w25.cell? ⟨gb406, 2, none⟩ = some (.int .i64 a0_2) := (blk_cell BK406.out 2).trans rfl; have hcz26_3 : w25.cell? ⟨gb406, 3, none⟩ = some (.int .i64 a0_3) := (blk_cell BK406.out 3).trans rfl; have hcz26_4 : w25.cell? ⟨gb406, 4, none⟩ = some (.int .i64 a0_4) := (blk_cell BK406.out 4).trans rfl; have hcz26_5 : w25.cell? ⟨gb406, 5, none⟩ = some (.int .i64 a0_5) := (blk_cell BK406.out 5).trans rfl; have hcz26_6 : w25.cell? ⟨gb406, 6, none⟩ = some (.int .i64 a0_6) := (blk_cell BK406.out 6).trans rfl; have hcz26_7 : w25.cell? ⟨gb406, 7, none⟩ = some (.int .i64 a0_7) := (blk_cell BK406.out 7).trans rfl; have hcz26_8 : w25.cell? ⟨gb406, 8, none⟩ = some (.int .i64 a0_8) := (blk_cell BK406.out 8).trans rfl; have hfz26_0 := blk_frozen BK406.out 0; have hfz26_1 := blk_frozen BK406.out 1; have hfz26_2 := blk_frozen BK406.out 2; have hfz26_3 := blk_frozen BK406.out 3; have hfz26_4 := blk_frozen BK406.out 4; have hfz26_5 := blk_frozen BK406.out 5; have hfz26_6 := blk_frozen BK406.out 6; have hfz26_7 := blk_frozen BK406.out 7; have hfz26_8 := blk_frozen BK406.out 8) | ((with_reducible refine gate_callee (f := 46) rfl ?_); refine goesL_ (some 10) rfl rfl Try.func46 (by kernel_rfl) rfl #[.agg #[.int .i64 a0_0, .int .i64 a0_1, .int .i64 a0_2, .int .i64 a0_3, .int .i64 a0_4, .int .i64 a0_5, .int .i64 a0_6, .int .i64 a0_7, .int .i64 a0_8]] rfl (by (try simp only [List.map_toArray, List.map_cons, List.map_nil]); first | done | rfl | (simp only [List.length_drop, List.length_take]; rfl)) ?_; (with_reducible refine (masterdiscref10_Valid.calls k a0_0 a0_1 a0_2 a0_3 a0_4 a0_5 a0_6 a0_7 a0_8 false _ A2.out).mono ?_); rintro e w27 ⟨rfl, hb⟩; refine ⟨_, rfl, ?_⟩; have n0_ := Aside0.mk (blk_below (g := gb406) (o := .cells #[.int .i64 a0_0, .int .i64 a0_1, .int .i64 a0_2, .int .i64 a0_3, .int .i64 a0_4, .int .i64 a0_5, .int .i64 a0_6, .int .i64 a0_7, .int .i64 a0_8] 27 (0, 0)) (by (with_reducible repeat (first | refine blk_drewN ?_ _ | refine blk_drew ?_ | refine blk_alloc ?_ _)); exact BK406.out) hb); have n1_ := Aside0.mk (below_step (by repeat (first | (with_reducible first | exact HB.out | apply below_alloc | apply pw_below_drewN | apply below_drew1 | refine below_set ?_ GE406.out) | exact HB.out)) hb); clear BK406; clear HB; have BK406 := n0_; have HB := n1_; clear n0_ n1_; (try clear hb); (try clear hb2); (try clear hk); (try clear hi)))
   go_ret2
   exact ⟨by first | rfl | (simp [errW_none, errW_some] <;> rfl) | (simp [*, errW_none, errW_some] <;> rfl), by repeat (first | (with_reducible first | exact HB.out | apply below_alloc | apply pw_below_drewN | apply below_drew1 | refine below_set ?_ GE406.out) | exact HB.out)⟩
end Go.Proofs.Ytpmkibggmkibeaa.G
namespace Go.Proofs.Ytpmkibggmkibeaa.G
open Go.RowKit Go.Proofs.YtpmkibggmkibeaaW.PrintWords Go.Proofs.YtpmkibggmkibeaaW.PrintLast Go.Proofs.YtpmkibggmkibeaaW.PrintMore
set_option linter.unusedVariables false
theorem join_full {w W : World} {g1 g2 : Nat} {m s f : Int} (h1 : W.heap[g1]? = some (Obj.cells #[.int .i64 0, .int .i64 0, .int .i64 0] 25 (0, 0))) (h2 : W.heap[g2]? = some (Obj.cells #[.int .i64 m, .int .i64 s, .int .i64 f] 25 (0, 0))) (hb : Below w.heap.size w W) :
 W.cell? ⟨g2, 0, none⟩ = some (.int .i64 m) ∧ W.cell? ⟨g2, 1, none⟩ = some (.int .i64 s) ∧ W.cell? ⟨g2, 2, none⟩ = some (.int .i64 f) ∧ W.cell? ⟨g1, 0, none⟩ = some (.int .i64 0) ∧ W.cell? ⟨g1, 1, none⟩ = some (.int .i64 0) ∧ W.cell? ⟨g1, 2, none⟩ = some (.int .i64 0) ∧ W.frozen? ⟨g1, 0, none⟩ = false ∧ W.frozen? ⟨g1, 1, none⟩ = false ∧ W.frozen? ⟨g1, 2, none⟩ = false ∧ W.heap[g1]? = some (.cells #[.int .i64 0, .int .i64 0, .int .i64 0] 25 (0, 0)) ∧ W.heap[g2]? = some (.cells #[.int .i64 m, .int .i64 s, .int .i64 f] 25 (0, 0)) ∧ Below w.heap.size w W :=
 ⟨(blk_cell h2 0).trans rfl, (blk_cell h2 1).trans rfl, (blk_cell h2 2).trans rfl, (blk_cell h1 0).trans rfl, (blk_cell h1 1).trans rfl, (blk_cell h1 2).trans rfl, blk_frozen h1 0, blk_frozen h1 1, blk_frozen h1 2, h1, h2, hb⟩
theorem join_keep {w W w2 : World} {g1 g2 : Nat} {m s f : Int} (h : W.cell? ⟨g2, 0, none⟩ = some (.int .i64 m) ∧ W.cell? ⟨g2, 1, none⟩ = some (.int .i64 s) ∧ W.cell? ⟨g2, 2, none⟩ = some (.int .i64 f) ∧ W.cell? ⟨g1, 0, none⟩ = some (.int .i64 0) ∧ W.cell? ⟨g1, 1, none⟩ = some (.int .i64 0) ∧ W.cell? ⟨g1, 2, none⟩ = some (.int .i64 0) ∧ W.frozen? ⟨g1, 0, none⟩ = false ∧ W.frozen? ⟨g1, 1, none⟩ = false ∧ W.frozen? ⟨g1, 2, none⟩ = false ∧ W.heap[g1]? = some (.cells #[.int .i64 0, .int .i64 0, .int .i64 0] 25 (0, 0)) ∧ W.heap[g2]? = some (.cells #[.int .i64 m, .int .i64 s, .int .i64 f] 25 (0, 0)) ∧ Below w.heap.size w W) (hb : Below W.heap.size W w2) :
 w2.cell? ⟨g2, 0, none⟩ = some (.int .i64 m) ∧ w2.cell? ⟨g2, 1, none⟩ = some (.int .i64 s) ∧ w2.cell? ⟨g2, 2, none⟩ = some (.int .i64 f) ∧ w2.cell? ⟨g1, 0, none⟩ = some (.int .i64 0) ∧ w2.cell? ⟨g1, 1, none⟩ = some (.int .i64 0) ∧ w2.cell? ⟨g1, 2, none⟩ = some (.int .i64 0) ∧ w2.frozen? ⟨g1, 0, none⟩ = false ∧ w2.frozen? ⟨g1, 1, none⟩ = false ∧ w2.frozen? ⟨g1, 2, none⟩ = false ∧ w2.heap[g1]? = some (.cells #[.int .i64 0, .int .i64 0, .int .i64 0] 25 (0, 0)) ∧ w2.heap[g2]? = some (.cells #[.int .i64 m, .int .i64 s, .int .i64 f] 25 (0, 0)) ∧ Below w.heap.size w w2 :=
 join_full (blk_below h.2.2.2.2.2.2.2.2.2.1 hb) (blk_below h.2.2.2.2.2.2.2.2.2.2.1 hb) (below_step h.2.2.2.2.2.2.2.2.2.2.2 hb)
theorem three_new {W w' : World} {o1 o2 o3 : Obj} (h : ((W.alloc o1).alloc o2).alloc o3 = w') : w'.heap[W.heap.size]? = some o1 ∧ w'.heap[W.heap.size + 1]? = some o2 ∧ w'.heap[W.heap.size + 2]? = some o3 ∧ Below W.heap.size W w' := by
 subst h
 obtain ⟨h1, h2, h3⟩ := two_new (rfl : (W.alloc o1).alloc o2 = (W.alloc o1).alloc o2)
 have s1 : ((W.alloc o1).alloc o2).heap.size = W.heap.size + 2 := by simp
 refine ⟨blk_alloc h1 o3, blk_alloc h2 o3, ?_, h3.alloc (by omega) _⟩
 have := blk_new ((W.alloc o1).alloc o2) o3
 rwa [s1] at this
set_option maxHeartbeats 400000 in
set_option maxRecDepth 100000 in
theorem address_join.calls (m s f : Int) (w : World) :
 Calls Try.prog 69 #[.agg #[.int .i64 m, .int .i64 s, .int .i64 f]] w fun e w' => e = .returned (.tuple #[.agg #[.int .i64 m, .int .i64 s, .int .i64 f], .bool (msfB m s f)]) ∧ Below w.heap.size w w' := by
 have hu := Try.underlying25
 have hu3 := Try.underlying75
 obtain ⟨b, hb⟩ : ∃ b, msfB m s f = b := ⟨_, rfl⟩
 have HV := fun W => Aside0.mk (address_Valid.calls m s f b W (congrArg some hb))
 rw [hb]
 clear hb
 go_enter Try.func69, Try.ntmps69
 go_wp2_with (fail)
 generalize hw0 : ((w.alloc _).alloc _).alloc _ = w0
 obtain ⟨hb0, hb1, hb2, hB⟩ := three_new hw0
 have d0 : w0.cell? ⟨w.heap.size + 2, 0, none⟩ = some (.int .i64 m) := (blk_cell hb2 0).trans rfl
 have d1 : w0.cell? ⟨w.heap.size + 2, 1, none⟩ = some (.int .i64 s) := (blk_cell hb2 1).trans rfl
 have d2 : w0.cell? ⟨w.heap.size + 2, 2, none⟩ = some (.int .i64 f) := (blk_cell hb2 2).trans rfl
 obtain ⟨g1, hg1⟩ : ∃ g, w.heap.size + 1 = g := ⟨_, rfl⟩
 obtain ⟨g2, hg2⟩ : ∃ g, w.heap.size + 2 = g := ⟨_, rfl⟩
 have hg2' : w.heap.size + 1 + 1 = g2 := by omega
 have GE1 : w.heap.size ≤ g1 := by omega
 have GE2 : w.heap.size ≤ g2 := by omega
 have hne : g2 ≠ g1 := by omega
 rw [hg1] at hb1
 rw [hg2] at hb2 d0 d1 d2
 rw [hg2', hg1]
 clear hg1 hg2 hg2' hw0 hb0 d0 d1 d2
 obtain ⟨d0, d1, d2, -⟩ := join_full hb1 hb2 hB
 go_region_with (first | (go_at_call 37; refine (HV _).out.mono ?_; rintro e w2 ⟨rfl, hbv⟩; obtain ⟨e0, e1, e2, e3, e4, e5, e6, e7, e8, e9, -, e10⟩ := join_keep (join_full (blk_drew hb1) (blk_drew hb2) (below_drew1 hB)) hbv))
 all_goals go_wp2_with (fail)
 all_goals refine bodyPost_ret (results_ct rfl _ _ g1 25 #[.int .i64 m, .int .i64 s, .int .i64 f] (0, 0) _ rfl (blk_put (cs := #[.int .i64 m, .int .i64 s, .int .i64 0]) (blk_put (cs := #[.int .i64 m, .int .i64 0, .int .i64 0]) (blk_put (cs := #[.int .i64 0, .int .i64 0, .int .i64 0]) e9 0 _ rfl) 1 _ rfl) 2 _ rfl) hu rfl (by kernel_rfl)) rfl ?_
 all_goals exact ⟨rfl, below_set (below_set (below_set e10 GE1) GE1) GE1⟩
end Go.Proofs.Ytpmkibggmkibeaa.G
namespace Go.Proofs.Ytpmkibggmkibeaa.G
open Go.RowKit Go.Proofs.YtpmkibggmkibeaaW.PrintWords Go.Proofs.YtpmkibggmkibeaaW.PrintLast Go.Proofs.YtpmkibggmkibeaaW.PrintMore
set_option linter.unusedVariables false
def fb (s : ByteArray) (i : Int) : Int × Int := (endian_FromBCD.f (bt s i)).getD (0, 2)
theorem fb_f (s : ByteArray) (i : Int) : endian_FromBCD.f (bt s i) = some ((fb s i).1, (fb s i).2) := by
 unfold fb endian_FromBCD.f
 split
 · rfl
 · split <;> rfl
abbrev Msf4 := Int × Int × Int × Int
def dec3 (s : ByteArray) (a : Int) : Msf4 := if msfB (fb s a).1 (fb s (a + 1)).1 (fb s (a + 2)).1 = true then ((fb s a).1, (fb s (a + 1)).1, (fb s (a + 2)).1, 0) else (0, 0, 0, 10)
def dec2 (s : ByteArray) (a : Int) : Msf4 := if (fb s (a + 2)).2 = 0 then dec3 s a else (0, 0, 0, 10)
def dec1 (s : ByteArray) (a : Int) : Msf4 := if (fb s (a + 1)).2 = 0 then dec2 s a else (0, 0, 0, 10)
def dec0 (s : ByteArray) (a : Int) : Msf4 := if (fb s a).2 = 0 then dec1 s a else (0, 0, 0, 10)
def decK (s : ByteArray) (a : Int) : Nat → Msf4
 | 0 => dec0 s a
 | 1 => dec1 s a
 | 2 => dec2 s a
 | _ => dec3 s a
def decC (s : ByteArray) (a : Int) : Nat → Array Value
 | 0 => #[.int .i64 0, .int .i64 0, .int .i64 0]
 | 1 => #[.int .i64 (fb s a).1, .int .i64 0, .int .i64 0]
 | 2 => #[.int .i64 (fb s a).1, .int .i64 (fb s (a + 1)).1, .int .i64 0]
 | _ => #[.int .i64 (fb s a).1, .int .i64 (fb s (a + 1)).1, .int .i64 (fb s (a + 2)).1]
def decOut (s : ByteArray) (a : Int) : Bool := decide (a < 0 ∨ (s.size : Int) - 3 < a)
def address_Decode.f (a0 : ByteArray) (a1 : Int) : Option (Int × Int × Int × Int) :=
 if a0.size < 9223372036854775807 then (if decOut a0 a1 = true then some (0, 0, 0, 2) else some (dec0 a0 a1)) else none
set_option maxHeartbeats 400000 in
set_option maxRecDepth 100000 in
theorem dec_out (s : ByteArray) (a : Int) (w : World) (hs : s.size < 9223372036854775807) (h : decOut s a = true) :
 Calls Try.prog 51 #[.string s, .int .i64 a] w fun e w' => e = .returned (.tuple #[.agg #[.int .i64 0, .int .i64 0, .int .i64 0], .int .i64 2]) ∧ Below w.heap.size w w' := by
 have hu := Try.underlying25
 have hd := of_decide_eq_true h
 have hw : wrap64 ((s.size : Int) - 3) = (s.size : Int) - 3 := by unfold wrap64; omega
 obtain ⟨n, hn⟩ : ∃ n : Int, (s.size : Int) = n := ⟨_, rfl⟩
 rw [hn] at hd hw
 have HBK := Aside0.mk (blk_new w (.cells #[.int .i64 0, .int .i64 0, .int .i64 0] 25 (0, 0)))
 have HBL := Aside0.mk (Below.alloc (Below.refl w.heap.size w) (Nat.le_refl _) (.cells #[.int .i64 0, .int .i64 0, .int .i64 0] 25 (0, 0)))
 clear hs h
 by_cases h0 : a < 0
 · clear hd
   go_enter Try.func51, Try.ntmps51
   go_wp2_with (fail)
   refine bodyPost_ret (results_ct rfl _ _ w.heap.size 25 _ (0, 0) _ rfl HBK.out hu rfl (by kernel_rfl)) rfl ?_
   exact ⟨rfl, HBL.out⟩
 · have hd1 : n - 3 < a := by omega
   clear hd
   go_enter Try.func51, Try.ntmps51
   go_wp2_with (fail)
   refine bodyPost_ret (results_ct rfl _ _ w.heap.size 25 _ (0, 0) _ rfl HBK.out hu rfl (by kernel_rfl)) rfl ?_
   exact ⟨rfl, HBL.out⟩
theorem below_drawn0_ {w w' : World} (h : Drawn0 w w') : Below w.heap.size w w' := h.below
theorem ix_str (s : ByteArray) (i : Int) (h0 : 0 ≤ i) (h1 : i < (s.size : Int)) (w : World) : (Instr.index 9 (.string s) (.int .i64 i)).run Try.prog w = .ok (.int .u8 (bt s i)) w := by
 rw [run_index_string (h := Try.underlying9)]
 have : i.toNat < s.size := by omega
 rw [dif_pos ⟨h0, h1⟩]
 simp [bt, this]
set_option maxHeartbeats 400000 in
set_option maxRecDepth 100000 in
theorem dec_in (s : ByteArray) (a : Int) (w : World) (hs : s.size < 9223372036854775807) (h : decOut s a = false) :
 Calls Try.prog 51 #[.string s, .int .i64 a] w fun e w' => e = .returned (.tuple #[.agg #[.int .i64 (dec0 s a).1, .int .i64 (dec0 s a).2.1, .int .i64 (dec0 s a).2.2.1], .int .i64 (dec0 s a).2.2.2]) ∧ Below w.heap.size w w' := by
 have hu := Try.underlying25
 have hu3 := Try.underlying75
 have hd := of_decide_eq_false h
 obtain ⟨R, hR⟩ : ∃ R, decK s a 0 = R := ⟨_, rfl⟩
 rw [show dec0 s a = R from hR]
 have HR := Aside0.mk hR
 have hix0 := ix_str s a (by omega) (by omega)
 have hix1 := ix_str s (a + 1) (by omega) (by omega)
 have hix2 := ix_str s (a + 2) (by omega) (by omega)
 obtain ⟨hw, hw0, hw1, hw2⟩ : wrap64 ((s.size : Int) - 3) = (s.size : Int) - 3 ∧ wrap64 a = a ∧ wrap64 (a + 1) = a + 1 ∧ wrap64 (a + 2) = a + 2 := by unfold wrap64; omega
 have h0 : ¬ a < 0 := by omega
 have h0' : 0 ≤ a := by omega
 have h1 : decide ((s.size : Int) - 3 < a) = false := decide_eq_false (by omega)
 obtain ⟨n, hn⟩ : ∃ n : Int, (s.size : Int) = n := ⟨_, rfl⟩
 rw [hn] at hw h1
 clear h hs hd hR
 go_enter Try.func51, Try.ntmps51
 go_wp2_with (fail)
 generalize hw0 : (w.alloc _).alloc _ = w0
 obtain ⟨hb0, hb1, hB⟩ := two_new hw0
 obtain ⟨g0, hg0⟩ : ∃ g, w.heap.size = g := ⟨_, rfl⟩
 have GE0 : w.heap.size ≤ g0 := by omega
 rw [hg0] at hb0 hb1 ⊢
 obtain ⟨g1, hg1⟩ : ∃ g, g0 + 1 = g := ⟨_, rfl⟩
 have GE1 : w.heap.size ≤ g1 := by omega
 have hne : g1 ≠ g0 := by omega
 have hne' : g0 ≠ g1 := by omega
 rw [hg1] at hb1 ⊢
 clear hg0 hg1 hw0
 go_loopg [22] 3 (fun gk v22 wr => ∃ k : Nat, k ≤ 3 ∧ 3 - k ≤ gk ∧ v22 = .int .i64 k ∧ Aside0 (decK s a k = R) ∧ Aside0 (wr.heap[g1]? = some (.cells (decC s a k) 75 (0, 0))) ∧ Aside0 (wr.heap[g0]? = some (.cells #[.int .i64 0, .int .i64 0, .int .i64 0] 25 (0, 0))) ∧ Aside0 (Below w.heap.size w wr))
 case atStart => exact ⟨0, by omega, by omega, rfl, HR, ⟨hb1⟩, ⟨hb0⟩, ⟨hB⟩⟩
 case round =>
  clear hb0 hb1 hB
  obtain ⟨k, hk, hg, rfl, HV, HA, HZ, HB⟩ := hrel
  obtain ⟨wo, rfl⟩ : ∃ wo, wo = wr := ⟨_, rfl⟩
  rcases (by omega : k = 0 ∨ k = 1 ∨ k = 2 ∨ k = 3) with rfl | rfl | rfl | rfl
  · have hz := HZ.out
    have hE := HV.out
    have hB := HB.out
    rw [show ((0 : Nat) : Int) = (0 : Int) from rfl]
    have hfb := fb_f s (a)
    obtain ⟨x, hx⟩ : ∃ x, fb s (a) = x := ⟨_, rfl⟩
    simp only [decK, dec0, hx] at hE
    rw [hx] at hfb
    have hz := HZ.out
    have HCALL := Aside0.mk ((endian_FromBCD.calls (bt s (a)) x.1 x.2 wo hfb).mono (fun e w' h => (⟨h.1, below_drawn0_ h.2⟩ : _ ∧ Below wo.heap.size wo w')))
    clear hz hB hfb hk
    by_cases hc : x.2 = 0
    · have hcb : (x.2 != 0) = false := by simpa using hc
      rw [if_pos hc] at hE
      have HE := Aside0.mk hE
      clear hE
      go_wp2_with (fail)
      refine HCALL.out.mono ?_
      rintro e w2 ⟨rfl, hb2⟩
      have hz := blk_below HZ.out hb2
      have hA := blk_below HA.out hb2
      have HB2 := Aside0.mk (below_step HB.out hb2)
      clear hb2
      have c0 : w2.cell? ⟨g1, 0, none⟩ = some (.int .i64 0) := (blk_cell hA 0).trans rfl
      have f0 := blk_frozen hA 0
      go_wp2_with (fail)
      go_roundg 2
      case measure => omega
      case rel => exact ⟨1, by omega, by omega, by go_num, HE, ⟨by subst hx; exact blk_put hA 0 _ rfl⟩, ⟨blk_far hz hne' _⟩, ⟨below_set HB2.out GE1⟩⟩
    · have hcb : (x.2 != 0) = true := by simpa using hc
      rw [if_neg hc] at hE
      subst hE
      go_wp2_with (fail)
      refine HCALL.out.mono ?_
      rintro e w2 ⟨rfl, hb2⟩
      have hz := blk_below HZ.out hb2
      have hA := blk_below HA.out hb2
      have HB2 := Aside0.mk (below_step HB.out hb2)
      clear hb2
      have z0 : w2.cell? ⟨g0, 0, none⟩ = some (.int .i64 0) := (blk_cell hz 0).trans rfl
      have z1 : w2.cell? ⟨g0, 1, none⟩ = some (.int .i64 0) := (blk_cell hz 1).trans rfl
      have z2 : w2.cell? ⟨g0, 2, none⟩ = some (.int .i64 0) := (blk_cell hz 2).trans rfl
      have y0 := blk_frozen hz 0
      have y1 := blk_frozen hz 1
      have y2 := blk_frozen hz 2
      go_wp2_with (fail)
      refine bodyPost_ret (results_ct rfl _ _ g0 25 #[.int .i64 0, .int .i64 0, .int .i64 0] (0, 0) _ rfl (blk_put (cs := #[.int .i64 0, .int .i64 0, .int .i64 0]) (blk_put (cs := #[.int .i64 0, .int .i64 0, .int .i64 0]) (blk_put (cs := #[.int .i64 0, .int .i64 0, .int .i64 0]) (hz) 0 _ rfl) 1 _ rfl) 2 _ rfl) hu rfl (by kernel_rfl)) rfl ?_
      exact ⟨rfl, below_set (below_set (below_set HB2.out GE0) GE0) GE0⟩
  · have hz := HZ.out
    have hE := HV.out
    have hB := HB.out
    rw [show ((1 : Nat) : Int) = (1 : Int) from rfl]
    have hfb := fb_f s (a + 1)
    obtain ⟨x, hx⟩ : ∃ x, fb s (a + 1) = x := ⟨_, rfl⟩
    simp only [decK, dec1, hx] at hE
    rw [hx] at hfb
    have hz := HZ.out
    have HCALL := Aside0.mk ((endian_FromBCD.calls (bt s (a + 1)) x.1 x.2 wo hfb).mono (fun e w' h => (⟨h.1, below_drawn0_ h.2⟩ : _ ∧ Below wo.heap.size wo w')))
    clear hz hB hfb hk
    by_cases hc : x.2 = 0
    · have hcb : (x.2 != 0) = false := by simpa using hc
      rw [if_pos hc] at hE
      have HE := Aside0.mk hE
      clear hE
      go_wp2_with (fail)
      refine HCALL.out.mono ?_
      rintro e w2 ⟨rfl, hb2⟩
      have hz := blk_below HZ.out hb2
      have hA := blk_below HA.out hb2
      have HB2 := Aside0.mk (below_step HB.out hb2)
      clear hb2
      have c0 : w2.cell? ⟨g1, 1, none⟩ = some (.int .i64 0) := (blk_cell hA 1).trans rfl
      have f0 := blk_frozen hA 1
      go_wp2_with (fail)
      go_roundg 1
      case measure => omega
      case rel => exact ⟨2, by omega, by omega, by go_num, HE, ⟨by subst hx; exact blk_put hA 1 _ rfl⟩, ⟨blk_far hz hne' _⟩, ⟨below_set HB2.out GE1⟩⟩
    · have hcb : (x.2 != 0) = true := by simpa using hc
      rw [if_neg hc] at hE
      subst hE
      go_wp2_with (fail)
      refine HCALL.out.mono ?_
      rintro e w2 ⟨rfl, hb2⟩
      have hz := blk_below HZ.out hb2
      have hA := blk_below HA.out hb2
      have HB2 := Aside0.mk (below_step HB.out hb2)
      clear hb2
      have z0 : w2.cell? ⟨g0, 0, none⟩ = some (.int .i64 0) := (blk_cell hz 0).trans rfl
      have z1 : w2.cell? ⟨g0, 1, none⟩ = some (.int .i64 0) := (blk_cell hz 1).trans rfl
      have z2 : w2.cell? ⟨g0, 2, none⟩ = some (.int .i64 0) := (blk_cell hz 2).trans rfl
      have y0 := blk_frozen hz 0
      have y1 := blk_frozen hz 1
      have y2 := blk_frozen hz 2
      go_wp2_with (fail)
      refine bodyPost_ret (results_ct rfl _ _ g0 25 #[.int .i64 0, .int .i64 0, .int .i64 0] (0, 0) _ rfl (blk_put (cs := #[.int .i64 0, .int .i64 0, .int .i64 0]) (blk_put (cs := #[.int .i64 0, .int .i64 0, .int .i64 0]) (blk_put (cs := #[.int .i64 0, .int .i64 0, .int .i64 0]) (hz) 0 _ rfl) 1 _ rfl) 2 _ rfl) hu rfl (by kernel_rfl)) rfl ?_
      exact ⟨rfl, below_set (below_set (below_set HB2.out GE0) GE0) GE0⟩
  · have hz := HZ.out
    have hE := HV.out
    have hB := HB.out
    rw [show ((2 : Nat) : Int) = (2 : Int) from rfl]
    have hfb := fb_f s (a + 2)
    obtain ⟨x, hx⟩ : ∃ x, fb s (a + 2) = x := ⟨_, rfl⟩
    simp only [decK, dec2, hx] at hE
    rw [hx] at hfb
    have hz := HZ.out
    have HCALL := Aside0.mk ((endian_FromBCD.calls (bt s (a + 2)) x.1 x.2 wo hfb).mono (fun e w' h => (⟨h.1, below_drawn0_ h.2⟩ : _ ∧ Below wo.heap.size wo w')))
    clear hz hB hfb hk
    by_cases hc : x.2 = 0
    · have hcb : (x.2 != 0) = false := by simpa using hc
      rw [if_pos hc] at hE
      have HE := Aside0.mk hE
      clear hE
      go_wp2_with (fail)
      refine HCALL.out.mono ?_
      rintro e w2 ⟨rfl, hb2⟩
      have hz := blk_below HZ.out hb2
      have hA := blk_below HA.out hb2
      have HB2 := Aside0.mk (below_step HB.out hb2)
      clear hb2
      have c0 : w2.cell? ⟨g1, 2, none⟩ = some (.int .i64 0) := (blk_cell hA 2).trans rfl
      have f0 := blk_frozen hA 2
      go_wp2_with (fail)
      go_roundg 0
      case measure => omega
      case rel => exact ⟨3, by omega, by omega, by go_num, HE, ⟨by subst hx; exact blk_put hA 2 _ rfl⟩, ⟨blk_far hz hne' _⟩, ⟨below_set HB2.out GE1⟩⟩
    · have hcb : (x.2 != 0) = true := by simpa using hc
      rw [if_neg hc] at hE
      subst hE
      go_wp2_with (fail)
      refine HCALL.out.mono ?_
      rintro e w2 ⟨rfl, hb2⟩
      have hz := blk_below HZ.out hb2
      have hA := blk_below HA.out hb2
      have HB2 := Aside0.mk (below_step HB.out hb2)
      clear hb2
      have z0 : w2.cell? ⟨g0, 0, none⟩ = some (.int .i64 0) := (blk_cell hz 0).trans rfl
      have z1 : w2.cell? ⟨g0, 1, none⟩ = some (.int .i64 0) := (blk_cell hz 1).trans rfl
      have z2 : w2.cell? ⟨g0, 2, none⟩ = some (.int .i64 0) := (blk_cell hz 2).trans rfl
      have y0 := blk_frozen hz 0
      have y1 := blk_frozen hz 1
      have y2 := blk_frozen hz 2
      go_wp2_with (fail)
      refine bodyPost_ret (results_ct rfl _ _ g0 25 #[.int .i64 0, .int .i64 0, .int .i64 0] (0, 0) _ rfl (blk_put (cs := #[.int .i64 0, .int .i64 0, .int .i64 0]) (blk_put (cs := #[.int .i64 0, .int .i64 0, .int .i64 0]) (blk_put (cs := #[.int .i64 0, .int .i64 0, .int .i64 0]) (hz) 0 _ rfl) 1 _ rfl) 2 _ rfl) hu rfl (by kernel_rfl)) rfl ?_
      exact ⟨rfl, below_set (below_set (below_set HB2.out GE0) GE0) GE0⟩
  · rw [show ((3 : Nat) : Int) = (3 : Int) from rfl]
    have hE := HV.out
    simp only [decK, dec3] at hE
    have hz := HZ.out
    have hA := HA.out
    obtain ⟨x0, hx0⟩ : ∃ x, (fb s (a)).1 = x := ⟨_, rfl⟩
    obtain ⟨x1, hx1⟩ : ∃ x, (fb s (a + 1)).1 = x := ⟨_, rfl⟩
    obtain ⟨x2, hx2⟩ : ∃ x, (fb s (a + 2)).1 = x := ⟨_, rfl⟩
    simp only [decC, hx0, hx1, hx2] at hA
    simp only [hx0, hx1, hx2] at hE
    have c0 : wo.cell? ⟨g1, 0, none⟩ = some (.int .i64 x0) := (blk_cell hA 0).trans rfl
    have c1 : wo.cell? ⟨g1, 1, none⟩ = some (.int .i64 x1) := (blk_cell hA 1).trans rfl
    have c2 : wo.cell? ⟨g1, 2, none⟩ = some (.int .i64 x2) := (blk_cell hA 2).trans rfl
    obtain ⟨b, hb⟩ : ∃ b, msfB x0 x1 x2 = b := ⟨_, rfl⟩
    have HJ := Aside0.mk (address_join.calls x0 x1 x2 wo)
    rw [hb] at HJ hE
    clear hb hx0 hx1 hx2 hz hA hk
    go_wp2_with (fail)
    refine HJ.out.mono ?_
    rintro e w2 ⟨rfl, hb2⟩
    have hz := blk_below HZ.out hb2
    have HB2 := Aside0.mk (below_step HB.out hb2)
    clear hb2
    have z0 : ∀ o, (w2.alloc o).cell? ⟨g0, 0, none⟩ = some (.int .i64 0) := fun o => (blk_cell (blk_alloc hz o) 0).trans rfl
    have z1 : ∀ o, (w2.alloc o).cell? ⟨g0, 1, none⟩ = some (.int .i64 0) := fun o => (blk_cell (blk_alloc hz o) 1).trans rfl
    have z2 : ∀ o, (w2.alloc o).cell? ⟨g0, 2, none⟩ = some (.int .i64 0) := fun o => (blk_cell (blk_alloc hz o) 2).trans rfl
    have y0 : ∀ o, (w2.alloc o).frozen? ⟨g0, 0, none⟩ = false := fun o => blk_frozen (blk_alloc hz o) 0
    have y1 : ∀ o, (w2.alloc o).frozen? ⟨g0, 1, none⟩ = false := fun o => blk_frozen (blk_alloc hz o) 1
    have y2 : ∀ o, (w2.alloc o).frozen? ⟨g0, 2, none⟩ = false := fun o => blk_frozen (blk_alloc hz o) 2
    cases b with
    | false =>
     rw [if_neg (by decide)] at hE
     subst hE
     go_wp2_with (fail)
     refine bodyPost_ret (results_ct rfl _ _ g0 25 #[.int .i64 0, .int .i64 0, .int .i64 0] (0, 0) _ rfl (blk_put (cs := #[.int .i64 0, .int .i64 0, .int .i64 0]) (blk_put (cs := #[.int .i64 0, .int .i64 0, .int .i64 0]) (blk_put (cs := #[.int .i64 0, .int .i64 0, .int .i64 0]) (blk_alloc hz _) 0 _ rfl) 1 _ rfl) 2 _ rfl) hu rfl (by kernel_rfl)) rfl ?_
     exact ⟨rfl, below_set (below_set (below_set (HB2.out.alloc (below_size HB2.out) _) GE0) GE0) GE0⟩
    | true =>
     rw [if_pos rfl] at hE
     subst hE
     go_wp2_with (fail)
     refine bodyPost_ret (results_ct rfl _ _ g0 25 #[.int .i64 x0, .int .i64 x1, .int .i64 x2] (0, 0) _ rfl (blk_put (cs := #[.int .i64 x0, .int .i64 x1, .int .i64 0]) (blk_put (cs := #[.int .i64 x0, .int .i64 0, .int .i64 0]) (blk_put (cs := #[.int .i64 0, .int .i64 0, .int .i64 0]) (blk_alloc hz _) 0 _ rfl) 1 _ rfl) 2 _ rfl) hu rfl (by kernel_rfl)) rfl ?_
     exact ⟨rfl, below_set (below_set (below_set (HB2.out.alloc (below_size HB2.out) _) GE0) GE0) GE0⟩
theorem address_Decode.calls (a0 : ByteArray) (a1 : Int) (r1 r2 r3 r4 : Int) (w : World) (h : address_Decode.f a0 a1 = some (r1, r2, r3, r4)) :
 Calls Try.prog 51 #[.string a0, .int .i64 a1] w fun e w' => e = .returned (.tuple #[.agg #[.int .i64 r1, .int .i64 r2, .int .i64 r3], .int .i64 r4]) ∧ Below w.heap.size w w' := by
 unfold address_Decode.f at h
 by_cases hs : a0.size < 9223372036854775807
 · rw [if_pos hs] at h
   cases hd : decOut a0 a1 with
   | true =>
    rw [if_pos hd] at h
    cases h
    exact dec_out a0 a1 w hs hd
   | false =>
    rw [if_neg (by rw [hd]; decide)] at h
    have h2 : dec0 a0 a1 = (r1, r2, r3, r4) := Option.some.inj h
    have := dec_in a0 a1 w hs hd
    rw [h2] at this
    exact this
 · rw [if_neg hs] at h
   cases h
end Go.Proofs.Ytpmkibggmkibeaa.G
