/- Texts of one claim, merged by a program of this session; what is proved stands in the last of them. -/
import Derived.Deep.RegionWith
import Derived.Outline
import Derived.StillTailTactics
import Derived.Test.YtpmkibggmkibeaaKd1
import Derived.Test.YtpmkibggmkibeaaKd3
namespace Go.Proofs.Ytpmkibggmkibeaa.G
open Go.RowKit Go.Proofs.YtpmkibggmkibeaaW.PrintWords Go.Proofs.YtpmkibggmkibeaaW.PrintLast Go.Proofs.YtpmkibggmkibeaaW.PrintMore
attribute [local go_sem] max2_int min2_int max_two min_two max_three min_three max_four min_four   -- for this text's walks alone
set_option linter.unusedVariables false
set_option linter.unusedSimpArgs false
def subchannel_Encode.f (a0_0 : Int) (a0_1 : Int) (a0_2 : Int) (a0_3 : Int) (a0_4 : Int) (a0_5 : Int) (a0_6 : Int) (a0_7 : Int) (a0_8 : Int) : Option (ByteArray × Int) := (subchannel_valid.f a0_0 a0_1 a0_2 a0_3 a0_4 a0_5 a0_6 a0_7 a0_8).bind fun t160 => (if t160 = true then ((subchannel_number.f a0_1).bind fun t161 => ((subchannel_number.f a0_2).bind fun t162 => ((some (([(Go.bits .or .i64 (wrap64 (a0_0 * 16)) 1) % 256, t161, t162] : List Int) : List Int)).bind fun y163 => ((subchannel_Encode_1.f a0_3 a0_4 a0_5).bind fun t166 => (if (strOfNums y163).size + t166.size ≤ 9223372036854775807 then (if ((strOfNums y163) ++ t166).size + 1 ≤ 9223372036854775807 then ((subchannel_Encode_1.f a0_6 a0_7 a0_8).bind fun t167 => (if (((strOfNums y163) ++ t166) ++ (⟨#[0]⟩ : ByteArray)).size + t167.size ≤ 9223372036854775807 then ((subchannel_check.f ((((strOfNums y163) ++ t166) ++ (⟨#[0]⟩ : ByteArray)) ++ t167)).bind fun t168 => (if ((((strOfNums y163) ++ t166) ++ (⟨#[0]⟩ : ByteArray)) ++ t167).size + t168.size ≤ 9223372036854775807 then (some (((((strOfNums y163) ++ t166) ++ (⟨#[0]⟩ : ByteArray)) ++ t167) ++ t168, 0)) else (none))) else (none))) else (none)) else (none)))))) else (some ((⟨#[]⟩ : ByteArray), 1)))
def subchannel_Encode.T4 : Bool × List (List Nat × List Nat) := (true, [([], []), ([0], [0]), ([1], [1]), ([2], [2]), ([3], [3]), ([], []), ([5], [5]), ([6], [6]), ([], []), ([8], [8]), ([9, 7], [9]), ([4, 7, 10], [4, 7, 10]), ([11], [11]), ([], []), ([], []), ([14], [14]), ([13, 15, 10], [13, 15]), ([12, 16], [12, 16]), ([17], [17]), ([], []), ([], []), ([20], [20]), ([19, 21, 16], [19, 21]), ([18, 22], [18, 22]), ([23, 22, 0, 1, 2, 3, 4, 5, 6, 7, 8, 9, 10, 11, 12, 13, 14, 15, 16, 17, 18, 19, 20, 21, 22, 23], [23])])
def subchannel_Encode.B4 : List Nat := [0, 1, 3, 7, 15, 0, 32, 96, 0, 256, 992, 2047, 4095, 0, 0, 16384, 59360, 131071, 262143, 0, 0, 1048576, 3794912, 8388607, 16777215]
theorem subchannel_Encode.tab4 : rtab .any (opsOf Try.f18 4) = subchannel_Encode.T4 := by kernel_rfl
theorem subchannel_Encode.bits4 : waitsOk subchannel_Encode.T4.2 subchannel_Encode.B4 = true := by kernel_rfl
set_option maxHeartbeats 8000000 in
set_option maxRecDepth 100000 in
theorem subchannel_Encode.calls (a0_0 : Int) (a0_1 : Int) (a0_2 : Int) (a0_3 : Int) (a0_4 : Int) (a0_5 : Int) (a0_6 : Int) (a0_7 : Int) (a0_8 : Int) (r1 : ByteArray) (r2 : Int) (w : World) (h : subchannel_Encode.f a0_0 a0_1 a0_2 a0_3 a0_4 a0_5 a0_6 a0_7 a0_8 = some (r1, r2)) :
 Calls Try.prog 18 #[.agg #[.int .i64 a0_0, .int .i64 a0_1, .int .i64 a0_2, .int .i64 a0_3, .int .i64 a0_4, .int .i64 a0_5, .int .i64 a0_6, .int .i64 a0_7, .int .i64 a0_8]] w fun e w' => e = .returned (.tuple #[.string r1, .int .i64 r2]) ∧ Below w.heap.size w w' := by
 have hu27 := Try.underlying27
 have hu25 := Try.underlying25
 have HB := Aside0.mk (Below.refl w.heap.size w)
 have H : ((subchannel_valid.f a0_0 a0_1 a0_2 a0_3 a0_4 a0_5 a0_6 a0_7 a0_8).bind fun t160 => (if t160 = true then ((subchannel_number.f a0_1).bind fun t161 => ((subchannel_number.f a0_2).bind fun t162 => ((some (([(Go.bits .or .i64 (wrap64 (a0_0 * 16)) 1) % 256, t161, t162] : List Int) : List Int)).bind fun y163 => ((subchannel_Encode_1.f a0_3 a0_4 a0_5).bind fun t166 => (if (strOfNums y163).size + t166.size ≤ 9223372036854775807 then (if ((strOfNums y163) ++ t166).size + 1 ≤ 9223372036854775807 then ((subchannel_Encode_1.f a0_6 a0_7 a0_8).bind fun t167 => (if (((strOfNums y163) ++ t166) ++ (⟨#[0]⟩ : ByteArray)).size + t167.size ≤ 9223372036854775807 then ((subchannel_check.f ((((strOfNums y163) ++ t166) ++ (⟨#[0]⟩ : ByteArray)) ++ t167)).bind fun t168 => (if ((((strOfNums y163) ++ t166) ++ (⟨#[0]⟩ : ByteArray)) ++ t167).size + t168.size ≤ 9223372036854775807 then (some (((((strOfNums y163) ++ t166) ++ (⟨#[0]⟩ : ByteArray)) ++ t167) ++ t168, 0)) else (none))) else (none))) else (none)) else (none)))))) else (some ((⟨#[]⟩ : ByteArray), 1)))) = some (r1, r2) := h
 clear h
 replace H := Option.bind_eq_some_iff.mp H
 obtain ⟨t160, A20, H⟩ := H
 replace H : (if t160 = true then ((subchannel_number.f a0_1).bind fun t161 => ((subchannel_number.f a0_2).bind fun t162 => ((some (([(Go.bits .or .i64 (wrap64 (a0_0 * 16)) 1) % 256, t161, t162] : List Int) : List Int)).bind fun y163 => ((subchannel_Encode_1.f a0_3 a0_4 a0_5).bind fun t166 => (if (strOfNums y163).size + t166.size ≤ 9223372036854775807 then (if ((strOfNums y163) ++ t166).size + 1 ≤ 9223372036854775807 then ((subchannel_Encode_1.f a0_6 a0_7 a0_8).bind fun t167 => (if (((strOfNums y163) ++ t166) ++ (⟨#[0]⟩ : ByteArray)).size + t167.size ≤ 9223372036854775807 then ((subchannel_check.f ((((strOfNums y163) ++ t166) ++ (⟨#[0]⟩ : ByteArray)) ++ t167)).bind fun t168 => (if ((((strOfNums y163) ++ t166) ++ (⟨#[0]⟩ : ByteArray)) ++ t167).size + t168.size ≤ 9223372036854775807 then (some (((((strOfNums y163) ++ t166) ++ (⟨#[0]⟩ : ByteArray)) ++ t167) ++ t168, 0)) else (none))) else (none))) else (none)) else (none)))))) else (some ((⟨#[]⟩ : ByteArray), 1))) = some (r1, r2) := H
 have A2 := Aside0.mk A20
 clear A20
 by_cases c3 : t160 = true
 · subst c3
   have H1 : ((subchannel_number.f a0_1).bind fun t161 => ((subchannel_number.f a0_2).bind fun t162 => ((some (([(Go.bits .or .i64 (wrap64 (a0_0 * 16)) 1) % 256, t161, t162] : List Int) : List Int)).bind fun y163 => ((subchannel_Encode_1.f a0_3 a0_4 a0_5).bind fun t166 => (if (strOfNums y163).size + t166.size ≤ 9223372036854775807 then (if ((strOfNums y163) ++ t166).size + 1 ≤ 9223372036854775807 then ((subchannel_Encode_1.f a0_6 a0_7 a0_8).bind fun t167 => (if (((strOfNums y163) ++ t166) ++ (⟨#[0]⟩ : ByteArray)).size + t167.size ≤ 9223372036854775807 then ((subchannel_check.f ((((strOfNums y163) ++ t166) ++ (⟨#[0]⟩ : ByteArray)) ++ t167)).bind fun t168 => (if ((((strOfNums y163) ++ t166) ++ (⟨#[0]⟩ : ByteArray)) ++ t167).size + t168.size ≤ 9223372036854775807 then (some (((((strOfNums y163) ++ t166) ++ (⟨#[0]⟩ : ByteArray)) ++ t167) ++ t168, 0)) else (none))) else (none))) else (none)) else (none)))))) = some (r1, r2) := by rw [if_pos rfl] at H; exact H
   clear H
   have H := H1
   clear H1
   replace H := Option.bind_eq_some_iff.mp H
   obtain ⟨t161, A40, H⟩ := H
   replace H : ((subchannel_number.f a0_2).bind fun t162 => ((some (([(Go.bits .or .i64 (wrap64 (a0_0 * 16)) 1) % 256, t161, t162] : List Int) : List Int)).bind fun y163 => ((subchannel_Encode_1.f a0_3 a0_4 a0_5).bind fun t166 => (if (strOfNums y163).size + t166.size ≤ 9223372036854775807 then (if ((strOfNums y163) ++ t166).size + 1 ≤ 9223372036854775807 then ((subchannel_Encode_1.f a0_6 a0_7 a0_8).bind fun t167 => (if (((strOfNums y163) ++ t166) ++ (⟨#[0]⟩ : ByteArray)).size + t167.size ≤ 9223372036854775807 then ((subchannel_check.f ((((strOfNums y163) ++ t166) ++ (⟨#[0]⟩ : ByteArray)) ++ t167)).bind fun t168 => (if ((((strOfNums y163) ++ t166) ++ (⟨#[0]⟩ : ByteArray)) ++ t167).size + t168.size ≤ 9223372036854775807 then (some (((((strOfNums y163) ++ t166) ++ (⟨#[0]⟩ : ByteArray)) ++ t167) ++ t168, 0)) else (none))) else (none))) else (none)) else (none))))) = some (r1, r2) := H
   have A4 := Aside0.mk A40
   clear A40
   replace H := Option.bind_eq_some_iff.mp H
   obtain ⟨t162, A50, H⟩ := H
   replace H : ((some (([(Go.bits .or .i64 (wrap64 (a0_0 * 16)) 1) % 256, t161, t162] : List Int) : List Int)).bind fun y163 => ((subchannel_Encode_1.f a0_3 a0_4 a0_5).bind fun t166 => (if (strOfNums y163).size + t166.size ≤ 9223372036854775807 then (if ((strOfNums y163) ++ t166).size + 1 ≤ 9223372036854775807 then ((subchannel_Encode_1.f a0_6 a0_7 a0_8).bind fun t167 => (if (((strOfNums y163) ++ t166) ++ (⟨#[0]⟩ : ByteArray)).size + t167.size ≤ 9223372036854775807 then ((subchannel_check.f ((((strOfNums y163) ++ t166) ++ (⟨#[0]⟩ : ByteArray)) ++ t167)).bind fun t168 => (if ((((strOfNums y163) ++ t166) ++ (⟨#[0]⟩ : ByteArray)) ++ t167).size + t168.size ≤ 9223372036854775807 then (some (((((strOfNums y163) ++ t166) ++ (⟨#[0]⟩ : ByteArray)) ++ t167) ++ t168, 0)) else (none))) else (none))) else (none)) else (none)))) = some (r1, r2) := H
   have A5 := Aside0.mk A50
   clear A50
   obtain ⟨y163, hy163⟩ : ∃ y_ : List Int, y_ = (([(Go.bits .or .i64 (wrap64 (a0_0 * 16)) 1) % 256, t161, t162] : List Int)) := ⟨_, rfl⟩
   replace H : ((subchannel_Encode_1.f a0_3 a0_4 a0_5).bind fun t166 => (if (strOfNums y163).size + t166.size ≤ 9223372036854775807 then (if ((strOfNums y163) ++ t166).size + 1 ≤ 9223372036854775807 then ((subchannel_Encode_1.f a0_6 a0_7 a0_8).bind fun t167 => (if (((strOfNums y163) ++ t166) ++ (⟨#[0]⟩ : ByteArray)).size + t167.size ≤ 9223372036854775807 then ((subchannel_check.f ((((strOfNums y163) ++ t166) ++ (⟨#[0]⟩ : ByteArray)) ++ t167)).bind fun t168 => (if ((((strOfNums y163) ++ t166) ++ (⟨#[0]⟩ : ByteArray)) ++ t167).size + t168.size ≤ 9223372036854775807 then (some (((((strOfNums y163) ++ t166) ++ (⟨#[0]⟩ : ByteArray)) ++ t167) ++ t168, 0)) else (none))) else (none))) else (none)) else (none))) = some (r1, r2) := by first | (rw [hy163]; with_reducible exact H) | (have H2_ := (Option.bind_some _ _).symm.trans H; rw [hy163]; with_reducible exact H2_) | (have H2_ := (Option.bind_some _ _).symm.trans H; with_reducible exact H2_) | with_reducible exact H | (rw [hy163]; exact H) | exact H
   have Ny163 := Aside0.mk hy163
   clear hy163
   replace H := Option.bind_eq_some_iff.mp H
   obtain ⟨t166, A60, H⟩ := H
   replace H : (if (strOfNums y163).size + t166.size ≤ 9223372036854775807 then (if ((strOfNums y163) ++ t166).size + 1 ≤ 9223372036854775807 then ((subchannel_Encode_1.f a0_6 a0_7 a0_8).bind fun t167 => (if (((strOfNums y163) ++ t166) ++ (⟨#[0]⟩ : ByteArray)).size + t167.size ≤ 9223372036854775807 then ((subchannel_check.f ((((strOfNums y163) ++ t166) ++ (⟨#[0]⟩ : ByteArray)) ++ t167)).bind fun t168 => (if ((((strOfNums y163) ++ t166) ++ (⟨#[0]⟩ : ByteArray)) ++ t167).size + t168.size ≤ 9223372036854775807 then (some (((((strOfNums y163) ++ t166) ++ (⟨#[0]⟩ : ByteArray)) ++ t167) ++ t168, 0)) else (none))) else (none))) else (none)) else (none)) = some (r1, r2) := H
   have A6 := Aside0.mk A60
   clear A60
   by_cases c7 : (strOfNums y163).size + t166.size ≤ 9223372036854775807
   · rw [if_pos c7] at H
     have c7b0 := eq_true c7
     have c7b1 : decide ((strOfNums y163).size + t166.size ≤ 9223372036854775807) = true := decide_eq_true c7
     try have c7b2 : (9223372036854775807 < (strOfNums y163).size + t166.size) = False := eq_false (Nat.not_lt.2 c7)
     by_cases c8 : ((strOfNums y163) ++ t166).size + 1 ≤ 9223372036854775807
     · rw [if_pos c8] at H
       have c8b0 := eq_true c8
       have c8b1 : decide (((strOfNums y163) ++ t166).size + 1 ≤ 9223372036854775807) = true := decide_eq_true c8
       try have c8b2 : (9223372036854775807 < ((strOfNums y163) ++ t166).size + 1) = False := eq_false (Nat.not_lt.2 c8)
       try have c8b3 : (9223372036854775807 < (strOfNums y163).size + t166.size + 1) = False := eq_false (Nat.not_lt.2 (by have h_ := c8; simp only [ByteArray.size_append] at h_; exact h_))
       replace H := Option.bind_eq_some_iff.mp H
       obtain ⟨t167, A90, H⟩ := H
       replace H : (if (((strOfNums y163) ++ t166) ++ (⟨#[0]⟩ : ByteArray)).size + t167.size ≤ 9223372036854775807 then ((subchannel_check.f ((((strOfNums y163) ++ t166) ++ (⟨#[0]⟩ : ByteArray)) ++ t167)).bind fun t168 => (if ((((strOfNums y163) ++ t166) ++ (⟨#[0]⟩ : ByteArray)) ++ t167).size + t168.size ≤ 9223372036854775807 then (some (((((strOfNums y163) ++ t166) ++ (⟨#[0]⟩ : ByteArray)) ++ t167) ++ t168, 0)) else (none))) else (none)) = some (r1, r2) := H
       have A9 := Aside0.mk A90
       clear A90
       by_cases c10 : (((strOfNums y163) ++ t166) ++ (⟨#[0]⟩ : ByteArray)).size + t167.size ≤ 9223372036854775807
       · rw [if_pos c10] at H
         have c10b0 := eq_true c10
         have c10b1 : decide ((((strOfNums y163) ++ t166) ++ (⟨#[0]⟩ : ByteArray)).size + t167.size ≤ 9223372036854775807) = true := decide_eq_true c10
         try have c10b2 : (9223372036854775807 < (((strOfNums y163) ++ t166) ++ (⟨#[0]⟩ : ByteArray)).size + t167.size) = False := eq_false (Nat.not_lt.2 c10)
         try have c10b3 : (9223372036854775807 < (strOfNums y163).size + t166.size + 1 + t167.size) = False := eq_false (Nat.not_lt.2 (by have h_ := c10; simp only [ByteArray.size_append] at h_; exact h_))
         replace H := Option.bind_eq_some_iff.mp H
         obtain ⟨t168, A110, H⟩ := H
         replace H : (if ((((strOfNums y163) ++ t166) ++ (⟨#[0]⟩ : ByteArray)) ++ t167).size + t168.size ≤ 9223372036854775807 then (some (((((strOfNums y163) ++ t166) ++ (⟨#[0]⟩ : ByteArray)) ++ t167) ++ t168, 0)) else (none)) = some (r1, r2) := H
         have A11 := Aside0.mk A110
         clear A110
         by_cases c12 : ((((strOfNums y163) ++ t166) ++ (⟨#[0]⟩ : ByteArray)) ++ t167).size + t168.size ≤ 9223372036854775807
         · rw [if_pos c12] at H
           have c12b0 := eq_true c12
           have c12b1 : decide (((((strOfNums y163) ++ t166) ++ (⟨#[0]⟩ : ByteArray)) ++ t167).size + t168.size ≤ 9223372036854775807) = true := decide_eq_true c12
           try have c12b2 : (9223372036854775807 < ((((strOfNums y163) ++ t166) ++ (⟨#[0]⟩ : ByteArray)) ++ t167).size + t168.size) = False := eq_false (Nat.not_lt.2 c12)
           try have c12b3 : (9223372036854775807 < (strOfNums y163).size + t166.size + 1 + t167.size + t168.size) = False := eq_false (Nat.not_lt.2 (by have h_ := c12; simp only [ByteArray.size_append] at h_; exact h_))
           simp only [Option.some.injEq, Prod.mk.injEq] at H
           obtain ⟨rfl, rfl⟩ := H
           go_enter Try.func18, Try.ntmps18
           try go_wp2_with (first | ((with_reducible refine gate_dst (N := 1) rfl ?_); refine box_event ?hg (N := 1) ?hd (cs := #[.int .i64 a0_0, .int .i64 a0_1, .int .i64 a0_2, .int .i64 a0_3, .int .i64 a0_4, .int .i64 a0_5, .int .i64 a0_6, .int .i64 a0_7, .int .i64 a0_8]) (t := 27) ?hr ?_; (case hd => rfl); (case hg => rfl); (case hr => first | (go_simp; done) | (go_simp; rfl)); intro gb159 hg w13 hbox hb; have n0_ := Aside0.mk (below_step (by repeat (first | (with_reducible first | exact HB.out | apply below_alloc | apply pw_below_drewN | apply below_drew1) | exact HB.out)) hb); have n1_ := Aside0.mk (hbox); have n2_ := Aside0.mk ((by rw [hg]; exact (below_size (by repeat (first | (with_reducible first | exact HB.out | apply below_alloc | apply pw_below_drewN | apply below_drew1) | exact HB.out))) : w.heap.size ≤ gb159)); have n3_ := Aside0.mk ((by rw [hg]; exact (below_size (by repeat (first | (with_reducible first | exact HB.out | apply below_alloc | apply pw_below_drewN | apply below_drew1) | exact HB.out))) : w.heap.size ≤ gb159)); clear HB; have HB := n0_; have BK159 := n1_; have GW159 := n2_; have GE159 := n3_; clear n0_ n1_ n2_ n3_; clear hb hbox hg; have hcz14_0 : w13.cell? ⟨gb159, 0, none⟩ = some (.int .i64 a0_0) := (blk_cell BK159.out 0).trans rfl; have hcz14_1 : w13.cell? ⟨gb159, 1, none⟩ = some (.int .i64 a0_1) := (blk_cell BK159.out 1).trans rfl; have hcz14_2 : w13.cell? ⟨gb159, 2, none⟩ = some (.int .i64 a0_2) := (blk_cell BK159.out 2).trans rfl; have hcz14_3 : w13.cell? ⟨gb159, 3, none⟩ = some (.int .i64 a0_3) := (blk_cell BK159.out 3).trans rfl; have hcz14_4 : w13.cell? ⟨gb159, 4, none⟩ = some (.int .i64 a0_4) := (blk_cell BK159.out 4).trans rfl; have hcz14_5 : w13.cell? ⟨gb159, 5, none⟩ = some (.int .i64 a0_5) := (blk_cell BK159.out 5).trans rfl; have hcz14_6 : w13.cell? ⟨gb159, 6, none⟩ = some (.int .i64 a0_6) := (blk_cell BK159.out 6).trans rfl; have hcz14_7 : w13.cell? ⟨gb159, 7, none⟩ = some (.int .i64 a0_7) := (blk_cell BK159.out 7).trans rfl; have hcz14_8 : w13.cell? ⟨gb159, 8, none⟩ = some (.int .i64 a0_8) := (blk_cell BK159.out 8).trans rfl; have hfz14_0 := blk_frozen BK159.out 0; have hfz14_1 := blk_frozen BK159.out 1; have hfz14_2 := blk_frozen BK159.out 2; have hfz14_3 := blk_frozen BK159.out 3; have hfz14_4 := blk_frozen BK159.out 4; have hfz14_5 := blk_frozen BK159.out 5; have hfz14_6 := blk_frozen BK159.out 6; have hfz14_7 := blk_frozen BK159.out 7; have hfz14_8 := blk_frozen BK159.out 8) | ((with_reducible refine gate_callee (f := 39) rfl ?_); refine goesL_ (some 7) rfl rfl Try.func39 (by kernel_rfl) rfl #[.agg #[.int .i64 a0_0, .int .i64 a0_1, .int .i64 a0_2, .int .i64 a0_3, .int .i64 a0_4, .int .i64 a0_5, .int .i64 a0_6, .int .i64 a0_7, .int .i64 a0_8]] rfl (by (try simp only [List.map_toArray, List.map_cons, List.map_nil]); first | done | rfl | (simp only [List.length_drop, List.length_take]; rfl)) ?_; (with_reducible refine (subchannel_valid.calls a0_0 a0_1 a0_2 a0_3 a0_4 a0_5 a0_6 a0_7 a0_8 true _ A2.out).mono ?_); rintro e w15 ⟨rfl, hb⟩; refine ⟨_, rfl, ?_⟩; have n0_ := Aside0.mk (blk_below (g := gb159) (o := .cells #[.int .i64 a0_0, .int .i64 a0_1, .int .i64 a0_2, .int .i64 a0_3, .int .i64 a0_4, .int .i64 a0_5, .int .i64 a0_6, .int .i64 a0_7, .int .i64 a0_8] 27 (0, 0)) (by (with_reducible repeat (first | refine blk_drewN ?_ _ | refine blk_drew ?_ | refine blk_alloc ?_ _)); exact BK159.out) hb); have n1_ := Aside0.mk (below_step (by repeat (first | (with_reducible first | exact HB.out | apply below_alloc | apply pw_below_drewN | apply below_drew1 | refine below_set ?_ GE159.out) | exact HB.out)) hb); clear BK159; clear HB; have BK159 := n0_; have HB := n1_; clear n0_ n1_; (try clear hb); (try clear hb2); (try clear hk); (try clear hi)))
           have n0_ := Aside0.mk (blk_drew BK159.out)
           have n1_ := Aside0.mk (below_drew1 HB.out)
           clear BK159
           clear HB
           have BK159 := n0_
           have HB := n1_
           clear n0_ n1_
           refine start_ (n := 25) (S := fun w' => w'.cell? ⟨gb159, 0, none⟩ = some (.int .i64 a0_0) ∧ w'.cell? ⟨gb159, 1, none⟩ = some (.int .i64 a0_1) ∧ w'.cell? ⟨gb159, 2, none⟩ = some (.int .i64 a0_2) ∧ w'.cell? ⟨gb159, 3, none⟩ = some (.int .i64 a0_3) ∧ w'.cell? ⟨gb159, 4, none⟩ = some (.int .i64 a0_4) ∧ w'.cell? ⟨gb159, 5, none⟩ = some (.int .i64 a0_5) ∧ w'.cell? ⟨gb159, 6, none⟩ = some (.int .i64 a0_6) ∧ w'.cell? ⟨gb159, 7, none⟩ = some (.int .i64 a0_7) ∧ w'.cell? ⟨gb159, 8, none⟩ = some (.int .i64 a0_8)) (ds := []) #[false, false, false, false, false, false, false, false, false, false, false, false, false, false, false, false, false, false, false, false, false, false, false, false, false] (by kernel_rfl) rfl rfl ⟨(blk_cell BK159.out 0).trans rfl, (blk_cell BK159.out 1).trans rfl, (blk_cell BK159.out 2).trans rfl, (blk_cell BK159.out 3).trans rfl, (blk_cell BK159.out 4).trans rfl, (blk_cell BK159.out 5).trans rfl, (blk_cell BK159.out 6).trans rfl, (blk_cell BK159.out 7).trans rfl, (blk_cell BK159.out 8).trans rfl⟩ (fun hHeld => ?_); refine with_tabW subchannel_Encode.tab4 subchannel_Encode.bits4 (fun HT_ HW_ => ?_)
           generalize w15.drew = w16 at BK159 HB hHeld ⊢
           refine pure_ (i := 0) (N := some 9) (v := ?_) (a' := ?_) (mS 25 1) rfl rfl (any_of HT_.out (by kernel_rfl)) (fun _ _ _ h => h) (Or.inl ⟨by rfl, ?_⟩) ?_ ?_
           rotate_left
           · intro w'
             go_simp
             with_reducible rfl
           rotate_left
           · simp only [Act.put, List.setIfInBounds_toArray, List.set_cons_zero, List.set_cons_succ, i64_w, i32_w]
             rfl
           refine pure_ (i := 5) (N := some 14) (v := ?_) (a' := ?_) (mS 25 33) rfl rfl (any_of HT_.out (by kernel_rfl)) (fun _ _ _ h => h) (Or.inl ⟨by rfl, ?_⟩) ?_ ?_
           rotate_left
           · intro w'
             go_simp
             with_reducible rfl
           rotate_left
           · simp only [Act.put, List.setIfInBounds_toArray, List.set_cons_zero, List.set_cons_succ, i64_w, i32_w]
             rfl
           refine pure_ (i := 8) (N := some 17) (v := ?_) (a' := ?_) (mS 25 289) rfl rfl (any_of HT_.out (by kernel_rfl)) (fun _ _ _ h => h) (Or.inl ⟨by rfl, ?_⟩) ?_ ?_
           rotate_left
           · intro w'
             go_simp
             with_reducible rfl
           rotate_left
           · simp only [Act.put, List.setIfInBounds_toArray, List.set_cons_zero, List.set_cons_succ, i64_w, i32_w]
             rfl
           refine pure_ (i := 13) (N := some 22) (v := ?_) (a' := ?_) (mS 25 8481) rfl rfl (any_of HT_.out (by kernel_rfl)) (fun _ _ _ h => h) (Or.inl ⟨by rfl, ?_⟩) ?_ ?_
           rotate_left
           · intro w'
             go_simp
             with_reducible rfl
           rotate_left
           · simp only [Act.put, List.setIfInBounds_toArray, List.set_cons_zero, List.set_cons_succ, i64_w, i32_w]
             rfl
           refine pure_ (i := 14) (N := some 23) (v := ?_) (a' := ?_) (mS 25 24865) rfl rfl (any_of HT_.out (by kernel_rfl)) (fun _ _ _ h => h) (Or.inl ⟨by rfl, ?_⟩) ?_ ?_
           rotate_left
           · intro w'
             go_simp
             with_reducible rfl
           rotate_left
           · simp only [Act.put, List.setIfInBounds_toArray, List.set_cons_zero, List.set_cons_succ, i64_w, i32_w]
             rfl
           refine pure_ (i := 19) (N := some 28) (v := ?_) (a' := ?_) (mS 25 549153) rfl rfl (any_of HT_.out (by kernel_rfl)) (fun _ _ _ h => h) (Or.inl ⟨by rfl, ?_⟩) ?_ ?_
           rotate_left
           · intro w'
             go_simp
             with_reducible rfl
           rotate_left
           · simp only [Act.put, List.setIfInBounds_toArray, List.set_cons_zero, List.set_cons_succ, i64_w, i32_w]
             rfl
           refine pure_ (i := 20) (N := some 29) (v := ?_) (a' := ?_) (mS 25 1597729) rfl rfl (any_of HT_.out (by kernel_rfl)) (fun _ _ _ h => h) (Or.inl ⟨by rfl, ?_⟩) ?_ ?_
           rotate_left
           · intro w'
             go_simp
             with_reducible rfl
           rotate_left
           · simp only [Act.put, List.setIfInBounds_toArray, List.set_cons_zero, List.set_cons_succ, i64_w, i32_w]
             rfl
           refine take_ (i := 1) (N := some 10) (v := ?_) (a' := ?_) (mS 25 1597731) rfl rfl (take_ofW HT_.out HW_.out (by kernel_rfl)) (fun _ _ _ h => h) (Or.inl ⟨by rfl, ?_⟩) hHeld ?_ ?_
           rotate_left
           · rintro w' ⟨s0, s1, s2, s3, s4, s5, s6, s7, s8⟩
             go_simp
             with_reducible rfl
           rotate_left
           · simp only [Act.put, List.setIfInBounds_toArray, List.set_cons_zero, List.set_cons_succ, i64_w, i32_w]
             rfl
           refine pure_ (i := 2) (N := some 11) (v := ?_) (a' := ?_) (mS 25 1597735) rfl rfl (any_of HT_.out (by kernel_rfl)) (fun _ _ _ h => h) (Or.inl ⟨by rfl, ?_⟩) ?_ ?_
           rotate_left
           · intro w'
             go_simp
             with_reducible rfl
           rotate_left
           · simp only [Act.put, List.setIfInBounds_toArray, List.set_cons_zero, List.set_cons_succ, i64_w, i32_w]
             rfl
           refine pure_ (i := 3) (N := some 12) (v := ?_) (a' := ?_) (mS 25 1597743) rfl rfl (any_of HT_.out (by kernel_rfl)) (fun _ _ _ h => h) (Or.inl ⟨by rfl, ?_⟩) ?_ ?_
           rotate_left
           · intro w'
             go_simp
             with_reducible rfl
           rotate_left
           · simp only [Act.put, List.setIfInBounds_toArray, List.set_cons_zero, List.set_cons_succ, i64_w, i32_w]
             rfl
           refine pure_ (i := 4) (N := some 13) (v := ?_) (a' := ?_) (mS 25 1597759) rfl rfl (any_of HT_.out (by kernel_rfl)) (fun _ _ _ h => h) (Or.inl ⟨by rfl, ?_⟩) ?_ ?_
           rotate_left
           · intro w'
             go_simp
             with_reducible rfl
           rotate_left
           · simp only [Act.put, List.setIfInBounds_toArray, List.set_cons_zero, List.set_cons_succ, i64_w, i32_w]
             rfl
           refine take_ (i := 6) (N := some 15) (v := ?_) (a' := ?_) (mS 25 1597823) rfl rfl (take_ofW HT_.out HW_.out (by kernel_rfl)) (fun _ _ _ h => h) (Or.inl ⟨by rfl, ?_⟩) hHeld ?_ ?_
           rotate_left
           · rintro w' ⟨s0, s1, s2, s3, s4, s5, s6, s7, s8⟩
             go_simp
             with_reducible rfl
           rotate_left
           · simp only [Act.put, List.setIfInBounds_toArray, List.set_cons_zero, List.set_cons_succ, i64_w, i32_w]
             rfl
           refine take_ (i := 9) (N := some 18) (v := ?_) (a' := ?_) (mS 25 1598335) rfl rfl (take_ofW HT_.out HW_.out (by kernel_rfl)) (fun _ _ _ h => h) (Or.inl ⟨by rfl, ?_⟩) hHeld ?_ ?_
           rotate_left
           · rintro w' ⟨s0, s1, s2, s3, s4, s5, s6, s7, s8⟩
             go_simp
             with_reducible rfl
           rotate_left
           · simp only [Act.put, List.setIfInBounds_toArray, List.set_cons_zero, List.set_cons_succ, i64_w, i32_w]
             rfl
           refine take_ (i := 15) (N := some 24) (v := ?_) (a' := ?_) (mS 25 1631103) rfl rfl (take_ofW HT_.out HW_.out (by kernel_rfl)) (fun _ _ _ h => h) (Or.inl ⟨by rfl, ?_⟩) hHeld ?_ ?_
           rotate_left
           · rintro w' ⟨s0, s1, s2, s3, s4, s5, s6, s7, s8⟩
             go_simp
             with_reducible rfl
           rotate_left
           · simp only [Act.put, List.setIfInBounds_toArray, List.set_cons_zero, List.set_cons_succ, i64_w, i32_w]
             rfl
           refine take_ (i := 21) (N := some 30) (v := ?_) (a' := ?_) (mS 25 3728255) rfl rfl (take_ofW HT_.out HW_.out (by kernel_rfl)) (fun _ _ _ h => h) (Or.inl ⟨by rfl, ?_⟩) hHeld ?_ ?_
           rotate_left
           · rintro w' ⟨s0, s1, s2, s3, s4, s5, s6, s7, s8⟩
             go_simp
             with_reducible rfl
           rotate_left
           · simp only [Act.put, List.setIfInBounds_toArray, List.set_cons_zero, List.set_cons_succ, i64_w, i32_w]
             rfl
           refine one_ (i := 7) (N := some 16) (mS 25 3728383) rfl rfl (one_of HT_.out (by kernel_rfl)) (by decide) (fun K hK => ?_)
           refine goes_ Try.func42 (by kernel_rfl) rfl #[.int .i64 a0_1] (by rfl) rfl rfl (by (try simp only [List.map_toArray, List.map_cons, List.map_nil]); first | done | rfl | (simp only [List.length_drop, List.length_take]; rfl)) ?_
           with_reducible refine (subchannel_number.calls a0_1 t161 _ A4.out).mono ?_
           rintro e w17 ⟨rfl, hb⟩
           refine ⟨_, rfl, ?_⟩
           have n0_ := Aside0.mk (blk_below (g := gb159) (o := .cells #[.int .i64 a0_0, .int .i64 a0_1, .int .i64 a0_2, .int .i64 a0_3, .int .i64 a0_4, .int .i64 a0_5, .int .i64 a0_6, .int .i64 a0_7, .int .i64 a0_8] 27 (0, 0)) (by (with_reducible repeat (first | refine blk_drewN ?_ _ | refine blk_drew ?_ | refine blk_alloc ?_ _)); exact BK159.out) hb)
           have n1_ := Aside0.mk (below_step (by repeat (first | (with_reducible first | exact HB.out | apply below_alloc | apply pw_below_drewN | apply below_drew1 | refine below_set ?_ GE159.out) | exact HB.out)) hb)
           clear BK159
           clear HB
           have BK159 := n0_
           have HB := n1_
           clear n0_ n1_
           (try clear hb)
           (try clear hb2)
           (try clear hk)
           (try clear hi)
           refine hK.out _ _ ⟨(blk_cell BK159.out 0).trans rfl, (blk_cell BK159.out 1).trans rfl, (blk_cell BK159.out 2).trans rfl, (blk_cell BK159.out 3).trans rfl, (blk_cell BK159.out 4).trans rfl, (blk_cell BK159.out 5).trans rfl, (blk_cell BK159.out 6).trans rfl, (blk_cell BK159.out 7).trans rfl, (blk_cell BK159.out 8).trans rfl⟩ (fun hHeld => ?_)
           clear hK K
           refine norm_ (a' := ?_) ?_ ?_
           rotate_left
           · show Act.put _ (some 16) _ = _
             simp only [Act.put, List.setIfInBounds_toArray, List.set_cons_zero, List.set_cons_succ, i64_w, i32_w]
             rfl
           refine one_ (i := 10) (N := some 19) (mS 25 3729407) rfl rfl (one_of HT_.out (by kernel_rfl)) (by decide) (fun K hK => ?_)
           refine goes_ Try.func42 (by kernel_rfl) rfl #[.int .i64 a0_2] (by rfl) rfl rfl (by (try simp only [List.map_toArray, List.map_cons, List.map_nil]); first | done | rfl | (simp only [List.length_drop, List.length_take]; rfl)) ?_
           with_reducible refine (subchannel_number.calls a0_2 t162 _ A5.out).mono ?_
           rintro e w18 ⟨rfl, hb⟩
           refine ⟨_, rfl, ?_⟩
           have n0_ := Aside0.mk (blk_below (g := gb159) (o := .cells #[.int .i64 a0_0, .int .i64 a0_1, .int .i64 a0_2, .int .i64 a0_3, .int .i64 a0_4, .int .i64 a0_5, .int .i64 a0_6, .int .i64 a0_7, .int .i64 a0_8] 27 (0, 0)) (by (with_reducible repeat (first | refine blk_drewN ?_ _ | refine blk_drew ?_ | refine blk_alloc ?_ _)); exact BK159.out) hb)
           have n1_ := Aside0.mk (below_step (by repeat (first | (with_reducible first | exact HB.out | apply below_alloc | apply pw_below_drewN | apply below_drew1 | refine below_set ?_ GE159.out) | exact HB.out)) hb)
           clear BK159
           clear HB
           have BK159 := n0_
           have HB := n1_
           clear n0_ n1_
           (try clear hb)
           (try clear hb2)
           (try clear hk)
           (try clear hi)
           refine hK.out _ _ ⟨(blk_cell BK159.out 0).trans rfl, (blk_cell BK159.out 1).trans rfl, (blk_cell BK159.out 2).trans rfl, (blk_cell BK159.out 3).trans rfl, (blk_cell BK159.out 4).trans rfl, (blk_cell BK159.out 5).trans rfl, (blk_cell BK159.out 6).trans rfl, (blk_cell BK159.out 7).trans rfl, (blk_cell BK159.out 8).trans rfl⟩ (fun hHeld => ?_)
           clear hK K
           refine norm_ (a' := ?_) ?_ ?_
           rotate_left
           · show Act.put _ (some 19) _ = _
             simp only [Act.put, List.setIfInBounds_toArray, List.set_cons_zero, List.set_cons_succ, i64_w, i32_w]
             rfl
           refine join_ (σ := Value) 2 #[true, true, true, true, true, true, true, true, true, true, true, true, true, true, true, true, true, true, true, true, true, true, true, false, false] (fun s_ => [(20, s_), (21, .string (strOfNums y163)), (25, .string t166), (31, .string t167), (26, .string ((strOfNums y163) ++ t166)), (27, .string (((strOfNums y163) ++ t166) ++ (⟨#[0]⟩ : ByteArray)))]) (fun s_ w' => (w'.cell? ⟨gb159, 0, none⟩ = some (.int .i64 a0_0) ∧ w'.cell? ⟨gb159, 1, none⟩ = some (.int .i64 a0_1) ∧ w'.cell? ⟨gb159, 2, none⟩ = some (.int .i64 a0_2) ∧ w'.cell? ⟨gb159, 3, none⟩ = some (.int .i64 a0_3) ∧ w'.cell? ⟨gb159, 4, none⟩ = some (.int .i64 a0_4) ∧ w'.cell? ⟨gb159, 5, none⟩ = some (.int .i64 a0_5) ∧ w'.cell? ⟨gb159, 6, none⟩ = some (.int .i64 a0_6) ∧ w'.cell? ⟨gb159, 7, none⟩ = some (.int .i64 a0_7) ∧ w'.cell? ⟨gb159, 8, none⟩ = some (.int .i64 a0_8)) ∧ (Kd.R (Kd.int .u8) 5 w' w.heap.size (fun _ => True) s_ y163) ∧ (w'.heap[gb159]? = some (.cells #[.int .i64 a0_0, .int .i64 a0_1, .int .i64 a0_2, .int .i64 a0_3, .int .i64 a0_4, .int .i64 a0_5, .int .i64 a0_6, .int .i64 a0_7, .int .i64 a0_8] 27 (0, 0))) ∧ (Below w.heap.size w w')) ?_ ?_
           rotate_left
           · intro hJ11_12_16_22
             refine join_ (σ := Value) 3 #[true, true, true, true, true, true, true, true, true, true, true, true, true, true, true, true, true, true, true, true, true, true, false, false, false] (fun s_ => [(20, s_), (21, .string (strOfNums y163)), (25, .string t166), (26, .string ((strOfNums y163) ++ t166)), (27, .string (((strOfNums y163) ++ t166) ++ (⟨#[0]⟩ : ByteArray)))]) (fun s_ w' => (w'.cell? ⟨gb159, 0, none⟩ = some (.int .i64 a0_0) ∧ w'.cell? ⟨gb159, 1, none⟩ = some (.int .i64 a0_1) ∧ w'.cell? ⟨gb159, 2, none⟩ = some (.int .i64 a0_2) ∧ w'.cell? ⟨gb159, 3, none⟩ = some (.int .i64 a0_3) ∧ w'.cell? ⟨gb159, 4, none⟩ = some (.int .i64 a0_4) ∧ w'.cell? ⟨gb159, 5, none⟩ = some (.int .i64 a0_5) ∧ w'.cell? ⟨gb159, 6, none⟩ = some (.int .i64 a0_6) ∧ w'.cell? ⟨gb159, 7, none⟩ = some (.int .i64 a0_7) ∧ w'.cell? ⟨gb159, 8, none⟩ = some (.int .i64 a0_8)) ∧ (Kd.R (Kd.int .u8) 5 w' w.heap.size (fun _ => True) s_ y163) ∧ (w'.heap[gb159]? = some (.cells #[.int .i64 a0_0, .int .i64 a0_1, .int .i64 a0_2, .int .i64 a0_3, .int .i64 a0_4, .int .i64 a0_5, .int .i64 a0_6, .int .i64 a0_7, .int .i64 a0_8] 27 (0, 0))) ∧ (Below w.heap.size w w')) ?_ ?_
             rotate_left
             · intro hJ11_12_16
               refine join_ (σ := Value) 5 #[true, true, true, true, true, true, true, true, true, true, true, true, false, true, true, true, true, false, false, true, true, true, true, false, false] (fun s_ => [(20, s_), (25, .string t166), (31, .string t167)]) (fun s_ w' => (w'.cell? ⟨gb159, 0, none⟩ = some (.int .i64 a0_0) ∧ w'.cell? ⟨gb159, 1, none⟩ = some (.int .i64 a0_1) ∧ w'.cell? ⟨gb159, 2, none⟩ = some (.int .i64 a0_2) ∧ w'.cell? ⟨gb159, 3, none⟩ = some (.int .i64 a0_3) ∧ w'.cell? ⟨gb159, 4, none⟩ = some (.int .i64 a0_4) ∧ w'.cell? ⟨gb159, 5, none⟩ = some (.int .i64 a0_5) ∧ w'.cell? ⟨gb159, 6, none⟩ = some (.int .i64 a0_6) ∧ w'.cell? ⟨gb159, 7, none⟩ = some (.int .i64 a0_7) ∧ w'.cell? ⟨gb159, 8, none⟩ = some (.int .i64 a0_8)) ∧ (Kd.R (Kd.int .u8) 5 w' w.heap.size (fun _ => True) s_ y163) ∧ (w'.heap[gb159]? = some (.cells #[.int .i64 a0_0, .int .i64 a0_1, .int .i64 a0_2, .int .i64 a0_3, .int .i64 a0_4, .int .i64 a0_5, .int .i64 a0_6, .int .i64 a0_7, .int .i64 a0_8] 27 (0, 0))) ∧ (Below w.heap.size w w')) ?_ ?_
               rotate_left
               · intro hJ11_16_22
                 refine join_ (σ := Value) 6 #[true, true, true, true, true, true, true, true, true, true, true, true, true, true, true, true, false, false, false, true, true, true, false, false, false] (fun s_ => [(20, s_), (21, .string (strOfNums y163))]) (fun s_ w' => (w'.cell? ⟨gb159, 0, none⟩ = some (.int .i64 a0_0) ∧ w'.cell? ⟨gb159, 1, none⟩ = some (.int .i64 a0_1) ∧ w'.cell? ⟨gb159, 2, none⟩ = some (.int .i64 a0_2) ∧ w'.cell? ⟨gb159, 3, none⟩ = some (.int .i64 a0_3) ∧ w'.cell? ⟨gb159, 4, none⟩ = some (.int .i64 a0_4) ∧ w'.cell? ⟨gb159, 5, none⟩ = some (.int .i64 a0_5) ∧ w'.cell? ⟨gb159, 6, none⟩ = some (.int .i64 a0_6) ∧ w'.cell? ⟨gb159, 7, none⟩ = some (.int .i64 a0_7) ∧ w'.cell? ⟨gb159, 8, none⟩ = some (.int .i64 a0_8)) ∧ (Kd.R (Kd.int .u8) 5 w' w.heap.size (fun _ => True) s_ y163) ∧ (w'.heap[gb159]? = some (.cells #[.int .i64 a0_0, .int .i64 a0_1, .int .i64 a0_2, .int .i64 a0_3, .int .i64 a0_4, .int .i64 a0_5, .int .i64 a0_6, .int .i64 a0_7, .int .i64 a0_8] 27 (0, 0))) ∧ (Below w.heap.size w w')) ?_ ?_
                 rotate_left
                 · intro hJ11_12
                   refine join_ (σ := Value) 6 #[true, true, true, true, true, true, true, true, true, true, true, true, false, true, true, true, true, false, false, true, true, true, false, false, false] (fun s_ => [(20, s_), (25, .string t166)]) (fun s_ w' => (w'.cell? ⟨gb159, 0, none⟩ = some (.int .i64 a0_0) ∧ w'.cell? ⟨gb159, 1, none⟩ = some (.int .i64 a0_1) ∧ w'.cell? ⟨gb159, 2, none⟩ = some (.int .i64 a0_2) ∧ w'.cell? ⟨gb159, 3, none⟩ = some (.int .i64 a0_3) ∧ w'.cell? ⟨gb159, 4, none⟩ = some (.int .i64 a0_4) ∧ w'.cell? ⟨gb159, 5, none⟩ = some (.int .i64 a0_5) ∧ w'.cell? ⟨gb159, 6, none⟩ = some (.int .i64 a0_6) ∧ w'.cell? ⟨gb159, 7, none⟩ = some (.int .i64 a0_7) ∧ w'.cell? ⟨gb159, 8, none⟩ = some (.int .i64 a0_8)) ∧ (Kd.R (Kd.int .u8) 5 w' w.heap.size (fun _ => True) s_ y163) ∧ (w'.heap[gb159]? = some (.cells #[.int .i64 a0_0, .int .i64 a0_1, .int .i64 a0_2, .int .i64 a0_3, .int .i64 a0_4, .int .i64 a0_5, .int .i64 a0_6, .int .i64 a0_7, .int .i64 a0_8] 27 (0, 0))) ∧ (Below w.heap.size w w')) ?_ ?_
                   rotate_left
                   · intro hJ11_16
                     refine join_ (σ := Unit) 6 #[true, true, true, true, true, true, true, true, true, true, true, false, false, true, true, true, true, false, false, true, true, true, true, false, false] (fun s_ => [(25, .string t166), (31, .string t167)]) (fun s_ w' => (w'.cell? ⟨gb159, 0, none⟩ = some (.int .i64 a0_0) ∧ w'.cell? ⟨gb159, 1, none⟩ = some (.int .i64 a0_1) ∧ w'.cell? ⟨gb159, 2, none⟩ = some (.int .i64 a0_2) ∧ w'.cell? ⟨gb159, 3, none⟩ = some (.int .i64 a0_3) ∧ w'.cell? ⟨gb159, 4, none⟩ = some (.int .i64 a0_4) ∧ w'.cell? ⟨gb159, 5, none⟩ = some (.int .i64 a0_5) ∧ w'.cell? ⟨gb159, 6, none⟩ = some (.int .i64 a0_6) ∧ w'.cell? ⟨gb159, 7, none⟩ = some (.int .i64 a0_7) ∧ w'.cell? ⟨gb159, 8, none⟩ = some (.int .i64 a0_8)) ∧ (w'.heap[gb159]? = some (.cells #[.int .i64 a0_0, .int .i64 a0_1, .int .i64 a0_2, .int .i64 a0_3, .int .i64 a0_4, .int .i64 a0_5, .int .i64 a0_6, .int .i64 a0_7, .int .i64 a0_8] 27 (0, 0))) ∧ (Below w.heap.size w w')) ?_ ?_
                     rotate_left
                     · intro hJ16_22
                       refine join_ (σ := Value) 7 #[true, true, true, true, true, true, true, true, true, true, true, true, false, true, true, true, false, false, false, true, true, true, false, false, false] (fun s_ => [(20, s_)]) (fun s_ w' => (w'.cell? ⟨gb159, 0, none⟩ = some (.int .i64 a0_0) ∧ w'.cell? ⟨gb159, 1, none⟩ = some (.int .i64 a0_1) ∧ w'.cell? ⟨gb159, 2, none⟩ = some (.int .i64 a0_2) ∧ w'.cell? ⟨gb159, 3, none⟩ = some (.int .i64 a0_3) ∧ w'.cell? ⟨gb159, 4, none⟩ = some (.int .i64 a0_4) ∧ w'.cell? ⟨gb159, 5, none⟩ = some (.int .i64 a0_5) ∧ w'.cell? ⟨gb159, 6, none⟩ = some (.int .i64 a0_6) ∧ w'.cell? ⟨gb159, 7, none⟩ = some (.int .i64 a0_7) ∧ w'.cell? ⟨gb159, 8, none⟩ = some (.int .i64 a0_8)) ∧ (Kd.R (Kd.int .u8) 5 w' w.heap.size (fun _ => True) s_ y163) ∧ (w'.heap[gb159]? = some (.cells #[.int .i64 a0_0, .int .i64 a0_1, .int .i64 a0_2, .int .i64 a0_3, .int .i64 a0_4, .int .i64 a0_5, .int .i64 a0_6, .int .i64 a0_7, .int .i64 a0_8] 27 (0, 0))) ∧ (Below w.heap.size w w')) ?_ ?_
                       rotate_left
                       · intro hJ11
                         refine join_ (σ := Unit) 7 #[true, true, true, true, true, true, true, true, true, true, true, false, false, true, true, true, true, false, false, true, true, true, false, false, false] (fun s_ => [(25, .string t166)]) (fun s_ w' => (w'.cell? ⟨gb159, 0, none⟩ = some (.int .i64 a0_0) ∧ w'.cell? ⟨gb159, 1, none⟩ = some (.int .i64 a0_1) ∧ w'.cell? ⟨gb159, 2, none⟩ = some (.int .i64 a0_2) ∧ w'.cell? ⟨gb159, 3, none⟩ = some (.int .i64 a0_3) ∧ w'.cell? ⟨gb159, 4, none⟩ = some (.int .i64 a0_4) ∧ w'.cell? ⟨gb159, 5, none⟩ = some (.int .i64 a0_5) ∧ w'.cell? ⟨gb159, 6, none⟩ = some (.int .i64 a0_6) ∧ w'.cell? ⟨gb159, 7, none⟩ = some (.int .i64 a0_7) ∧ w'.cell? ⟨gb159, 8, none⟩ = some (.int .i64 a0_8)) ∧ (w'.heap[gb159]? = some (.cells #[.int .i64 a0_0, .int .i64 a0_1, .int .i64 a0_2, .int .i64 a0_3, .int .i64 a0_4, .int .i64 a0_5, .int .i64 a0_6, .int .i64 a0_7, .int .i64 a0_8] 27 (0, 0))) ∧ (Below w.heap.size w w')) ?_ ?_
                         rotate_left
                         · intro hJ16
                           refine two_ (i := 11) (j := 16) (Ni := some 20) (Nj := some 25) #[true, true, true, true, true, true, true, true, true, true, true, true, false, true, true, true, false, false, false, true, true, true, false, false, false] (mS 25 3794943) rfl rfl rfl rfl (two_of HT_.out (by kernel_rfl)) (by decide) (by decide) (fun K hK => ?_) (fun K hK => ?_)
                           · skip
                             refine Kd.R_lit_step (Kd.int .u8) _ 5 ?hg (N := 20) ?hd (xs := ([(Go.bits .or .i64 (wrap64 (a0_0 * 16)) 1) % 256, t161, t162] : List Int)) (inner := [.int .u8 ((Go.bits .or .i64 (wrap64 (a0_0 * 16)) 1) % 256), .int .u8 t161, .int .u8 t162]) (ok := fun _ => True) (okp := fun _ => True) ?hr ?hp (fun _ hk => hk) trivial (Below.refl _ _) (Nat.le_refl _) (by simp) ?_; (case hd => rfl); (case hg => rfl); (case hr => first | (go_simp; done) | (go_simp; rfl)); (case hp => exact (Reps.one (show Kd.M (Kd.int .u8) _ _ _ ((Go.bits .or .i64 (wrap64 (a0_0 * 16)) 1) % 256) [.int .u8 ((Go.bits .or .i64 (wrap64 (a0_0 * 16)) 1) % 256)] from rfl) (Reps.one (show Kd.M (Kd.int .u8) _ _ _ t161 [.int .u8 t161] from rfl) (Reps.one (show Kd.M (Kd.int .u8) _ _ _ t162 [.int .u8 t162] from rfl) (Reps.none _ _)))))
                             intro v164 w19 ho20 hb hg_ hnew_
                             clear hg_ hnew_
                             (first | rw [← Ny163.out] at ho20 | (simp only [Int.reduceToNat] at ho20; rw [← Ny163.out] at ho20))
                             have n0_ := Aside0.mk (Kd.R_lower ho20 (below_size (by repeat (first | (with_reducible first | exact HB.out | apply below_alloc | apply pw_below_drewN | apply below_drew1 | refine below_set ?_ GE159.out) | exact HB.out))))
                             have n1_ := Aside0.mk (blk_below (g := gb159) (o := .cells #[.int .i64 a0_0, .int .i64 a0_1, .int .i64 a0_2, .int .i64 a0_3, .int .i64 a0_4, .int .i64 a0_5, .int .i64 a0_6, .int .i64 a0_7, .int .i64 a0_8] 27 (0, 0)) (by (with_reducible repeat (first | refine blk_drewN ?_ _ | refine blk_drew ?_ | refine blk_alloc ?_ _)); exact BK159.out) hb)
                             have n2_ := Aside0.mk (below_step (by repeat (first | (with_reducible first | exact HB.out | apply below_alloc | apply pw_below_drewN | apply below_drew1 | refine below_set ?_ GE159.out) | exact HB.out)) hb)
                             clear BK159
                             clear HB
                             have HO165 := n0_
                             have BK159 := n1_
                             have HB := n2_
                             clear n0_ n1_ n2_
                             clear hb ho20
                             refine hK.out _ _ ⟨(blk_cell BK159.out 0).trans rfl, (blk_cell BK159.out 1).trans rfl, (blk_cell BK159.out 2).trans rfl, (blk_cell BK159.out 3).trans rfl, (blk_cell BK159.out 4).trans rfl, (blk_cell BK159.out 5).trans rfl, (blk_cell BK159.out 6).trans rfl, (blk_cell BK159.out 7).trans rfl, (blk_cell BK159.out 8).trans rfl⟩ (fun hHeld => ?_)
                             clear hK K
                             refine norm_ (a' := ?_) ?_ ?_
                             rotate_left
                             · show Act.put _ (some 20) _ = _
                               simp only [Act.put, List.setIfInBounds_toArray, List.set_cons_zero, List.set_cons_succ, i64_w, i32_w]
                               rfl
                             exact norm_ (by first | (simp only [putAll, Act.put, List.setIfInBounds_toArray, List.set_cons_zero, List.set_cons_succ]; done) | (simp only [putAll, Act.put, List.setIfInBounds_toArray, List.set_cons_zero, List.set_cons_succ]; rfl)) (hJ11 (v164) _ ⟨hHeld, (by (with_reducible repeat (first | apply Kd.R_alloc | apply Kd.R_drewN | apply Kd.R_drew)); exact HO165.out), (by (with_reducible repeat (first | refine blk_drewN ?_ _ | refine blk_drew ?_ | refine blk_alloc ?_ _)); exact BK159.out), (by repeat (first | (with_reducible first | exact HB.out | apply below_alloc | apply pw_below_drewN | apply below_drew1 | refine below_set ?_ GE159.out) | exact HB.out))⟩)
                           · skip
                             refine goesV_ Try.func40 (by kernel_rfl) rfl #[.agg #[.int .i64 a0_3, .int .i64 a0_4, .int .i64 a0_5]] (by rfl) rfl rfl rfl (by (try simp only [List.map_toArray, List.map_cons, List.map_nil]); first | done | rfl | (simp only [List.length_drop, List.length_take]; rfl)) ?_
                             with_reducible refine (subchannel_Encode_1.calls a0_3 a0_4 a0_5 t166 _ A6.out).mono ?_
                             rintro e w19 ⟨rfl, hb⟩
                             refine ⟨_, rfl, ?_⟩
                             have n0_ := Aside0.mk (blk_below (g := gb159) (o := .cells #[.int .i64 a0_0, .int .i64 a0_1, .int .i64 a0_2, .int .i64 a0_3, .int .i64 a0_4, .int .i64 a0_5, .int .i64 a0_6, .int .i64 a0_7, .int .i64 a0_8] 27 (0, 0)) (by (with_reducible repeat (first | refine blk_drewN ?_ _ | refine blk_drew ?_ | refine blk_alloc ?_ _)); exact BK159.out) hb)
                             have n1_ := Aside0.mk (below_step (by repeat (first | (with_reducible first | exact HB.out | apply below_alloc | apply pw_below_drewN | apply below_drew1 | refine below_set ?_ GE159.out) | exact HB.out)) hb)
                             clear BK159
                             clear HB
                             have BK159 := n0_
                             have HB := n1_
                             clear n0_ n1_
                             (try clear hb)
                             (try clear hb2)
                             (try clear hk)
                             (try clear hi)
                             refine hK.out _ _ ⟨(blk_cell BK159.out 0).trans rfl, (blk_cell BK159.out 1).trans rfl, (blk_cell BK159.out 2).trans rfl, (blk_cell BK159.out 3).trans rfl, (blk_cell BK159.out 4).trans rfl, (blk_cell BK159.out 5).trans rfl, (blk_cell BK159.out 6).trans rfl, (blk_cell BK159.out 7).trans rfl, (blk_cell BK159.out 8).trans rfl⟩ (fun hHeld => ?_)
                             clear hK K
                             refine norm_ (a' := ?_) ?_ ?_
                             rotate_left
                             · show Act.put _ (some 25) _ = _
                               simp only [Act.put, List.setIfInBounds_toArray, List.set_cons_zero, List.set_cons_succ, i64_w, i32_w]
                               rfl
                             exact norm_ (by first | (simp only [putAll, Act.put, List.setIfInBounds_toArray, List.set_cons_zero, List.set_cons_succ]; done) | (simp only [putAll, Act.put, List.setIfInBounds_toArray, List.set_cons_zero, List.set_cons_succ]; rfl)) (hJ16 () _ ⟨hHeld, (by (with_reducible repeat (first | refine blk_drewN ?_ _ | refine blk_drew ?_ | refine blk_alloc ?_ _)); exact BK159.out), (by repeat (first | (with_reducible first | exact HB.out | apply below_alloc | apply pw_below_drewN | apply below_drew1 | refine below_set ?_ GE159.out) | exact HB.out))⟩)
                         · skip
                           rintro _ w20 ⟨hS_, h0_, h1_⟩
                           have n0_ : Aside0 (w20.heap[gb159]? = some (.cells #[.int .i64 a0_0, .int .i64 a0_1, .int .i64 a0_2, .int .i64 a0_3, .int .i64 a0_4, .int .i64 a0_5, .int .i64 a0_6, .int .i64 a0_7, .int .i64 a0_8] 27 (0, 0))) := ⟨h0_⟩
                           have n1_ : Aside0 (Below w.heap.size w w20) := ⟨h1_⟩
                           clear BK159
                           clear HB
                           clear h0_ h1_
                           have BK159 := n0_
                           have HB := n1_
                           clear n0_ n1_
                           have hHeld : w20.cell? ⟨gb159, 0, none⟩ = some (.int .i64 a0_0) ∧ w20.cell? ⟨gb159, 1, none⟩ = some (.int .i64 a0_1) ∧ w20.cell? ⟨gb159, 2, none⟩ = some (.int .i64 a0_2) ∧ w20.cell? ⟨gb159, 3, none⟩ = some (.int .i64 a0_3) ∧ w20.cell? ⟨gb159, 4, none⟩ = some (.int .i64 a0_4) ∧ w20.cell? ⟨gb159, 5, none⟩ = some (.int .i64 a0_5) ∧ w20.cell? ⟨gb159, 6, none⟩ = some (.int .i64 a0_6) ∧ w20.cell? ⟨gb159, 7, none⟩ = some (.int .i64 a0_7) ∧ w20.cell? ⟨gb159, 8, none⟩ = some (.int .i64 a0_8) := hS_
                           refine norm_ (a' := ?_) ?_ ?_
                           rotate_left
                           · simp only [putAll, Act.put, List.setIfInBounds_toArray, List.set_cons_zero, List.set_cons_succ]
                             rfl
                           refine two_ (i := 11) (j := 22) (Ni := some 20) (Nj := some 31) #[true, true, true, true, true, true, true, true, true, true, true, true, false, true, true, true, true, false, false, true, true, true, false, false, false] (mS 25 7989247) rfl rfl rfl rfl (two_of HT_.out (by kernel_rfl)) (by decide) (by decide) (fun K hK => ?_) (fun K hK => ?_)
                           · skip
                             refine Kd.R_lit_step (Kd.int .u8) _ 5 ?hg (N := 20) ?hd (xs := ([(Go.bits .or .i64 (wrap64 (a0_0 * 16)) 1) % 256, t161, t162] : List Int)) (inner := [.int .u8 ((Go.bits .or .i64 (wrap64 (a0_0 * 16)) 1) % 256), .int .u8 t161, .int .u8 t162]) (ok := fun _ => True) (okp := fun _ => True) ?hr ?hp (fun _ hk => hk) trivial (Below.refl _ _) (Nat.le_refl _) (by simp) ?_; (case hd => rfl); (case hg => rfl); (case hr => first | (go_simp; done) | (go_simp; rfl)); (case hp => exact (Reps.one (show Kd.M (Kd.int .u8) _ _ _ ((Go.bits .or .i64 (wrap64 (a0_0 * 16)) 1) % 256) [.int .u8 ((Go.bits .or .i64 (wrap64 (a0_0 * 16)) 1) % 256)] from rfl) (Reps.one (show Kd.M (Kd.int .u8) _ _ _ t161 [.int .u8 t161] from rfl) (Reps.one (show Kd.M (Kd.int .u8) _ _ _ t162 [.int .u8 t162] from rfl) (Reps.none _ _)))))
                             intro v164 w21 ho22 hb hg_ hnew_
                             clear hg_ hnew_
                             (first | rw [← Ny163.out] at ho22 | (simp only [Int.reduceToNat] at ho22; rw [← Ny163.out] at ho22))
                             have n0_ := Aside0.mk (Kd.R_lower ho22 (below_size (by repeat (first | (with_reducible first | exact HB.out | apply below_alloc | apply pw_below_drewN | apply below_drew1 | refine below_set ?_ GE159.out) | exact HB.out))))
                             have n1_ := Aside0.mk (blk_below (g := gb159) (o := .cells #[.int .i64 a0_0, .int .i64 a0_1, .int .i64 a0_2, .int .i64 a0_3, .int .i64 a0_4, .int .i64 a0_5, .int .i64 a0_6, .int .i64 a0_7, .int .i64 a0_8] 27 (0, 0)) (by (with_reducible repeat (first | refine blk_drewN ?_ _ | refine blk_drew ?_ | refine blk_alloc ?_ _)); exact BK159.out) hb)
                             have n2_ := Aside0.mk (below_step (by repeat (first | (with_reducible first | exact HB.out | apply below_alloc | apply pw_below_drewN | apply below_drew1 | refine below_set ?_ GE159.out) | exact HB.out)) hb)
                             clear BK159
                             clear HB
                             have HO165 := n0_
                             have BK159 := n1_
                             have HB := n2_
                             clear n0_ n1_ n2_
                             clear hb ho22
                             refine hK.out _ _ ⟨(blk_cell BK159.out 0).trans rfl, (blk_cell BK159.out 1).trans rfl, (blk_cell BK159.out 2).trans rfl, (blk_cell BK159.out 3).trans rfl, (blk_cell BK159.out 4).trans rfl, (blk_cell BK159.out 5).trans rfl, (blk_cell BK159.out 6).trans rfl, (blk_cell BK159.out 7).trans rfl, (blk_cell BK159.out 8).trans rfl⟩ (fun hHeld => ?_)
                             clear hK K
                             refine norm_ (a' := ?_) ?_ ?_
                             rotate_left
                             · show Act.put _ (some 20) _ = _
                               simp only [Act.put, List.setIfInBounds_toArray, List.set_cons_zero, List.set_cons_succ, i64_w, i32_w]
                               rfl
                             exact norm_ (by first | (simp only [putAll, Act.put, List.setIfInBounds_toArray, List.set_cons_zero, List.set_cons_succ]; done) | (simp only [putAll, Act.put, List.setIfInBounds_toArray, List.set_cons_zero, List.set_cons_succ]; rfl)) (hJ11_16 (v164) _ ⟨hHeld, (by (with_reducible repeat (first | apply Kd.R_alloc | apply Kd.R_drewN | apply Kd.R_drew)); exact HO165.out), (by (with_reducible repeat (first | refine blk_drewN ?_ _ | refine blk_drew ?_ | refine blk_alloc ?_ _)); exact BK159.out), (by repeat (first | (with_reducible first | exact HB.out | apply below_alloc | apply pw_below_drewN | apply below_drew1 | refine below_set ?_ GE159.out) | exact HB.out))⟩)
                           · skip
                             refine goesV_ Try.func40 (by kernel_rfl) rfl #[.agg #[.int .i64 a0_6, .int .i64 a0_7, .int .i64 a0_8]] (by rfl) rfl rfl rfl (by (try simp only [List.map_toArray, List.map_cons, List.map_nil]); first | done | rfl | (simp only [List.length_drop, List.length_take]; rfl)) ?_
                             with_reducible refine (subchannel_Encode_1.calls a0_6 a0_7 a0_8 t167 _ A9.out).mono ?_
                             rintro e w21 ⟨rfl, hb⟩
                             refine ⟨_, rfl, ?_⟩
                             have n0_ := Aside0.mk (blk_below (g := gb159) (o := .cells #[.int .i64 a0_0, .int .i64 a0_1, .int .i64 a0_2, .int .i64 a0_3, .int .i64 a0_4, .int .i64 a0_5, .int .i64 a0_6, .int .i64 a0_7, .int .i64 a0_8] 27 (0, 0)) (by (with_reducible repeat (first | refine blk_drewN ?_ _ | refine blk_drew ?_ | refine blk_alloc ?_ _)); exact BK159.out) hb)
                             have n1_ := Aside0.mk (below_step (by repeat (first | (with_reducible first | exact HB.out | apply below_alloc | apply pw_below_drewN | apply below_drew1 | refine below_set ?_ GE159.out) | exact HB.out)) hb)
                             clear BK159
                             clear HB
                             have BK159 := n0_
                             have HB := n1_
                             clear n0_ n1_
                             (try clear hb)
                             (try clear hb2)
                             (try clear hk)
                             (try clear hi)
                             refine hK.out _ _ ⟨(blk_cell BK159.out 0).trans rfl, (blk_cell BK159.out 1).trans rfl, (blk_cell BK159.out 2).trans rfl, (blk_cell BK159.out 3).trans rfl, (blk_cell BK159.out 4).trans rfl, (blk_cell BK159.out 5).trans rfl, (blk_cell BK159.out 6).trans rfl, (blk_cell BK159.out 7).trans rfl, (blk_cell BK159.out 8).trans rfl⟩ (fun hHeld => ?_)
                             clear hK K
                             refine norm_ (a' := ?_) ?_ ?_
                             rotate_left
                             · show Act.put _ (some 31) _ = _
                               simp only [Act.put, List.setIfInBounds_toArray, List.set_cons_zero, List.set_cons_succ, i64_w, i32_w]
                               rfl
                             exact norm_ (by first | (simp only [putAll, Act.put, List.setIfInBounds_toArray, List.set_cons_zero, List.set_cons_succ]; done) | (simp only [putAll, Act.put, List.setIfInBounds_toArray, List.set_cons_zero, List.set_cons_succ]; rfl)) (hJ16_22 () _ ⟨hHeld, (by (with_reducible repeat (first | refine blk_drewN ?_ _ | refine blk_drew ?_ | refine blk_alloc ?_ _)); exact BK159.out), (by repeat (first | (with_reducible first | exact HB.out | apply below_alloc | apply pw_below_drewN | apply below_drew1 | refine below_set ?_ GE159.out) | exact HB.out))⟩)
                       · skip
                         rintro v164 w21 ⟨hS_, h0_, h1_, h2_⟩
                         have n0_ : Aside0 (Kd.R (Kd.int .u8) 5 w21 w.heap.size (fun _ => True) v164 y163) := ⟨h0_⟩
                         have n1_ : Aside0 (w21.heap[gb159]? = some (.cells #[.int .i64 a0_0, .int .i64 a0_1, .int .i64 a0_2, .int .i64 a0_3, .int .i64 a0_4, .int .i64 a0_5, .int .i64 a0_6, .int .i64 a0_7, .int .i64 a0_8] 27 (0, 0))) := ⟨h1_⟩
                         have n2_ : Aside0 (Below w.heap.size w w21) := ⟨h2_⟩
                         clear BK159
                         clear HB
                         clear h0_ h1_ h2_
                         have HO165 := n0_
                         have BK159 := n1_
                         have HB := n2_
                         clear n0_ n1_ n2_
                         have hHeld : w21.cell? ⟨gb159, 0, none⟩ = some (.int .i64 a0_0) ∧ w21.cell? ⟨gb159, 1, none⟩ = some (.int .i64 a0_1) ∧ w21.cell? ⟨gb159, 2, none⟩ = some (.int .i64 a0_2) ∧ w21.cell? ⟨gb159, 3, none⟩ = some (.int .i64 a0_3) ∧ w21.cell? ⟨gb159, 4, none⟩ = some (.int .i64 a0_4) ∧ w21.cell? ⟨gb159, 5, none⟩ = some (.int .i64 a0_5) ∧ w21.cell? ⟨gb159, 6, none⟩ = some (.int .i64 a0_6) ∧ w21.cell? ⟨gb159, 7, none⟩ = some (.int .i64 a0_7) ∧ w21.cell? ⟨gb159, 8, none⟩ = some (.int .i64 a0_8) := hS_
                         refine norm_ (a' := ?_) ?_ ?_
                         rotate_left
                         · simp only [putAll, Act.put, List.setIfInBounds_toArray, List.set_cons_zero, List.set_cons_succ]
                           rfl
                         refine two_ (i := 12) (j := 16) (Ni := some 21) (Nj := some 25) #[true, true, true, true, true, true, true, true, true, true, true, true, true, true, true, true, false, false, false, true, true, true, false, false, false] (mS 25 3796991) rfl rfl rfl rfl (two_of HT_.out (by kernel_rfl)) (by decide) (by decide) (fun K hK => ?_) (fun K hK => ?_)
                         · skip
                           have hcv22 := own_string (P := Try.prog) Try.underlying49 Try.underlying5 Try.underlying9 (Kd.own_of_R HO165.out)
                           refine value_ (w1 := ?_) (v := ?_) (by rfl) rfl ?_ ?_
                           rotate_left 2
                           · go_simp
                             constructor
                             · rfl
                             · rfl
                           clear hcv22
                           refine hK.out _ _ ⟨(blk_cell BK159.out 0).trans rfl, (blk_cell BK159.out 1).trans rfl, (blk_cell BK159.out 2).trans rfl, (blk_cell BK159.out 3).trans rfl, (blk_cell BK159.out 4).trans rfl, (blk_cell BK159.out 5).trans rfl, (blk_cell BK159.out 6).trans rfl, (blk_cell BK159.out 7).trans rfl, (blk_cell BK159.out 8).trans rfl⟩ (fun hHeld => ?_)
                           clear hK K
                           refine norm_ (a' := ?_) ?_ ?_
                           rotate_left
                           · show Act.put _ (some 21) _ = _
                             simp only [Act.put, List.setIfInBounds_toArray, List.set_cons_zero, List.set_cons_succ, i64_w, i32_w]
                             rfl
                           exact norm_ (by first | (simp only [putAll, Act.put, List.setIfInBounds_toArray, List.set_cons_zero, List.set_cons_succ]; done) | (simp only [putAll, Act.put, List.setIfInBounds_toArray, List.set_cons_zero, List.set_cons_succ]; rfl)) (hJ11_12 (v164) _ ⟨hHeld, (by (with_reducible repeat (first | apply Kd.R_alloc | apply Kd.R_drewN | apply Kd.R_drew)); exact HO165.out), (by (with_reducible repeat (first | refine blk_drewN ?_ _ | refine blk_drew ?_ | refine blk_alloc ?_ _)); exact BK159.out), (by repeat (first | (with_reducible first | exact HB.out | apply below_alloc | apply pw_below_drewN | apply below_drew1 | refine below_set ?_ GE159.out) | exact HB.out))⟩)
                         · skip
                           refine goesV_ Try.func40 (by kernel_rfl) rfl #[.agg #[.int .i64 a0_3, .int .i64 a0_4, .int .i64 a0_5]] (by rfl) rfl rfl rfl (by (try simp only [List.map_toArray, List.map_cons, List.map_nil]); first | done | rfl | (simp only [List.length_drop, List.length_take]; rfl)) ?_
                           with_reducible refine (subchannel_Encode_1.calls a0_3 a0_4 a0_5 t166 _ A6.out).mono ?_
                           rintro e w22 ⟨rfl, hb⟩
                           refine ⟨_, rfl, ?_⟩
                           have n0_ := Aside0.mk (Kd.R_below (by (with_reducible repeat (first | apply Kd.R_alloc | apply Kd.R_drewN | apply Kd.R_drew)); exact HO165.out) hb)
                           have n1_ := Aside0.mk (blk_below (g := gb159) (o := .cells #[.int .i64 a0_0, .int .i64 a0_1, .int .i64 a0_2, .int .i64 a0_3, .int .i64 a0_4, .int .i64 a0_5, .int .i64 a0_6, .int .i64 a0_7, .int .i64 a0_8] 27 (0, 0)) (by (with_reducible repeat (first | refine blk_drewN ?_ _ | refine blk_drew ?_ | refine blk_alloc ?_ _)); exact BK159.out) hb)
                           have n2_ := Aside0.mk (below_step (by repeat (first | (with_reducible first | exact HB.out | apply below_alloc | apply pw_below_drewN | apply below_drew1 | refine below_set ?_ GE159.out) | exact HB.out)) hb)
                           clear HO165
                           clear BK159
                           clear HB
                           have HO165 := n0_
                           have BK159 := n1_
                           have HB := n2_
                           clear n0_ n1_ n2_
                           (try clear hb)
                           (try clear hb2)
                           (try clear hk)
                           (try clear hi)
                           refine hK.out _ _ ⟨(blk_cell BK159.out 0).trans rfl, (blk_cell BK159.out 1).trans rfl, (blk_cell BK159.out 2).trans rfl, (blk_cell BK159.out 3).trans rfl, (blk_cell BK159.out 4).trans rfl, (blk_cell BK159.out 5).trans rfl, (blk_cell BK159.out 6).trans rfl, (blk_cell BK159.out 7).trans rfl, (blk_cell BK159.out 8).trans rfl⟩ (fun hHeld => ?_)
                           clear hK K
                           refine norm_ (a' := ?_) ?_ ?_
                           rotate_left
                           · show Act.put _ (some 25) _ = _
                             simp only [Act.put, List.setIfInBounds_toArray, List.set_cons_zero, List.set_cons_succ, i64_w, i32_w]
                             rfl
                           exact norm_ (by first | (simp only [putAll, Act.put, List.setIfInBounds_toArray, List.set_cons_zero, List.set_cons_succ]; done) | (simp only [putAll, Act.put, List.setIfInBounds_toArray, List.set_cons_zero, List.set_cons_succ]; rfl)) (hJ11_16 (v164) _ ⟨hHeld, (by (with_reducible repeat (first | apply Kd.R_alloc | apply Kd.R_drewN | apply Kd.R_drew)); exact HO165.out), (by (with_reducible repeat (first | refine blk_drewN ?_ _ | refine blk_drew ?_ | refine blk_alloc ?_ _)); exact BK159.out), (by repeat (first | (with_reducible first | exact HB.out | apply below_alloc | apply pw_below_drewN | apply below_drew1 | refine below_set ?_ GE159.out) | exact HB.out))⟩)
                     · skip
                       rintro _ w21 ⟨hS_, h0_, h1_⟩
                       have n0_ : Aside0 (w21.heap[gb159]? = some (.cells #[.int .i64 a0_0, .int .i64 a0_1, .int .i64 a0_2, .int .i64 a0_3, .int .i64 a0_4, .int .i64 a0_5, .int .i64 a0_6, .int .i64 a0_7, .int .i64 a0_8] 27 (0, 0))) := ⟨h0_⟩
                       have n1_ : Aside0 (Below w.heap.size w w21) := ⟨h1_⟩
                       clear BK159
                       clear HB
                       clear h0_ h1_
                       have BK159 := n0_
                       have HB := n1_
                       clear n0_ n1_
                       have hHeld : w21.cell? ⟨gb159, 0, none⟩ = some (.int .i64 a0_0) ∧ w21.cell? ⟨gb159, 1, none⟩ = some (.int .i64 a0_1) ∧ w21.cell? ⟨gb159, 2, none⟩ = some (.int .i64 a0_2) ∧ w21.cell? ⟨gb159, 3, none⟩ = some (.int .i64 a0_3) ∧ w21.cell? ⟨gb159, 4, none⟩ = some (.int .i64 a0_4) ∧ w21.cell? ⟨gb159, 5, none⟩ = some (.int .i64 a0_5) ∧ w21.cell? ⟨gb159, 6, none⟩ = some (.int .i64 a0_6) ∧ w21.cell? ⟨gb159, 7, none⟩ = some (.int .i64 a0_7) ∧ w21.cell? ⟨gb159, 8, none⟩ = some (.int .i64 a0_8) := hS_
                       refine norm_ (a' := ?_) ?_ ?_
                       rotate_left
                       · simp only [putAll, Act.put, List.setIfInBounds_toArray, List.set_cons_zero, List.set_cons_succ]
                         rfl
                       refine one_ (i := 11) (N := some 20) (mS 25 7991295) rfl rfl (one_of HT_.out (by kernel_rfl)) (by decide) (fun K hK => ?_)
                       refine Kd.R_lit_step (Kd.int .u8) _ 5 ?hg (N := 20) ?hd (xs := ([(Go.bits .or .i64 (wrap64 (a0_0 * 16)) 1) % 256, t161, t162] : List Int)) (inner := [.int .u8 ((Go.bits .or .i64 (wrap64 (a0_0 * 16)) 1) % 256), .int .u8 t161, .int .u8 t162]) (ok := fun _ => True) (okp := fun _ => True) ?hr ?hp (fun _ hk => hk) trivial (Below.refl _ _) (Nat.le_refl _) (by simp) ?_; (case hd => rfl); (case hg => rfl); (case hr => first | (go_simp; done) | (go_simp; rfl)); (case hp => exact (Reps.one (show Kd.M (Kd.int .u8) _ _ _ ((Go.bits .or .i64 (wrap64 (a0_0 * 16)) 1) % 256) [.int .u8 ((Go.bits .or .i64 (wrap64 (a0_0 * 16)) 1) % 256)] from rfl) (Reps.one (show Kd.M (Kd.int .u8) _ _ _ t161 [.int .u8 t161] from rfl) (Reps.one (show Kd.M (Kd.int .u8) _ _ _ t162 [.int .u8 t162] from rfl) (Reps.none _ _)))))
                       intro v164 w22 ho23 hb hg_ hnew_
                       clear hg_ hnew_
                       (first | rw [← Ny163.out] at ho23 | (simp only [Int.reduceToNat] at ho23; rw [← Ny163.out] at ho23))
                       have n0_ := Aside0.mk (Kd.R_lower ho23 (below_size (by repeat (first | (with_reducible first | exact HB.out | apply below_alloc | apply pw_below_drewN | apply below_drew1 | refine below_set ?_ GE159.out) | exact HB.out))))
                       have n1_ := Aside0.mk (blk_below (g := gb159) (o := .cells #[.int .i64 a0_0, .int .i64 a0_1, .int .i64 a0_2, .int .i64 a0_3, .int .i64 a0_4, .int .i64 a0_5, .int .i64 a0_6, .int .i64 a0_7, .int .i64 a0_8] 27 (0, 0)) (by (with_reducible repeat (first | refine blk_drewN ?_ _ | refine blk_drew ?_ | refine blk_alloc ?_ _)); exact BK159.out) hb)
                       have n2_ := Aside0.mk (below_step (by repeat (first | (with_reducible first | exact HB.out | apply below_alloc | apply pw_below_drewN | apply below_drew1 | refine below_set ?_ GE159.out) | exact HB.out)) hb)
                       clear BK159
                       clear HB
                       have HO165 := n0_
                       have BK159 := n1_
                       have HB := n2_
                       clear n0_ n1_ n2_
                       clear hb ho23
                       refine hK.out _ _ ⟨(blk_cell BK159.out 0).trans rfl, (blk_cell BK159.out 1).trans rfl, (blk_cell BK159.out 2).trans rfl, (blk_cell BK159.out 3).trans rfl, (blk_cell BK159.out 4).trans rfl, (blk_cell BK159.out 5).trans rfl, (blk_cell BK159.out 6).trans rfl, (blk_cell BK159.out 7).trans rfl, (blk_cell BK159.out 8).trans rfl⟩ (fun hHeld => ?_)
                       clear hK K
                       refine norm_ (a' := ?_) ?_ ?_
                       rotate_left
                       · show Act.put _ (some 20) _ = _
                         simp only [Act.put, List.setIfInBounds_toArray, List.set_cons_zero, List.set_cons_succ, i64_w, i32_w]
                         rfl
                       exact norm_ (by first | (simp only [putAll, Act.put, List.setIfInBounds_toArray, List.set_cons_zero, List.set_cons_succ]; done) | (simp only [putAll, Act.put, List.setIfInBounds_toArray, List.set_cons_zero, List.set_cons_succ]; rfl)) (hJ11_16_22 (v164) _ ⟨hHeld, (by (with_reducible repeat (first | apply Kd.R_alloc | apply Kd.R_drewN | apply Kd.R_drew)); exact HO165.out), (by (with_reducible repeat (first | refine blk_drewN ?_ _ | refine blk_drew ?_ | refine blk_alloc ?_ _)); exact BK159.out), (by repeat (first | (with_reducible first | exact HB.out | apply below_alloc | apply pw_below_drewN | apply below_drew1 | refine below_set ?_ GE159.out) | exact HB.out))⟩)
                   · skip
                     rintro v164 w22 ⟨hS_, h0_, h1_, h2_⟩
                     have n0_ : Aside0 (Kd.R (Kd.int .u8) 5 w22 w.heap.size (fun _ => True) v164 y163) := ⟨h0_⟩
                     have n1_ : Aside0 (w22.heap[gb159]? = some (.cells #[.int .i64 a0_0, .int .i64 a0_1, .int .i64 a0_2, .int .i64 a0_3, .int .i64 a0_4, .int .i64 a0_5, .int .i64 a0_6, .int .i64 a0_7, .int .i64 a0_8] 27 (0, 0))) := ⟨h1_⟩
                     have n2_ : Aside0 (Below w.heap.size w w22) := ⟨h2_⟩
                     clear BK159
                     clear HB
                     clear h0_ h1_ h2_
                     have HO165 := n0_
                     have BK159 := n1_
                     have HB := n2_
                     clear n0_ n1_ n2_
                     have hHeld : w22.cell? ⟨gb159, 0, none⟩ = some (.int .i64 a0_0) ∧ w22.cell? ⟨gb159, 1, none⟩ = some (.int .i64 a0_1) ∧ w22.cell? ⟨gb159, 2, none⟩ = some (.int .i64 a0_2) ∧ w22.cell? ⟨gb159, 3, none⟩ = some (.int .i64 a0_3) ∧ w22.cell? ⟨gb159, 4, none⟩ = some (.int .i64 a0_4) ∧ w22.cell? ⟨gb159, 5, none⟩ = some (.int .i64 a0_5) ∧ w22.cell? ⟨gb159, 6, none⟩ = some (.int .i64 a0_6) ∧ w22.cell? ⟨gb159, 7, none⟩ = some (.int .i64 a0_7) ∧ w22.cell? ⟨gb159, 8, none⟩ = some (.int .i64 a0_8) := hS_
                     refine norm_ (a' := ?_) ?_ ?_
                     rotate_left
                     · simp only [putAll, Act.put, List.setIfInBounds_toArray, List.set_cons_zero, List.set_cons_succ]
                       rfl
                     refine two_ (i := 12) (j := 22) (Ni := some 21) (Nj := some 31) #[true, true, true, true, true, true, true, true, true, true, true, true, true, true, true, true, true, false, false, true, true, true, false, false, false] (mS 25 7991295) rfl rfl rfl rfl (two_of HT_.out (by kernel_rfl)) (by decide) (by decide) (fun K hK => ?_) (fun K hK => ?_)
                     · skip
                       have hcv23 := own_string (P := Try.prog) Try.underlying49 Try.underlying5 Try.underlying9 (Kd.own_of_R HO165.out)
                       refine value_ (w1 := ?_) (v := ?_) (by rfl) rfl ?_ ?_
                       rotate_left 2
                       · go_simp
                         constructor
                         · rfl
                         · rfl
                       clear hcv23
                       refine hK.out _ _ ⟨(blk_cell BK159.out 0).trans rfl, (blk_cell BK159.out 1).trans rfl, (blk_cell BK159.out 2).trans rfl, (blk_cell BK159.out 3).trans rfl, (blk_cell BK159.out 4).trans rfl, (blk_cell BK159.out 5).trans rfl, (blk_cell BK159.out 6).trans rfl, (blk_cell BK159.out 7).trans rfl, (blk_cell BK159.out 8).trans rfl⟩ (fun hHeld => ?_)
                       clear hK K
                       refine norm_ (a' := ?_) ?_ ?_
                       rotate_left
                       · show Act.put _ (some 21) _ = _
                         simp only [Act.put, List.setIfInBounds_toArray, List.set_cons_zero, List.set_cons_succ, i64_w, i32_w]
                         rfl
                       refine pure_ (i := 17) (N := some 26) (v := ?_) (a' := ?_) (mS 25 3932159) rfl rfl (any_of HT_.out (by kernel_rfl)) (fun _ _ _ h => h) (Or.inl ⟨by rfl, ?_⟩) ?_ ?_
                       rotate_left
                       · intro w'
                         go_simp
                         with_reducible rfl
                       rotate_left
                       · simp only [Act.put, List.setIfInBounds_toArray, List.set_cons_zero, List.set_cons_succ, i64_w, i32_w]
                         rfl
                       refine pure_ (i := 18) (N := some 27) (v := ?_) (a' := ?_) (mS 25 4194303) rfl rfl (any_of HT_.out (by kernel_rfl)) (fun _ _ _ h => h) (Or.inl ⟨by rfl, ?_⟩) ?_ ?_
                       rotate_left
                       · intro w'
                         go_simp
                         with_reducible rfl
                       rotate_left
                       · simp only [Act.put, List.setIfInBounds_toArray, List.set_cons_zero, List.set_cons_succ, i64_w, i32_w]
                         rfl
                       exact norm_ (by first | (simp only [putAll, Act.put, List.setIfInBounds_toArray, List.set_cons_zero, List.set_cons_succ]; done) | (simp only [putAll, Act.put, List.setIfInBounds_toArray, List.set_cons_zero, List.set_cons_succ]; rfl)) (hJ11_12_16 (v164) _ ⟨hHeld, (by (with_reducible repeat (first | apply Kd.R_alloc | apply Kd.R_drewN | apply Kd.R_drew)); exact HO165.out), (by (with_reducible repeat (first | refine blk_drewN ?_ _ | refine blk_drew ?_ | refine blk_alloc ?_ _)); exact BK159.out), (by repeat (first | (with_reducible first | exact HB.out | apply below_alloc | apply pw_below_drewN | apply below_drew1 | refine below_set ?_ GE159.out) | exact HB.out))⟩)
                     · skip
                       refine goesV_ Try.func40 (by kernel_rfl) rfl #[.agg #[.int .i64 a0_6, .int .i64 a0_7, .int .i64 a0_8]] (by rfl) rfl rfl rfl (by (try simp only [List.map_toArray, List.map_cons, List.map_nil]); first | done | rfl | (simp only [List.length_drop, List.length_take]; rfl)) ?_
                       with_reducible refine (subchannel_Encode_1.calls a0_6 a0_7 a0_8 t167 _ A9.out).mono ?_
                       rintro e w23 ⟨rfl, hb⟩
                       refine ⟨_, rfl, ?_⟩
                       have n0_ := Aside0.mk (Kd.R_below (by (with_reducible repeat (first | apply Kd.R_alloc | apply Kd.R_drewN | apply Kd.R_drew)); exact HO165.out) hb)
                       have n1_ := Aside0.mk (blk_below (g := gb159) (o := .cells #[.int .i64 a0_0, .int .i64 a0_1, .int .i64 a0_2, .int .i64 a0_3, .int .i64 a0_4, .int .i64 a0_5, .int .i64 a0_6, .int .i64 a0_7, .int .i64 a0_8] 27 (0, 0)) (by (with_reducible repeat (first | refine blk_drewN ?_ _ | refine blk_drew ?_ | refine blk_alloc ?_ _)); exact BK159.out) hb)
                       have n2_ := Aside0.mk (below_step (by repeat (first | (with_reducible first | exact HB.out | apply below_alloc | apply pw_below_drewN | apply below_drew1 | refine below_set ?_ GE159.out) | exact HB.out)) hb)
                       clear HO165
                       clear BK159
                       clear HB
                       have HO165 := n0_
                       have BK159 := n1_
                       have HB := n2_
                       clear n0_ n1_ n2_
                       (try clear hb)
                       (try clear hb2)
                       (try clear hk)
                       (try clear hi)
                       refine hK.out _ _ ⟨(blk_cell BK159.out 0).trans rfl, (blk_cell BK159.out 1).trans rfl, (blk_cell BK159.out 2).trans rfl, (blk_cell BK159.out 3).trans rfl, (blk_cell BK159.out 4).trans rfl, (blk_cell BK159.out 5).trans rfl, (blk_cell BK159.out 6).trans rfl, (blk_cell BK159.out 7).trans rfl, (blk_cell BK159.out 8).trans rfl⟩ (fun hHeld => ?_)
                       clear hK K
                       refine norm_ (a' := ?_) ?_ ?_
                       rotate_left
                       · show Act.put _ (some 31) _ = _
                         simp only [Act.put, List.setIfInBounds_toArray, List.set_cons_zero, List.set_cons_succ, i64_w, i32_w]
                         rfl
                       exact norm_ (by first | (simp only [putAll, Act.put, List.setIfInBounds_toArray, List.set_cons_zero, List.set_cons_succ]; done) | (simp only [putAll, Act.put, List.setIfInBounds_toArray, List.set_cons_zero, List.set_cons_succ]; rfl)) (hJ11_16_22 (v164) _ ⟨hHeld, (by (with_reducible repeat (first | apply Kd.R_alloc | apply Kd.R_drewN | apply Kd.R_drew)); exact HO165.out), (by (with_reducible repeat (first | refine blk_drewN ?_ _ | refine blk_drew ?_ | refine blk_alloc ?_ _)); exact BK159.out), (by repeat (first | (with_reducible first | exact HB.out | apply below_alloc | apply pw_below_drewN | apply below_drew1 | refine below_set ?_ GE159.out) | exact HB.out))⟩)
                 · skip
                   rintro v164 w22 ⟨hS_, h0_, h1_, h2_⟩
                   have n0_ : Aside0 (Kd.R (Kd.int .u8) 5 w22 w.heap.size (fun _ => True) v164 y163) := ⟨h0_⟩
                   have n1_ : Aside0 (w22.heap[gb159]? = some (.cells #[.int .i64 a0_0, .int .i64 a0_1, .int .i64 a0_2, .int .i64 a0_3, .int .i64 a0_4, .int .i64 a0_5, .int .i64 a0_6, .int .i64 a0_7, .int .i64 a0_8] 27 (0, 0))) := ⟨h1_⟩
                   have n2_ : Aside0 (Below w.heap.size w w22) := ⟨h2_⟩
                   clear BK159
                   clear HB
                   clear h0_ h1_ h2_
                   have HO165 := n0_
                   have BK159 := n1_
                   have HB := n2_
                   clear n0_ n1_ n2_
                   have hHeld : w22.cell? ⟨gb159, 0, none⟩ = some (.int .i64 a0_0) ∧ w22.cell? ⟨gb159, 1, none⟩ = some (.int .i64 a0_1) ∧ w22.cell? ⟨gb159, 2, none⟩ = some (.int .i64 a0_2) ∧ w22.cell? ⟨gb159, 3, none⟩ = some (.int .i64 a0_3) ∧ w22.cell? ⟨gb159, 4, none⟩ = some (.int .i64 a0_4) ∧ w22.cell? ⟨gb159, 5, none⟩ = some (.int .i64 a0_5) ∧ w22.cell? ⟨gb159, 6, none⟩ = some (.int .i64 a0_6) ∧ w22.cell? ⟨gb159, 7, none⟩ = some (.int .i64 a0_7) ∧ w22.cell? ⟨gb159, 8, none⟩ = some (.int .i64 a0_8) := hS_
                   refine norm_ (a' := ?_) ?_ ?_
                   rotate_left
                   · simp only [putAll, Act.put, List.setIfInBounds_toArray, List.set_cons_zero, List.set_cons_succ]
                     rfl
                   refine one_ (i := 16) (N := some 25) (mS 25 3801087) rfl rfl (one_of HT_.out (by kernel_rfl)) (by decide) (fun K hK => ?_)
                   refine goesV_ Try.func40 (by kernel_rfl) rfl #[.agg #[.int .i64 a0_3, .int .i64 a0_4, .int .i64 a0_5]] (by rfl) rfl rfl rfl (by (try simp only [List.map_toArray, List.map_cons, List.map_nil]); first | done | rfl | (simp only [List.length_drop, List.length_take]; rfl)) ?_
                   with_reducible refine (subchannel_Encode_1.calls a0_3 a0_4 a0_5 t166 _ A6.out).mono ?_
                   rintro e w23 ⟨rfl, hb⟩
                   refine ⟨_, rfl, ?_⟩
                   have n0_ := Aside0.mk (Kd.R_below (by (with_reducible repeat (first | apply Kd.R_alloc | apply Kd.R_drewN | apply Kd.R_drew)); exact HO165.out) hb)
                   have n1_ := Aside0.mk (blk_below (g := gb159) (o := .cells #[.int .i64 a0_0, .int .i64 a0_1, .int .i64 a0_2, .int .i64 a0_3, .int .i64 a0_4, .int .i64 a0_5, .int .i64 a0_6, .int .i64 a0_7, .int .i64 a0_8] 27 (0, 0)) (by (with_reducible repeat (first | refine blk_drewN ?_ _ | refine blk_drew ?_ | refine blk_alloc ?_ _)); exact BK159.out) hb)
                   have n2_ := Aside0.mk (below_step (by repeat (first | (with_reducible first | exact HB.out | apply below_alloc | apply pw_below_drewN | apply below_drew1 | refine below_set ?_ GE159.out) | exact HB.out)) hb)
                   clear HO165
                   clear BK159
                   clear HB
                   have HO165 := n0_
                   have BK159 := n1_
                   have HB := n2_
                   clear n0_ n1_ n2_
                   (try clear hb)
                   (try clear hb2)
                   (try clear hk)
                   (try clear hi)
                   refine hK.out _ _ ⟨(blk_cell BK159.out 0).trans rfl, (blk_cell BK159.out 1).trans rfl, (blk_cell BK159.out 2).trans rfl, (blk_cell BK159.out 3).trans rfl, (blk_cell BK159.out 4).trans rfl, (blk_cell BK159.out 5).trans rfl, (blk_cell BK159.out 6).trans rfl, (blk_cell BK159.out 7).trans rfl, (blk_cell BK159.out 8).trans rfl⟩ (fun hHeld => ?_)
                   clear hK K
                   refine norm_ (a' := ?_) ?_ ?_
                   rotate_left
                   · show Act.put _ (some 25) _ = _
                     simp only [Act.put, List.setIfInBounds_toArray, List.set_cons_zero, List.set_cons_succ, i64_w, i32_w]
                     rfl
                   refine pure_ (i := 17) (N := some 26) (v := ?_) (a' := ?_) (mS 25 3932159) rfl rfl (any_of HT_.out (by kernel_rfl)) (fun _ _ _ h => h) (Or.inl ⟨by rfl, ?_⟩) ?_ ?_
                   rotate_left
                   · intro w'
                     go_simp
                     with_reducible rfl
                   rotate_left
                   · simp only [Act.put, List.setIfInBounds_toArray, List.set_cons_zero, List.set_cons_succ, i64_w, i32_w]
                     rfl
                   refine pure_ (i := 18) (N := some 27) (v := ?_) (a' := ?_) (mS 25 4194303) rfl rfl (any_of HT_.out (by kernel_rfl)) (fun _ _ _ h => h) (Or.inl ⟨by rfl, ?_⟩) ?_ ?_
                   rotate_left
                   · intro w'
                     go_simp
                     with_reducible rfl
                   rotate_left
                   · simp only [Act.put, List.setIfInBounds_toArray, List.set_cons_zero, List.set_cons_succ, i64_w, i32_w]
                     rfl
                   exact norm_ (by first | (simp only [putAll, Act.put, List.setIfInBounds_toArray, List.set_cons_zero, List.set_cons_succ]; done) | (simp only [putAll, Act.put, List.setIfInBounds_toArray, List.set_cons_zero, List.set_cons_succ]; rfl)) (hJ11_12_16 (v164) _ ⟨hHeld, (by (with_reducible repeat (first | apply Kd.R_alloc | apply Kd.R_drewN | apply Kd.R_drew)); exact HO165.out), (by (with_reducible repeat (first | refine blk_drewN ?_ _ | refine blk_drew ?_ | refine blk_alloc ?_ _)); exact BK159.out), (by repeat (first | (with_reducible first | exact HB.out | apply below_alloc | apply pw_below_drewN | apply below_drew1 | refine below_set ?_ GE159.out) | exact HB.out))⟩)
               · skip
                 rintro v164 w23 ⟨hS_, h0_, h1_, h2_⟩
                 have n0_ : Aside0 (Kd.R (Kd.int .u8) 5 w23 w.heap.size (fun _ => True) v164 y163) := ⟨h0_⟩
                 have n1_ : Aside0 (w23.heap[gb159]? = some (.cells #[.int .i64 a0_0, .int .i64 a0_1, .int .i64 a0_2, .int .i64 a0_3, .int .i64 a0_4, .int .i64 a0_5, .int .i64 a0_6, .int .i64 a0_7, .int .i64 a0_8] 27 (0, 0))) := ⟨h1_⟩
                 have n2_ : Aside0 (Below w.heap.size w w23) := ⟨h2_⟩
                 clear BK159
                 clear HB
                 clear h0_ h1_ h2_
                 have HO165 := n0_
                 have BK159 := n1_
                 have HB := n2_
                 clear n0_ n1_ n2_
                 have hHeld : w23.cell? ⟨gb159, 0, none⟩ = some (.int .i64 a0_0) ∧ w23.cell? ⟨gb159, 1, none⟩ = some (.int .i64 a0_1) ∧ w23.cell? ⟨gb159, 2, none⟩ = some (.int .i64 a0_2) ∧ w23.cell? ⟨gb159, 3, none⟩ = some (.int .i64 a0_3) ∧ w23.cell? ⟨gb159, 4, none⟩ = some (.int .i64 a0_4) ∧ w23.cell? ⟨gb159, 5, none⟩ = some (.int .i64 a0_5) ∧ w23.cell? ⟨gb159, 6, none⟩ = some (.int .i64 a0_6) ∧ w23.cell? ⟨gb159, 7, none⟩ = some (.int .i64 a0_7) ∧ w23.cell? ⟨gb159, 8, none⟩ = some (.int .i64 a0_8) := hS_
                 refine norm_ (a' := ?_) ?_ ?_
                 rotate_left
                 · simp only [putAll, Act.put, List.setIfInBounds_toArray, List.set_cons_zero, List.set_cons_succ]
                   rfl
                 refine one_ (i := 12) (N := some 21) (mS 25 7995391) rfl rfl (one_of HT_.out (by kernel_rfl)) (by decide) (fun K hK => ?_)
                 have hcv24 := own_string (P := Try.prog) Try.underlying49 Try.underlying5 Try.underlying9 (Kd.own_of_R HO165.out)
                 refine value_ (w1 := ?_) (v := ?_) (by rfl) rfl ?_ ?_
                 rotate_left 2
                 · go_simp
                   constructor
                   · rfl
                   · rfl
                 clear hcv24
                 refine hK.out _ _ ⟨(blk_cell BK159.out 0).trans rfl, (blk_cell BK159.out 1).trans rfl, (blk_cell BK159.out 2).trans rfl, (blk_cell BK159.out 3).trans rfl, (blk_cell BK159.out 4).trans rfl, (blk_cell BK159.out 5).trans rfl, (blk_cell BK159.out 6).trans rfl, (blk_cell BK159.out 7).trans rfl, (blk_cell BK159.out 8).trans rfl⟩ (fun hHeld => ?_)
                 clear hK K
                 refine norm_ (a' := ?_) ?_ ?_
                 rotate_left
                 · show Act.put _ (some 21) _ = _
                   simp only [Act.put, List.setIfInBounds_toArray, List.set_cons_zero, List.set_cons_succ, i64_w, i32_w]
                   rfl
                 refine pure_ (i := 17) (N := some 26) (v := ?_) (a' := ?_) (mS 25 8126463) rfl rfl (any_of HT_.out (by kernel_rfl)) (fun _ _ _ h => h) (Or.inl ⟨by rfl, ?_⟩) ?_ ?_
                 rotate_left
                 · intro w'
                   go_simp
                   with_reducible rfl
                 rotate_left
                 · simp only [Act.put, List.setIfInBounds_toArray, List.set_cons_zero, List.set_cons_succ, i64_w, i32_w]
                   rfl
                 refine pure_ (i := 18) (N := some 27) (v := ?_) (a' := ?_) (mS 25 8388607) rfl rfl (any_of HT_.out (by kernel_rfl)) (fun _ _ _ h => h) (Or.inl ⟨by rfl, ?_⟩) ?_ ?_
                 rotate_left
                 · intro w'
                   go_simp
                   with_reducible rfl
                 rotate_left
                 · simp only [Act.put, List.setIfInBounds_toArray, List.set_cons_zero, List.set_cons_succ, i64_w, i32_w]
                   rfl
                 exact norm_ (by first | (simp only [putAll, Act.put, List.setIfInBounds_toArray, List.set_cons_zero, List.set_cons_succ]; done) | (simp only [putAll, Act.put, List.setIfInBounds_toArray, List.set_cons_zero, List.set_cons_succ]; rfl)) (hJ11_12_16_22 (v164) _ ⟨hHeld, (by (with_reducible repeat (first | apply Kd.R_alloc | apply Kd.R_drewN | apply Kd.R_drew)); exact HO165.out), (by (with_reducible repeat (first | refine blk_drewN ?_ _ | refine blk_drew ?_ | refine blk_alloc ?_ _)); exact BK159.out), (by repeat (first | (with_reducible first | exact HB.out | apply below_alloc | apply pw_below_drewN | apply below_drew1 | refine below_set ?_ GE159.out) | exact HB.out))⟩)
             · skip
               rintro v164 w23 ⟨hS_, h0_, h1_, h2_⟩
               have n0_ : Aside0 (Kd.R (Kd.int .u8) 5 w23 w.heap.size (fun _ => True) v164 y163) := ⟨h0_⟩
               have n1_ : Aside0 (w23.heap[gb159]? = some (.cells #[.int .i64 a0_0, .int .i64 a0_1, .int .i64 a0_2, .int .i64 a0_3, .int .i64 a0_4, .int .i64 a0_5, .int .i64 a0_6, .int .i64 a0_7, .int .i64 a0_8] 27 (0, 0))) := ⟨h1_⟩
               have n2_ : Aside0 (Below w.heap.size w w23) := ⟨h2_⟩
               clear BK159
               clear HB
               clear h0_ h1_ h2_
               have HO165 := n0_
               have BK159 := n1_
               have HB := n2_
               clear n0_ n1_ n2_
               have hHeld : w23.cell? ⟨gb159, 0, none⟩ = some (.int .i64 a0_0) ∧ w23.cell? ⟨gb159, 1, none⟩ = some (.int .i64 a0_1) ∧ w23.cell? ⟨gb159, 2, none⟩ = some (.int .i64 a0_2) ∧ w23.cell? ⟨gb159, 3, none⟩ = some (.int .i64 a0_3) ∧ w23.cell? ⟨gb159, 4, none⟩ = some (.int .i64 a0_4) ∧ w23.cell? ⟨gb159, 5, none⟩ = some (.int .i64 a0_5) ∧ w23.cell? ⟨gb159, 6, none⟩ = some (.int .i64 a0_6) ∧ w23.cell? ⟨gb159, 7, none⟩ = some (.int .i64 a0_7) ∧ w23.cell? ⟨gb159, 8, none⟩ = some (.int .i64 a0_8) := hS_
               refine norm_ (a' := ?_) ?_ ?_
               rotate_left
               · simp only [putAll, Act.put, List.setIfInBounds_toArray, List.set_cons_zero, List.set_cons_succ]
                 rfl
               refine one_ (i := 22) (N := some 31) (mS 25 8388607) rfl rfl (one_of HT_.out (by kernel_rfl)) (by decide) (fun K hK => ?_)
               refine goesV_ Try.func40 (by kernel_rfl) rfl #[.agg #[.int .i64 a0_6, .int .i64 a0_7, .int .i64 a0_8]] (by rfl) rfl rfl rfl (by (try simp only [List.map_toArray, List.map_cons, List.map_nil]); first | done | rfl | (simp only [List.length_drop, List.length_take]; rfl)) ?_
               with_reducible refine (subchannel_Encode_1.calls a0_6 a0_7 a0_8 t167 _ A9.out).mono ?_
               rintro e w24 ⟨rfl, hb⟩
               refine ⟨_, rfl, ?_⟩
               have n0_ := Aside0.mk (Kd.R_below (by (with_reducible repeat (first | apply Kd.R_alloc | apply Kd.R_drewN | apply Kd.R_drew)); exact HO165.out) hb)
               have n1_ := Aside0.mk (blk_below (g := gb159) (o := .cells #[.int .i64 a0_0, .int .i64 a0_1, .int .i64 a0_2, .int .i64 a0_3, .int .i64 a0_4, .int .i64 a0_5, .int .i64 a0_6, .int .i64 a0_7, .int .i64 a0_8] 27 (0, 0)) (by (with_reducible repeat (first | refine blk_drewN ?_ _ | refine blk_drew ?_ | refine blk_alloc ?_ _)); exact BK159.out) hb)
               have n2_ := Aside0.mk (below_step (by repeat (first | (with_reducible first | exact HB.out | apply below_alloc | apply pw_below_drewN | apply below_drew1 | refine below_set ?_ GE159.out) | exact HB.out)) hb)
               clear HO165
               clear BK159
               clear HB
               have HO165 := n0_
               have BK159 := n1_
               have HB := n2_
               clear n0_ n1_ n2_
               (try clear hb)
               (try clear hb2)
               (try clear hk)
               (try clear hi)
               refine hK.out _ _ ⟨(blk_cell BK159.out 0).trans rfl, (blk_cell BK159.out 1).trans rfl, (blk_cell BK159.out 2).trans rfl, (blk_cell BK159.out 3).trans rfl, (blk_cell BK159.out 4).trans rfl, (blk_cell BK159.out 5).trans rfl, (blk_cell BK159.out 6).trans rfl, (blk_cell BK159.out 7).trans rfl, (blk_cell BK159.out 8).trans rfl⟩ (fun hHeld => ?_)
               clear hK K
               refine norm_ (a' := ?_) ?_ ?_
               rotate_left
               · show Act.put _ (some 31) _ = _
                 simp only [Act.put, List.setIfInBounds_toArray, List.set_cons_zero, List.set_cons_succ, i64_w, i32_w]
                 rfl
               exact norm_ (by first | (simp only [putAll, Act.put, List.setIfInBounds_toArray, List.set_cons_zero, List.set_cons_succ]; done) | (simp only [putAll, Act.put, List.setIfInBounds_toArray, List.set_cons_zero, List.set_cons_succ]; rfl)) (hJ11_12_16_22 (v164) _ ⟨hHeld, (by (with_reducible repeat (first | apply Kd.R_alloc | apply Kd.R_drewN | apply Kd.R_drew)); exact HO165.out), (by (with_reducible repeat (first | refine blk_drewN ?_ _ | refine blk_drew ?_ | refine blk_alloc ?_ _)); exact BK159.out), (by repeat (first | (with_reducible first | exact HB.out | apply below_alloc | apply pw_below_drewN | apply below_drew1 | refine below_set ?_ GE159.out) | exact HB.out))⟩)
           rintro v164 w24 ⟨hS_, h0_, h1_, h2_⟩
           have n0_ : Aside0 (Kd.R (Kd.int .u8) 5 w24 w.heap.size (fun _ => True) v164 y163) := ⟨h0_⟩
           have n1_ : Aside0 (w24.heap[gb159]? = some (.cells #[.int .i64 a0_0, .int .i64 a0_1, .int .i64 a0_2, .int .i64 a0_3, .int .i64 a0_4, .int .i64 a0_5, .int .i64 a0_6, .int .i64 a0_7, .int .i64 a0_8] 27 (0, 0))) := ⟨h1_⟩
           have n2_ : Aside0 (Below w.heap.size w w24) := ⟨h2_⟩
           clear BK159
           clear HB
           clear h0_ h1_ h2_
           have HO165 := n0_
           have BK159 := n1_
           have HB := n2_
           clear n0_ n1_ n2_
           have hHeld : w24.cell? ⟨gb159, 0, none⟩ = some (.int .i64 a0_0) ∧ w24.cell? ⟨gb159, 1, none⟩ = some (.int .i64 a0_1) ∧ w24.cell? ⟨gb159, 2, none⟩ = some (.int .i64 a0_2) ∧ w24.cell? ⟨gb159, 3, none⟩ = some (.int .i64 a0_3) ∧ w24.cell? ⟨gb159, 4, none⟩ = some (.int .i64 a0_4) ∧ w24.cell? ⟨gb159, 5, none⟩ = some (.int .i64 a0_5) ∧ w24.cell? ⟨gb159, 6, none⟩ = some (.int .i64 a0_6) ∧ w24.cell? ⟨gb159, 7, none⟩ = some (.int .i64 a0_7) ∧ w24.cell? ⟨gb159, 8, none⟩ = some (.int .i64 a0_8) := hS_
           refine norm_ (a' := ?_) ?_ ?_
           rotate_left
           · simp only [putAll, Act.put, List.setIfInBounds_toArray, List.set_cons_zero, List.set_cons_succ]
             rfl
           refine pure_ (i := 23) (N := some 32) (v := ?_) (a' := ?_) (mS 25 16777215) rfl rfl (any_of HT_.out (by kernel_rfl)) (fun _ _ _ h => h) (Or.inl ⟨by rfl, ?_⟩) ?_ ?_
           rotate_left
           · intro w'
             go_simp
             with_reducible rfl
           rotate_left
           · simp only [Act.put, List.setIfInBounds_toArray, List.set_cons_zero, List.set_cons_succ, i64_w, i32_w]
             rfl
           refine pure_ (i := 24) (N := some 5) (v := ?_) (a' := ?_) (mS 25 33554431) rfl rfl (any_of HT_.out (by kernel_rfl)) (fun _ _ _ h => h) (Or.inl ⟨by rfl, ?_⟩) ?_ ?_
           rotate_left
           · intro w'
             go_simp
             with_reducible rfl
           rotate_left
           · simp only [Act.put, List.setIfInBounds_toArray, List.set_cons_zero, List.set_cons_succ, i64_w, i32_w]
             rfl
           refine done_ (done_of HT_.out (by kernel_rfl)) ?_
           try go_wp2_with (first | ((with_reducible refine gate_callee (f := 43) rfl ?_); refine goesL_ (some 35) rfl rfl Try.func43 (by kernel_rfl) rfl #[.string ((((strOfNums y163) ++ t166) ++ (⟨#[0]⟩ : ByteArray)) ++ t167)] rfl (by (try simp only [List.map_toArray, List.map_cons, List.map_nil]); first | done | rfl | (simp only [List.length_drop, List.length_take]; rfl)) ?_; (with_reducible refine (subchannel_check.calls ((((strOfNums y163) ++ t166) ++ (⟨#[0]⟩ : ByteArray)) ++ t167) t168 _ A11.out).mono ?_); rintro e w25 ⟨rfl, hb⟩; refine ⟨_, rfl, ?_⟩; have n0_ := Aside0.mk (Kd.R_below (by (with_reducible repeat (first | apply Kd.R_alloc | apply Kd.R_drewN | apply Kd.R_drew)); exact HO165.out) hb); have n1_ := Aside0.mk (blk_below (g := gb159) (o := .cells #[.int .i64 a0_0, .int .i64 a0_1, .int .i64 a0_2, .int .i64 a0_3, .int .i64 a0_4, .int .i64 a0_5, .int .i64 a0_6, .int .i64 a0_7, .int .i64 a0_8] 27 (0, 0)) (by (with_reducible repeat (first | refine blk_drewN ?_ _ | refine blk_drew ?_ | refine blk_alloc ?_ _)); exact BK159.out) hb); have n2_ := Aside0.mk (below_step (by repeat (first | (with_reducible first | exact HB.out | apply below_alloc | apply pw_below_drewN | apply below_drew1 | refine below_set ?_ GE159.out) | exact HB.out)) hb); clear HO165; clear BK159; clear HB; have HO165 := n0_; have BK159 := n1_; have HB := n2_; clear n0_ n1_ n2_; (try clear hb); (try clear hb2); (try clear hk); (try clear hi)))
           go_ret2
           exact ⟨by first | rfl | (simp [errW_none, errW_some] <;> rfl) | (simp [*, errW_none, errW_some] <;> rfl), by repeat (first | (with_reducible first | exact HB.out | apply below_alloc | apply pw_below_drewN | apply below_drew1 | refine below_set ?_ GE159.out) | exact HB.out)⟩
         · rw [if_neg c12] at H
           exact absurd H (by simp)
       · rw [if_neg c10] at H
         exact absurd H (by simp)
     · rw [if_neg c8] at H
       exact absurd H (by simp)
   · rw [if_neg c7] at H
     exact absurd H (by simp)
 · replace c3 := Bool.eq_false_iff.mpr c3
   subst c3
   have H1 : (some ((⟨#[]⟩ : ByteArray), 1)) = some (r1, r2) := by rw [if_neg (show ¬ (false = true) by decide)] at H; exact H
   clear H
   have H := H1
   clear H1
   simp only [Option.some.injEq, Prod.mk.injEq] at H
   obtain ⟨rfl, rfl⟩ := H
   go_enter Try.func18, Try.ntmps18
   go_wp2_with (first | ((with_reducible refine gate_dst (N := 1) rfl ?_); refine box_event ?hg (N := 1) ?hd (cs := #[.int .i64 a0_0, .int .i64 a0_1, .int .i64 a0_2, .int .i64 a0_3, .int .i64 a0_4, .int .i64 a0_5, .int .i64 a0_6, .int .i64 a0_7, .int .i64 a0_8]) (t := 27) ?hr ?_; (case hd => rfl); (case hg => rfl); (case hr => first | (go_simp; done) | (go_simp; rfl)); intro gb159 hg w26 hbox hb; have n0_ := Aside0.mk (below_step (by repeat (first | (with_reducible first | exact HB.out | apply below_alloc | apply pw_below_drewN | apply below_drew1) | exact HB.out)) hb); have n1_ := Aside0.mk (hbox); have n2_ := Aside0.mk ((by rw [hg]; exact (below_size (by repeat (first | (with_reducible first | exact HB.out | apply below_alloc | apply pw_below_drewN | apply below_drew1) | exact HB.out))) : w.heap.size ≤ gb159)); have n3_ := Aside0.mk ((by rw [hg]; exact (below_size (by repeat (first | (with_reducible first | exact HB.out | apply below_alloc | apply pw_below_drewN | apply below_drew1) | exact HB.out))) : w.heap.size ≤ gb159)); clear HB; have HB := n0_; have BK159 := n1_; have GW159 := n2_; have GE159 := n3_; clear n0_ n1_ n2_ n3_; clear hb hbox hg; have hcz27_0 : w26.cell? ⟨gb159, 0, none⟩ = some (.int .i64 a0_0) := (blk_cell BK159.out 0).trans rfl; have hcz27_1 : w26.cell? ⟨gb159, 1, none⟩ = some (.int .i64 a0_1) := (blk_cell BK159.out 1).trans rfl; have hcz27_2 : w26.cell? ⟨gb159, 2, none⟩ = some (.int .i64 a0_2) := (blk_cell BK159.out 2).trans rfl; have hcz27_3 : w26.cell? ⟨gb159, 3, none⟩ = some (.int .i64 a0_3) := (blk_cell BK159.out 3).trans rfl; have hcz27_4 : w26.cell? ⟨gb159, 4, none⟩ = some (.int .i64 a0_4) := (blk_cell BK159.out 4).trans rfl; have hcz27_5 : w26.cell? ⟨gb159, 5, none⟩ = some (.int .i64 a0_5) := (blk_cell BK159.out 5).trans rfl; have hcz27_6 : w26.cell? ⟨gb159, 6, none⟩ = some (.int .i64 a0_6) := (blk_cell BK159.out 6).trans rfl; have hcz27_7 : w26.cell? ⟨gb159, 7, none⟩ = some (.int .i64 a0_7) := (blk_cell BK159.out 7).trans rfl; have hcz27_8 : w26.cell? ⟨gb159, 8, none⟩ = some (.int .i64 a0_8) := (blk_cell BK159.out 8).trans rfl; have hfz27_0 := blk_frozen BK159.out 0; have hfz27_1 := blk_frozen BK159.out 1; have hfz27_2 := blk_frozen BK159.out 2; have hfz27_3 := blk_frozen BK159.out 3; have hfz27_4 := blk_frozen BK159.out 4; have hfz27_5 := blk_frozen BK159.out 5; have hfz27_6 := blk_frozen BK159.out 6; have hfz27_7 := blk_frozen BK159.out 7; have hfz27_8 := blk_frozen BK159.out 8) | ((with_reducible refine gate_callee (f := 39) rfl ?_); refine goesL_ (some 7) rfl rfl Try.func39 (by kernel_rfl) rfl #[.agg #[.int .i64 a0_0, .int .i64 a0_1, .int .i64 a0_2, .int .i64 a0_3, .int .i64 a0_4, .int .i64 a0_5, .int .i64 a0_6, .int .i64 a0_7, .int .i64 a0_8]] rfl (by (try simp only [List.map_toArray, List.map_cons, List.map_nil]); first | done | rfl | (simp only [List.length_drop, List.length_take]; rfl)) ?_; (with_reducible refine (subchannel_valid.calls a0_0 a0_1 a0_2 a0_3 a0_4 a0_5 a0_6 a0_7 a0_8 false _ A2.out).mono ?_); rintro e w28 ⟨rfl, hb⟩; refine ⟨_, rfl, ?_⟩; have n0_ := Aside0.mk (blk_below (g := gb159) (o := .cells #[.int .i64 a0_0, .int .i64 a0_1, .int .i64 a0_2, .int .i64 a0_3, .int .i64 a0_4, .int .i64 a0_5, .int .i64 a0_6, .int .i64 a0_7, .int .i64 a0_8] 27 (0, 0)) (by (with_reducible repeat (first | refine blk_drewN ?_ _ | refine blk_drew ?_ | refine blk_alloc ?_ _)); exact BK159.out) hb); have n1_ := Aside0.mk (below_step (by repeat (first | (with_reducible first | exact HB.out | apply below_alloc | apply pw_below_drewN | apply below_drew1 | refine below_set ?_ GE159.out) | exact HB.out)) hb); clear BK159; clear HB; have BK159 := n0_; have HB := n1_; clear n0_ n1_; (try clear hb); (try clear hb2); (try clear hk); (try clear hi)))
   go_ret2
   exact ⟨by first | rfl | (simp [errW_none, errW_some] <;> rfl) | (simp [*, errW_none, errW_some] <;> rfl), by repeat (first | (with_reducible first | exact HB.out | apply below_alloc | apply pw_below_drewN | apply below_drew1 | refine below_set ?_ GE159.out) | exact HB.out)⟩
end Go.Proofs.Ytpmkibggmkibeaa.G
namespace Go.Proofs.Ytpmkibggmkibeaa.G
open Go.RowKit Go.Proofs.YtpmkibggmkibeaaW.PrintWords Go.Proofs.YtpmkibggmkibeaaW.PrintLast Go.Proofs.YtpmkibggmkibeaaW.PrintMore
set_option linter.unusedVariables false
theorem msf_ranges {n : Int} (h0 : -150 ≤ n) (h1 : n ≤ 449849) : 0 ≤ msfM n ∧ msfM n ≤ 99 ∧ 0 ≤ msfS n ∧ msfS n ≤ 59 ∧ 0 ≤ msfF n ∧ msfF n ≤ 74 := by
 unfold msfM msfS msfF; omega
theorem msf_valid {n : Int} (h0 : -150 ≤ n) (h1 : n ≤ 449849) : address_Valid.f (msfM n) (msfS n) (msfF n) = some true := by
 have := msf_ranges h0 h1
 unfold address_Valid.f msfB
 rw [decide_eq_true (by omega)]
theorem msf_num {n : Int} : (60 * msfM n + msfS n) * 75 + msfF n = n + 150 := by
 unfold msfM msfS msfF; omega
theorem number_any {m s f : Int} (h0 : 0 ≤ m) (h1 : m ≤ 99) (h2 : 0 ≤ s) (h3 : s ≤ 59) (h4 : 0 ≤ f) (h5 : f ≤ 74) : address_number.f m s f = some ((60 * m + s) * 75 + f) := by
 unfold address_number.f
 have e1 : wrap64 (60 * m) = 60 * m := by unfold wrap64; omega
 rw [e1]
 have e2 : wrap64 (60 * m + s) = 60 * m + s := by unfold wrap64; omega
 rw [e2]
 have e3 : wrap64 ((60 * m + s) * 75) = (60 * m + s) * 75 := by unfold wrap64; omega
 rw [e3]
 have e4 : wrap64 ((60 * m + s) * 75 + f) = (60 * m + s) * 75 + f := by unfold wrap64; omega
 rw [e4]
theorem number_plain {n : Int} (h0 : -150 ≤ n) (h1 : n ≤ 449849) : address_number.f (msfM n) (msfS n) (msfF n) = some (n + 150) := by
 have h := msf_ranges h0 h1
 rw [number_any h.1 h.2.1 h.2.2.1 h.2.2.2.1 h.2.2.2.2.1 h.2.2.2.2.2, msf_num]
theorem toLBA_msf {n : Int} (h0 : -150 ≤ n) (h1 : n ≤ 449849) : address_ToLBA.f (msfM n) (msfS n) (msfF n) = some (n, 0) := by
 unfold address_ToLBA.f
 rw [msf_valid h0 h1]
 simp only [Option.bind_some]
 rw [if_pos trivial, number_plain h0 h1]
 simp only [Option.bind_some]
 rw [show wrap64 (n + 150 - 150) = n by unfold wrap64; omega]
theorem distance_msf {a b : Int} (h0 : -150 ≤ a) (h1 : a ≤ 449849) (h2 : -150 ≤ b) (h3 : b ≤ 449849) (k : Nat) : address_Distance.f (k + 1) (msfM a) (msfS a) (msfF a) (msfM b) (msfS b) (msfF b) = some (b - a, 0) := by
 unfold address_Distance.f
 rw [msf_valid h0 h1]
 simp only [Option.bind_some]
 rw [if_pos trivial, msf_valid h2 h3]
 simp only [Option.bind_some, Bool.not_true]
 simp only [address_Distance.j0]
 rw [if_neg (by decide), number_plain h2 h3, number_plain h0 h1]
 simp only [Option.bind_some]
 rw [show wrap64 (b + 150 - (a + 150)) = b - a by unfold wrap64; omega]
theorem msf_zero : msfM (-150) = 0 ∧ msfS (-150) = 0 ∧ msfF (-150) = 0 := by decide
theorem size_strOfNums (l : List Int) : (strOfNums l).size = l.length := by
 show (List.map (fun n => UInt8.ofNat n.toNat) l).toArray.size = l.length
 simp
theorem bcd_some (n : Int) : ∃ b e, endian_BCD.f n = some (b, e) := by
 unfold endian_BCD.f
 repeat' split
 all_goals exact ⟨_, _, rfl⟩
theorem number_some {n : Int} (h0 : 0 ≤ n) (h1 : n < 200) : ∃ b, subchannel_number.f n = some b := by
 unfold subchannel_number.f
 rw [if_pos ⟨h0, h1⟩]
 split
 · exact ⟨_, rfl⟩
 · obtain ⟨b, e, h⟩ := bcd_some n
   exact ⟨b, by rw [h]; rfl⟩
theorem enc1_some (n : Int) : ∃ s, address_Encode_1.f n = some s ∧ s.size = 1 := by
 unfold address_Encode_1.f
 obtain ⟨b, e, h⟩ := bcd_some n
 exact ⟨_, by rw [h]; rfl, size_strOfNums _⟩
theorem accK_size {r0 r1 r2 : ByteArray} (z0 : r0.size = 1) (z1 : r1.size = 1) (z2 : r2.size = 1) : (⟨(accK r0 r1 r2 3).toArray⟩ : ByteArray).size = 3 := by
 have e0 : r0.data.toList.length = r0.size := Array.length_toList
 have e1 : r1.data.toList.length = r1.size := Array.length_toList
 have e2 : r2.data.toList.length = r2.size := Array.length_toList
 show (accK r0 r1 r2 3).toArray.size = 3
 rw [List.size_toArray]
 show (r0.data.toList ++ r1.data.toList ++ r2.data.toList).length = 3
 simp only [List.length_append]
 omega
theorem encode1_some {m s f : Int} (h : address_Valid.f m s f = some true) : ∃ r, subchannel_Encode_1.f m s f = some r ∧ r.size = 3 := by
 have hb : msfB m s f = true := Option.some.inj h
 obtain ⟨r0, h0, z0⟩ := enc1_some m
 obtain ⟨r1, h1, z1⟩ := enc1_some s
 obtain ⟨r2, h2, z2⟩ := enc1_some f
 refine ⟨_, ?_, accK_size z0 z1 z2⟩
 unfold subchannel_Encode_1.f address_Encode.f
 rw [if_pos hb, h0, h1, h2]
 simp only [Option.bind_some]
 rw [if_pos (by omega)]
 rfl
theorem check_some {s : ByteArray} (h : s.size ≤ 140737488351232) : ∃ r, subchannel_check.f s = some r ∧ r.size = 2 := by
 unfold subchannel_check.f checksum_CRC16.f checksum_ExtendCRC16.f checksum_CRCBytes.f
 rw [if_pos ⟨by decide, by decide, h⟩]
 exact ⟨_, rfl, size_strOfNums _⟩
theorem encode_ok {c t p m1 s1 f1 m2 s2 f2 : Int} (ht : 0 ≤ t) (ht2 : t < 200) (hp : 0 ≤ p) (hp2 : p < 200) (hv : subchannel_valid.f c t p m1 s1 f1 m2 s2 f2 = some true) (h1 : address_Valid.f m1 s1 f1 = some true) (h2 : address_Valid.f m2 s2 f2 = some true) :
 ∃ s, subchannel_Encode.f c t p m1 s1 f1 m2 s2 f2 = some (s, 0) ∧ s.size = 12 := by
 obtain ⟨b1, e1⟩ := number_some ht ht2
 obtain ⟨b2, e2⟩ := number_some hp hp2
 obtain ⟨r1, e3, z3⟩ := encode1_some h1
 obtain ⟨r2, e4, z4⟩ := encode1_some h2
 unfold subchannel_Encode.f
 rw [hv]
 simp only [Option.bind_some]
 rw [if_pos trivial, e1, e2, e3, e4]
 simp only [Option.bind_some]
 generalize hy : strOfNums [(Go.bits .or .i64 (wrap64 (c * 16)) 1) % 256, b1, b2] = y
 have zy : y.size = 3 := by rw [← hy, size_strOfNums]; rfl
 have hz : (y ++ r1 ++ (⟨#[0]⟩ : ByteArray) ++ r2).size = 10 := by
  simp only [ByteArray.size_append, zy, z3, z4]; rfl
 obtain ⟨ck, e5, z5⟩ := check_some (s := y ++ r1 ++ (⟨#[0]⟩ : ByteArray) ++ r2) (by omega)
 rw [if_pos (by omega), if_pos (by simp only [ByteArray.size_append]; omega), if_pos (by simp only [ByteArray.size_append, zy, z3, z4]; decide), e5]
 simp only [Option.bind_some]
 rw [if_pos (by omega)]
 exact ⟨_, rfl, by rw [ByteArray.size_append]; omega⟩
theorem valid_track {c t p m1 s1 f1 m2 s2 f2 : Int} (hc0 : 0 ≤ c) (hc : c ≤ 15) (ht : 0 ≤ t ∧ t ≤ 99 ∨ t = 170) (hp0 : 0 ≤ p) (hp : p ≤ 99) (h1 : address_Valid.f m1 s1 f1 = some true) (h2 : address_Valid.f m2 s2 f2 = some true) :
 subchannel_valid.f c t p m1 s1 f1 m2 s2 f2 = some true := by
 unfold subchannel_valid.f
 rw [between_dec c, decide_eq_true ⟨hc0, hc⟩]
 simp only [Option.bind_some]
 rw [if_pos trivial, between_dec t]
 simp only [Option.bind_some]
 rw [between_dec p 0 99, decide_eq_true (p := 0 ≤ p ∧ p ≤ 99) ⟨hp0, hp⟩, h1, h2]
 simp only [Option.bind_some, if_true]
 rcases ht with ht | ht
 · rw [decide_eq_true ht, if_pos rfl]
 · rw [decide_eq_false (by omega), if_neg (by decide), if_pos ht]
end Go.Proofs.Ytpmkibggmkibeaa.G
namespace Go.Proofs.Ytpmkibggmkibeaa.G
open Go.RowKit Go.Proofs.YtpmkibggmkibeaaW.PrintWords Go.Proofs.YtpmkibggmkibeaaW.PrintLast Go.Proofs.YtpmkibggmkibeaaW.PrintMore
set_option linter.unusedVariables false
def frameQ (c p m s f : Int) : S27 := ⟨c, 0, p, ⟨0, 0, 0⟩, ⟨m, s, f⟩⟩
set_option maxHeartbeats 400000 in
set_option maxRecDepth 100000 in
theorem entries1 (p m s f c : Int) (Bo Bc : Nat) (v : Value) (l : List (S27)) (w0 w : World)
 (ho : w.heap[Bo]? = some (.cells #[v] 31 (0, 0))) (hc : w.heap[Bc]? = some (.cells #[.int .i64 c] 3 (0, 0)))
 (hr : Kd.R k27 27 w w0.heap.size (fun _ => True) v l) (hb : Below w0.heap.size w0 w) (hB : w0.heap.size ≤ Bo) (hl : l.length < 200) :
 Calls Try.prog 36 #[.int .i64 p, .agg #[.int .i64 m, .int .i64 s, .int .i64 f], .pointer (some ⟨Bo, 0, none⟩), .pointer (some ⟨Bc, 0, none⟩)] w fun e w' => e = .returned (.tuple #[]) ∧
  ∃ v', w'.heap[Bo]? = some (.cells #[v'] 31 (0, 0)) ∧ Kd.R k27 27 w' w0.heap.size (fun _ => True) v' (l ++ [frameQ c p m s f]) ∧ Below w0.heap.size w0 w' ∧
   ∀ (k : Nat) (cs : Array Value) (t : TypeId), 27 ≠ t → k ≠ Bo → w.heap[k]? = some (.cells cs t (0, 0)) → w'.heap[k]? = some (.cells cs t (0, 0)) := by
 have hu := Try.underlying25
 have hu2 := Try.underlying27
 have ho1 := blk_alloc ho (.cells #[.int .i64 m, .int .i64 s, .int .i64 f] 25)
 have hc1 := blk_alloc hc (.cells #[.int .i64 m, .int .i64 s, .int .i64 f] 25)
 have k0 : (w.alloc (.cells #[.int .i64 m, .int .i64 s, .int .i64 f] 25)).cell? ⟨Bo, 0, none⟩ = some v := (blk_cell ho1 0).trans rfl
 have k1 : (w.alloc (.cells #[.int .i64 m, .int .i64 s, .int .i64 f] 25)).cell? ⟨Bc, 0, none⟩ = some (.int .i64 c) := (blk_cell hc1 0).trans rfl
 have HR := Aside0.mk (Kd.R_alloc hr (.cells #[.int .i64 m, .int .i64 s, .int .i64 f] 25))
 have HO := Aside0.mk ho1
 have HB := Aside0.mk (Below.alloc hb hb.size (.cells #[.int .i64 m, .int .i64 s, .int .i64 f] 25))
 have HGE := Aside0.mk hB
 have HL := Aside0.mk hl
 have HOO := Aside0.mk (fun (k : Nat) (cs : Array Value) (t : TypeId) (hk : w.heap[k]? = some (.cells cs t (0, 0))) => blk_alloc hk (.cells #[.int .i64 m, .int .i64 s, .int .i64 f] 25))
 have hP : Kd.M k27 (w.alloc (.cells #[.int .i64 m, .int .i64 s, .int .i64 f] 25)) w0.heap.size (fun _ => False) (frameQ c p m s f) [.int .i64 c, .int .i64 0, .int .i64 p, .int .i64 0, .int .i64 0, .int .i64 0, .int .i64 m, .int .i64 s, .int .i64 f] := k27_mkM _ _ _ (frameQ c p m s f)
 have HP := Aside0.mk hP
 obtain ⟨q, hq⟩ : ∃ q, q = frameQ c p m s f := ⟨_, rfl⟩
 rw [← hq] at HP ⊢
 clear ho1 hc1 hr ho hc hb hB hl hP hq
 go_enter Try.func36, Try.ntmps36
 go_wp2_with (first | (at_builtin; refine Kd.R_append k27 (w0 := w0) w0.heap.size rfl (.tmp 6) (.tmp 11) 31 27 (.agg #[.int .i64 0, .int .i64 0, .int .i64 0, .int .i64 0, .int .i64 0, .int .i64 0, .int .i64 0, .int .i64 0, .int .i64 0]) 72 rfl Try.underlying31 info27 rfl (by decide) (by omega) v l q [.int .i64 c, .int .i64 0, .int .i64 p, .int .i64 0, .int .i64 0, .int .i64 0, .int .i64 m, .int .i64 s, .int .i64 f] (fun _ => True) (fun _ => False) rfl (show Value.slice (some ⟨w.heap.size + 1, 0, none⟩) 1 1 = _ from by simp) HP.out (fun _ hk => hk.elim) (fun _ _ => trivial) HR.out HB.out HB.out.size (by have := HL.out; omega) ?_; intro v1 w1 ho1 hb1 hg1 hat1; obtain ⟨A1, c1, rfl⟩ := Kd.R_slice ho1; rw [show (l ++ [q]).length = l.length + 1 by simp] at ho1; have HO1 := Aside0.mk (blk_grown HO.out hg1 (Kd.R_ne HR.out HO.out (by decide))); have k2 := blk_cell HO1.out 0; have k3 := blk_frozen HO1.out 0; have HG1 := Aside0.mk hg1; have HR1 := Aside0.mk ho1; have HB1 := Aside0.mk hb1; clear ho1 hb1 hg1 hat1 k0 k1))
 go_end0
 refine ⟨rfl, _, blk_put HO1.out 0 _ rfl, Kd.R_set HR1.out HO1.out (by decide) 0 _, HB1.out.setCell HGE.out _, fun k cs t hne hk h => ?_⟩
 have h2 := HOO.out k cs t h
 exact blk_far (blk_grown h2 HG1.out (Kd.R_ne HR.out h2 hne)) hk _
def entL (l : List (S53)) (c : Int) (n : Nat) : List (S27) :=
 [frameQ c 160 (rd_T53 l 0).f0 0 0, frameQ c 161 (rd_T53 l ((l.length : Int) - 1)).f0 0 0,
  frameQ c 162 (msfM ((rd_T53 l ((l.length : Int) - 1)).f2 + (rd_T53 l ((l.length : Int) - 1)).f3)) (msfS ((rd_T53 l ((l.length : Int) - 1)).f2 + (rd_T53 l ((l.length : Int) - 1)).f3)) (msfF ((rd_T53 l ((l.length : Int) - 1)).f2 + (rd_T53 l ((l.length : Int) - 1)).f3))] ++
 (List.range n).map fun (i : Nat) => frameQ c (rd_T53 l (i : Int)).f0 (msfM (rd_T53 l (i : Int)).f2) (msfS (rd_T53 l (i : Int)).f2) (msfF (rd_T53 l (i : Int)).f2)
theorem entL_succ (l : List (S53)) (c : Int) (n : Nat) : entL l c (n + 1) = entL l c n ++ [frameQ c (rd_T53 l (n : Int)).f0 (msfM (rd_T53 l (n : Int)).f2) (msfS (rd_T53 l (n : Int)).f2) (msfF (rd_T53 l (n : Int)).f2)] := by
 simp [entL, List.range_succ]
theorem entL_length (l : List (S53)) (c : Int) (n : Nat) : (entL l c n).length = n + 3 := by simp [entL]
def subchannel_Entries.f (l : List (S53)) (a1 : Int) : Option (List (S27) × Int) := if sesB l = true ∧ 0 ≤ a1 ∧ a1 ≤ 15 then some (entL l a1 l.length, 0) else some ([], 1)
set_option maxHeartbeats 400000 in
set_option maxRecDepth 100000 in
theorem entries_no (A : Option Addr) (cp : Nat) (l : List (S53)) (a1 : Int) (w : World) (hr : Kd.C k53 w A l.length l) (hc : l.length ≤ cp) (h : ¬ (sesB l = true ∧ 0 ≤ a1 ∧ a1 ≤ 15)) :
 Calls Try.prog 13 #[.slice A l.length cp, .int .i64 a1] w fun e w' => e = .returned (.tuple #[.slice none 0 0, .int .i64 1]) ∧ Below w.heap.size w w' := by
 have HR := Aside0.mk (Kd.C_alloc hr (.cells #[.int .i64 a1] 3))
 have HC := Aside0.mk hc
 have HB0 := Aside0.mk (below_one w (.cells #[.int .i64 a1] 3))
 have hbk := blk_new w (.cells #[.int .i64 a1] 3)
 have HBK := Aside0.mk hbk
 clear hbk
 cases hs : sesB l with
 | false =>
  have HS := fun W h1 => Aside0.mk (session_any A cp l W h1 hc)
  rw [hs] at HS
  clear hr hc h hs
  go_enter Try.func13, Try.ntmps13
  go_wp2_with (fail)
  refine (HS _ HR.out).out.mono ?_
  rintro e w2 ⟨rfl, hb2⟩
  have HB2 := Aside0.mk (below_step HB0.out hb2)
  clear hb2
  go_wp2_with (fail)
  go_ret2
  exact ⟨rfl, HB2.out⟩
 | true =>
  have hn : ¬ (0 ≤ a1 ∧ a1 ≤ 15) := fun h2 => h ⟨hs, h2⟩
  have HS := fun W h1 => Aside0.mk (session_any A cp l W h1 hc)
  rw [hs] at HS
  have HT := fun W => Aside0.mk (subchannel_between.calls a1 0 15 false W (between_no hn))
  clear hr hc h hs hn
  go_enter Try.func13, Try.ntmps13
  go_wp2_with (fail)
  refine (HS _ HR.out).out.mono ?_
  rintro e w2 ⟨rfl, hb2⟩
  have HB2 := Aside0.mk (below_step HB0.out hb2)
  have hk := blk_below HBK.out hb2
  have k0 : w2.cell? ⟨w.heap.size, 0, none⟩ = some (.int .i64 a1) := (blk_cell hk 0).trans rfl
  clear hb2 hk
  go_wp2_with (fail)
  refine (HT _).out.mono ?_
  rintro e w3 ⟨rfl, hd⟩
  have HB3 := Aside0.mk (below_step HB2.out hd.below)
  clear hd k0
  go_wp2_with (fail)
  go_ret2
  exact ⟨rfl, HB3.out⟩
set_option maxHeartbeats 1000000 in
set_option maxRecDepth 100000 in
theorem entries_yes (A : Option Addr) (cp : Nat) (l : List (S53)) (a1 : Int) (w : World) (hr : Kd.C k53 w A l.length l) (hc : l.length ≤ cp) (hs : sesB l = true) (h0 : 0 ≤ a1) (h15 : a1 ≤ 15) :
 Calls Try.prog 13 #[.slice A l.length cp, .int .i64 a1] w fun e w' => ∃ v, e = .returned (.tuple #[v, .int .i64 0]) ∧ Kd.R k27 27 w' w.heap.size (fun _ => True) v (entL l a1 l.length) ∧ Below w.heap.size w w' := by
 have hmf : ∀ (fn : Fn) (first cap : Array Value) (w : World), (Instr.makeFunc fn first cap).run Try.prog w = .ok (.func fn first cap) w := fun _ _ _ _ => rfl
 have hses := ses_of hs
 have hl1 : 1 ≤ l.length := hses.one
 have hl9 : l.length ≤ 99 := hses.most
 have HSES := Aside0.mk hses
 have HR0 := Aside0.mk hr
 have HR := Aside0.mk (Kd.C_alloc hr (.cells #[.int .i64 a1] 3))
 have HB0 := Aside0.mk (below_one w (.cells #[.int .i64 a1] 3))
 have HBK := Aside0.mk (blk_new w (.cells #[.int .i64 a1] 3))
 have HS := fun W h1 => Aside0.mk (session_any A cp l W h1 hc)
 rw [hs] at HS
 have HT := fun W => Aside0.mk (subchannel_between.calls a1 0 15 true W (between_yes h0 h15))
 clear hr hc hs hses
 go_enter Try.func13, Try.ntmps13
 go_wp2_with (fail)
 refine (HS _ HR.out).out.mono ?_
 rintro e w2 ⟨rfl, hb2⟩
 have HR2 := Aside0.mk (Kd.C_below HR.out hb2)
 have HB2 := Aside0.mk (below_step HB0.out hb2)
 have hk := blk_below HBK.out hb2
 have HK2 := Aside0.mk hk
 have k0 : w2.cell? ⟨w.heap.size, 0, none⟩ = some (.int .i64 a1) := (blk_cell hk 0).trans rfl
 clear hb2 hk HR HB0 HBK HS
 go_wp2_with (fail)
 refine (HT _).out.mono ?_
 rintro e w3 ⟨rfl, hd⟩
 have HR3 := Aside0.mk (Kd.C_below HR2.out hd.below)
 have HB3 := Aside0.mk (below_step HB2.out hd.below)
 have HK3 := Aside0.mk (blk_below HK2.out hd.below)
 clear hd k0 HR2 HB2 HK2 HT
 have hz1 : (1 : Int) ≤ (l.length : Int) := by omega
 have hz2 : 0 ≤ (l.length : Int) - 1 := by omega
 have hz3 : (l.length : Int) - 1 < (l.length : Int) := by omega
 have hz4 : ((l.length : Int) - 1).toNat = l.length - 1 := by omega
 have hz5 : (0 : Int) < (l.length : Int) := by omega
 obtain ⟨ad, rfl, hx0, hx1, hx2, hx3, hx4, hx5, hx6⟩ := at_T53 HR3.out ((l.length : Int) - 1) hz2 hz3
 obtain ⟨ad2, hA, hy0, -⟩ := at_T53 HR3.out 0 (by omega) hz5
 cases hA
 rw [hz4] at hx0 hx1 hx2 hx3 hx4 hx5 hx6
 obtain ⟨x, hx⟩ : ∃ x, x = rd_T53 l ((l.length : Int) - 1) := ⟨_, rfl⟩
 obtain ⟨y, hy⟩ : ∃ y, y = (rd_T53 l 0).f0 := ⟨_, rfl⟩
 rw [← hx] at hx0 hx1 hx2 hx3 hx4 hx5 hx6
 rw [← hy] at hy0
 obtain ⟨x0, x1, x2, x3, x4, x5, x6⟩ := x
 dsimp only at hx0 hx1 hx2 hx3 hx4 hx5 hx6
 have e0 : ad.add (Int.toNat 0 * 7) = ad := by
  show ad.add 0 = ad
  unfold Addr.add
  split <;> simp_all
 rw [e0] at hy0
 clear e0
 have hy0' : ∀ o1 o2, ((w3.alloc o1).alloc o2).cell? ad = some (.int .i64 y) := fun o1 o2 => by
  have h1 : (w3.alloc o1).cell? ad = some (.int .i64 y) := cell_below_ hy0 (below_one _ _)
  exact cell_below_ h1 (below_one _ _)
 have HX := Aside0.mk hx
 have HY := Aside0.mk hy
 clear hx hy hy0
 go_wp2_with (fail)
 generalize hw4 : (w3.alloc _).alloc _ = w4
 obtain ⟨hb1, hb2, hB4⟩ := two_new hw4
 obtain ⟨gl, hgl⟩ : ∃ g, w3.heap.size = g := ⟨_, rfl⟩
 obtain ⟨go, hgo⟩ : ∃ g, gl + 1 = g := ⟨_, rfl⟩
 rw [hgl] at hb1 hb2 ⊢
 rw [hgo] at hb2 ⊢
 have hge : w.heap.size ≤ go := by have := HB3.out.size; omega
 have hne1 : w.heap.size ≠ go := by
  have := blk_lt HK3.out; omega
 have hne2 : gl ≠ go := by omega
 have HGE := Aside0.mk hge
 have HNE1 := Aside0.mk hne1
 have HNE2 := Aside0.mk hne2
 have HB4 := Aside0.mk (below_step HB3.out hB4)
 have HK4 := Aside0.mk (blk_below HK3.out hB4)
 have HL4 := Aside0.mk hb1
 have HO4 := Aside0.mk hb2
 have HR4 := Aside0.mk (Kd.C_below HR3.out hB4)
 clear hb1 hb2 hB4 hw4 hgl hgo hge hne1 hne2 HB3 HK3 HR3 hy0' hx0 hx1 hx2 hx3 hx4 hx5 hx6
 refine (entries1 160 y 0 0 a1 go w.heap.size (.slice none 0 0) [] w w4 HO4.out HK4.out (Kd.R_nil _ _ _ _ _) HB4.out HGE.out (by simp)).mono ?_
 rintro e w5 ⟨rfl, v5, ho5, hr5, hb5, hk5⟩
 have HK5 := Aside0.mk (hk5 _ _ _ (by decide) HNE1.out HK4.out)
 have hl5 := hk5 _ _ _ (by decide) HNE2.out HL4.out
 have HO5 := Aside0.mk ho5
 have HRR5 := Aside0.mk hr5
 have HB5 := Aside0.mk hb5
 have HL5 := Aside0.mk hl5
 have k0 : w5.cell? ⟨gl, 0, none⟩ = some (.int .i64 x0) := (blk_cell hl5 0).trans rfl
 clear ho5 hr5 hb5 hk5 hl5 HK4 HL4 HO4 HB4
 go_wp2_with (fail)
 refine (entries1 161 x0 0 0 a1 go w.heap.size v5 _ w w5 HO5.out HK5.out HRR5.out HB5.out HGE.out (by simp)).mono ?_
 rintro e w6 ⟨rfl, v6, ho6, hr6, hb6, hk6⟩
 have HK6 := Aside0.mk (hk6 _ _ _ (by decide) HNE1.out HK5.out)
 have hl6 := hk6 _ _ _ (by decide) HNE2.out HL5.out
 have HO6 := Aside0.mk ho6
 have HRR6 := Aside0.mk hr6
 have HB6 := Aside0.mk hb6
 have HL6 := Aside0.mk hl6
 have k0 : w6.cell? ⟨gl, 0, none⟩ = some (.int .i64 x0) := (blk_cell hl6 0).trans rfl
 have k1 : w6.cell? ⟨gl, 1, none⟩ = some (.int .i64 x1) := (blk_cell hl6 1).trans rfl
 have k2 : w6.cell? ⟨gl, 2, none⟩ = some (.int .i64 x2) := (blk_cell hl6 2).trans rfl
 have k3 : w6.cell? ⟨gl, 3, none⟩ = some (.int .i64 x3) := (blk_cell hl6 3).trans rfl
 have k4 : w6.cell? ⟨gl, 4, none⟩ = some (.int .i64 x4) := (blk_cell hl6 4).trans rfl
 have k5 : w6.cell? ⟨gl, 5, none⟩ = some (.int .i64 x5) := (blk_cell hl6 5).trans rfl
 have k6 : w6.cell? ⟨gl, 6, none⟩ = some (.int .i64 x6) := (blk_cell hl6 6).trans rfl
 clear ho6 hr6 hb6 hk6 hl6 HK5 HL5 HO5 HB5 HRR5
 have hst := HSES.out.start (l.length - 1) (by omega)
 have hle := HSES.out.len (l.length - 1) (by omega)
 rw [show ((l.length - 1 : Nat) : Int) = (l.length : Int) - 1 by omega, ← HX.out] at hst hle
 dsimp only at hst hle
 have HE := fun W => Aside0.mk (subchannel_end.calls x0 x1 x2 x3 x4 x5 x6 (x2 + x3) W (end_plain hst.1 hst.2 (by have := hle.1; omega) hle.2.1))
 have HM := fun W => Aside0.mk (subchannel_msf.calls (x2 + x3) _ _ _ W (msf_plain (by have := hle.1; have := hst.1; omega) hle.2.2))
 clear hst hle
 go_wp2_with (fail)
 clear k0 k1 k2 k3 k4 k5 k6
 refine (HE _).out.mono ?_
 rintro e w7 ⟨rfl, hd7⟩
 have HK7 := Aside0.mk (blk_below HK6.out hd7)
 have HO7 := Aside0.mk (blk_below HO6.out hd7)
 have HRR7 := Aside0.mk (Kd.R_below HRR6.out hd7)
 have HB7 := Aside0.mk (below_step HB6.out hd7)
 clear hd7 HK6 HO6 HRR6 HB6 HE
 go_wp2_with (fail)
 refine (HM _).out.mono ?_
 rintro e w8 ⟨rfl, hd8⟩
 have HK8 := Aside0.mk (blk_below HK7.out hd8)
 have HO8 := Aside0.mk (blk_below HO7.out hd8)
 have HRR8 := Aside0.mk (Kd.R_below HRR7.out hd8)
 have HB8 := Aside0.mk (below_step HB7.out hd8)
 clear hd8 HK7 HO7 HRR7 HB7 HM
 go_wp2_with (fail)
 refine (entries1 162 _ _ _ a1 go w.heap.size v6 _ w w8 HO8.out HK8.out HRR8.out HB8.out HGE.out (by simp)).mono ?_
 rintro e w9 ⟨rfl, v9, ho9, hr9, hb9, hk9⟩
 have HK9 := Aside0.mk (hk9 _ _ _ (by decide) HNE1.out HK8.out)
 have HO9 := Aside0.mk ho9
 have HRR9 := Aside0.mk (show Kd.R k27 27 w9 w.heap.size (fun _ => True) v9 (entL l a1 0) from by
  have e1 : entL l a1 0 = _ := rfl
  rw [e1]
  unfold entL
  rw [← HX.out, ← HY.out]
  exact hr9)
 have HB9 := Aside0.mk hb9
 clear ho9 hr9 hb9 hk9 HO8 HK8 HRR8 HB8 HX HY
 go_wp2_with (fail)
 go_loopg [45] l.length (fun gk v45 wr => ∃ (i : Nat) (v : Value), i ≤ l.length ∧ l.length - i ≤ gk ∧ v45 = .int .i64 i ∧ Aside0 (wr.heap[go]? = some (.cells #[v] 31 (0, 0))) ∧ Aside0 (wr.heap[w.heap.size]? = some (.cells #[.int .i64 a1] 3 (0, 0))) ∧ Aside0 (Kd.R k27 27 wr w.heap.size (fun _ => True) v (entL l a1 i)) ∧ Aside0 (Below w.heap.size w wr))
 case atStart => exact ⟨0, v9, by omega, by omega, rfl, HO9, HK9, HRR9, HB9⟩
 case round =>
  obtain ⟨i, v, hi, hg, rfl, HO, HK, HRR, HB⟩ := hrel
  by_cases hlt : i < l.length
  · have hltz : (i : Int) < (l.length : Int) := by omega
    have hi0 : 0 ≤ (i : Int) := by omega
    obtain ⟨ad2, hA, hx0, hx1, hx2, hx3, hx4, hx5, hx6⟩ := at_T53 (Kd.C_below HR0.out HB.out) (i : Int) hi0 hltz
    cases hA
    rw [Int.toNat_natCast] at hx0 hx1 hx2 hx3 hx4 hx5 hx6
    have hE := entL_succ l a1 i
    have hst := HSES.out.start i hlt
    obtain ⟨x, hx⟩ : ∃ x, x = rd_T53 l (i : Int) := ⟨_, rfl⟩
    rw [← hx] at hx0 hx1 hx2 hx3 hx4 hx5 hx6 hE hst
    obtain ⟨z0, z1, z2, z3, z4, z5, z6⟩ := x
    dsimp only at hx0 hx1 hx2 hx3 hx4 hx5 hx6 hE hst
    have HM := fun W => Aside0.mk (subchannel_msf.calls z2 _ _ _ W (msf_plain (by omega) (by omega)))
    have HEE := Aside0.mk hE
    clear hx hE hst
    go_wp2_with (fail)
    generalize hW : wr.alloc _ = W1
    obtain ⟨g, hg1⟩ : ∃ g, wr.heap.size = g := ⟨_, rfl⟩
    have hb : W1.heap[g]? = some (.cells #[.int .i64 z0, .int .i64 z1, .int .i64 z2, .int .i64 z3, .int .i64 z4, .int .i64 z5, .int .i64 z6] 53 (0, 0)) := by rw [← hW, ← hg1]; exact blk_new wr _
    have hbl : Below wr.heap.size wr W1 := by rw [← hW]; exact below_one _ _
    have HO1 := Aside0.mk (blk_below HO.out hbl)
    have HK1 := Aside0.mk (blk_below HK.out hbl)
    have HRR1 := Aside0.mk (Kd.R_below HRR.out hbl)
    have HB1 := Aside0.mk (below_step HB.out hbl)
    rw [hg1]
    have k0 : W1.cell? ⟨g, 0, none⟩ = some (.int .i64 z0) := (blk_cell hb 0).trans rfl
    have k2 : W1.cell? ⟨g, 2, none⟩ = some (.int .i64 z2) := (blk_cell hb 2).trans rfl
    clear hW hg1 hbl hb HO HK HRR HB hx0 hx1 hx2 hx3 hx4 hx5 hx6
    have HLEN := Aside0.mk (show (entL l a1 i).length < 200 by rw [entL_length]; omega)
    go_region_with (first
     | (go_at_call 27; refine (HM _).out.mono ?_; rintro e wm ⟨rfl, hdm⟩; have k0m := cell_below_ (show W1.drew.cell? ⟨g, 0, none⟩ = some (.int .i64 z0) from k0) hdm; have HOm := Aside0.mk (blk_below (blk_drew HO1.out) hdm); have HKm := Aside0.mk (blk_below (blk_drew HK1.out) hdm); have HRRm := Aside0.mk (Kd.R_below (Kd.R_drew HRR1.out) hdm); have HBm := Aside0.mk (below_step (below_drew1 HB1.out) hdm); clear hdm)
     | (go_at_call 36; refine (entries1 z0 _ _ _ a1 go w.heap.size v _ w _ HOm.out HKm.out HRRm.out HBm.out HGE.out HLEN.out).mono ?_; rintro e wn ⟨rfl, vn, hon, hrn, hbn, hkn⟩; have HOn := Aside0.mk hon; have HKn := Aside0.mk (hkn _ _ _ (by decide) HNE1.out HKm.out); have HRRn := Aside0.mk hrn; have HBn := Aside0.mk hbn; clear hon hrn hbn hkn))
    all_goals
     go_wp2_with (fail)
     go_roundg (l.length - (i + 1))
     case measure => omega
     case rel => exact ⟨i + 1, vn, by omega, by omega, by go_num, HOn, HKn, ⟨by rw [HEE.out]; exact HRRn.out⟩, HBn⟩
  · have hltz : ¬ (i : Int) < (l.length : Int) := by omega
    obtain rfl : i = l.length := by omega
    have k0 : wr.cell? ⟨go, 0, none⟩ = some v := (blk_cell HO.out 0).trans rfl
    clear hlt
    go_wp2_with (fail)
    go_ret2
    exact ⟨_, rfl, HRR.out, HB.out⟩
theorem subchannel_Entries.calls (A0 : Option Addr) (c0 : Nat) (l0 : List (S53)) (a1 : Int) (r1 : List (S27)) (r2 : Int) (w : World) (hr0 : Kd.C k53 w A0 l0.length l0) (hc0 : l0.length ≤ c0) (h : subchannel_Entries.f l0 a1 = some (r1, r2)) :
 Calls Try.prog 13 #[.slice A0 l0.length c0, .int .i64 a1] w fun e w' => ∃ v0_ : Value, e = .returned (.tuple #[v0_, .int .i64 r2]) ∧ Kd.R k27 27 w' w.heap.size (fun _ => True) v0_ r1 ∧ Below w.heap.size w w' := by
 unfold subchannel_Entries.f at h
 split at h
 · rename_i hs
   cases h
   exact entries_yes A0 c0 l0 a1 w hr0 hc0 hs.1 hs.2.1 hs.2.2
 · rename_i hs
   cases h
   exact (entries_no A0 c0 l0 a1 w hr0 hc0 hs).mono fun e w' ⟨he, hb⟩ => ⟨_, he, Kd.R_nil _ _ _ _ _, hb⟩
end Go.Proofs.Ytpmkibggmkibeaa.G
namespace Go.Proofs.Ytpmkibggmkibeaa.G
open Go.RowKit Go.Proofs.YtpmkibggmkibeaaW.PrintWords Go.Proofs.YtpmkibggmkibeaaW.PrintLast Go.Proofs.YtpmkibggmkibeaaW.PrintMore
attribute [local go_sem] max2_int min2_int max_two min_two max_three min_three max_four min_four   -- for this text's walks alone
set_option linter.unusedVariables false
set_option linter.unusedSimpArgs false
theorem eqA25 (d : Nat) (w : World) (x0 y0 : Int) (x1 y1 : Int) (x2 y2 : Int) :
 (Op.equalIn (d + 2) 25 (.agg #[.int .i64 x0, .int .i64 x1, .int .i64 x2]) (.agg #[.int .i64 y0, .int .i64 y1, .int .i64 y2])).run Try.prog w = .ok (x0 == y0 && (x1 == y1 && (x2 == y2))) w := by
 refine eqA_of Try.underlying25 (by kernel_rfl) ?_
 refine eqf_cons (by rfl) (by go_simp; rfl) (by go_simp; rfl) (by go_simp) ?_
 refine eqf_cons (by rfl) (by go_simp; rfl) (by go_simp; rfl) (by go_simp) ?_
 exact eqf_last (by rfl) (by go_simp; rfl) (by go_simp; rfl) (by go_simp)
end Go.Proofs.Ytpmkibggmkibeaa.G
namespace Go.Proofs.Ytpmkibggmkibeaa.G
open Go.RowKit Go.Proofs.YtpmkibggmkibeaaW.PrintWords Go.Proofs.YtpmkibggmkibeaaW.PrintLast Go.Proofs.YtpmkibggmkibeaaW.PrintMore
attribute [local go_sem] max2_int min2_int max_two min_two max_three min_three max_four min_four   -- for this text's walks alone
set_option linter.unusedVariables false
set_option linter.unusedSimpArgs false
theorem eqA27 (d : Nat) (w : World) (x0 y0 : Int) (x1 y1 : Int) (x2 y2 : Int) (x3 y3 : Int) (x4 y4 : Int) (x5 y5 : Int) (x6 y6 : Int) (x7 y7 : Int) (x8 y8 : Int) :
 (Op.equalIn (d + 3) 27 (.agg #[.int .i64 x0, .int .i64 x1, .int .i64 x2, .int .i64 x3, .int .i64 x4, .int .i64 x5, .int .i64 x6, .int .i64 x7, .int .i64 x8]) (.agg #[.int .i64 y0, .int .i64 y1, .int .i64 y2, .int .i64 y3, .int .i64 y4, .int .i64 y5, .int .i64 y6, .int .i64 y7, .int .i64 y8])).run Try.prog w = .ok (x0 == y0 && (x1 == y1 && (x2 == y2 && ((x3 == y3 && (x4 == y4 && (x5 == y5))) && ((x6 == y6 && (x7 == y7 && (x8 == y8)))))))) w := by
 refine eqA_of Try.underlying27 (by kernel_rfl) ?_
 refine eqf_cons (by rfl) (by go_simp; rfl) (by go_simp; rfl) (by go_simp) ?_
 refine eqf_cons (by rfl) (by go_simp; rfl) (by go_simp; rfl) (by go_simp) ?_
 refine eqf_cons (by rfl) (by go_simp; rfl) (by go_simp; rfl) (by go_simp) ?_
 refine eqf_cons (by rfl) (by go_simp) (by go_simp) (eqA25 (d + 0) w _ _ _ _ _ _) ?_
 exact eqf_last (by rfl) (by go_simp) (by go_simp) (eqA25 (d + 0) w _ _ _ _ _ _)
end Go.Proofs.Ytpmkibggmkibeaa.G
namespace Go.Proofs.Ytpmkibggmkibeaa.G
open Go.RowKit Go.Proofs.YtpmkibggmkibeaaW.PrintWords Go.Proofs.YtpmkibggmkibeaaW.PrintLast Go.Proofs.YtpmkibggmkibeaaW.PrintMore
attribute [local go_sem] max2_int min2_int max_two min_two max_three min_three max_four min_four   -- for this text's walks alone
set_option linter.unusedVariables false
set_option linter.unusedSimpArgs false
attribute [local go_sem high] eqA27
def api_QFrame.l0 : Nat → List (S27) → List (S27) → Int → Int → Option (Bool)
 | 0, _, _, _, _ => none
 | k + 1, x0, x1, x12, x13 => if x13 < x12 then (if 0 ≤ x13 then (if x13 < (x0.length : Int) then (if x13 < (x1.length : Int) then (if (!(((rd_T27 x0 x13).f0) == ((rd_T27 x1 x13).f0)) || (!(((rd_T27 x0 x13).f1) == ((rd_T27 x1 x13).f1)) || (!(((rd_T27 x0 x13).f2) == ((rd_T27 x1 x13).f2)) || ((!(((rd_T27 x0 x13).f3.f0) == ((rd_T27 x1 x13).f3.f0)) || (!(((rd_T27 x0 x13).f3.f1) == ((rd_T27 x1 x13).f3.f1)) || (!(((rd_T27 x0 x13).f3.f2) == ((rd_T27 x1 x13).f3.f2))))) || ((!(((rd_T27 x0 x13).f4.f0) == ((rd_T27 x1 x13).f4.f0)) || (!(((rd_T27 x0 x13).f4.f1) == ((rd_T27 x1 x13).f4.f1)) || (!(((rd_T27 x0 x13).f4.f2) == ((rd_T27 x1 x13).f4.f2)))))))))) = true then (some false) else (api_QFrame.l0 k x0 x1 x12 (wrap64 (x13 + 1)))) else (none)) else (none)) else (none)) else (some true)
def api_QFrame.f (k : Nat) (l0 : List (S27)) (l1 : List (S27)) : Option (Bool) := if (l0.length : Int) = (l1.length : Int) then (api_QFrame.l0 k l0 l1 (l0.length : Int) 0) else (some false)
theorem api_QFrame.mono_l : ∀ k, (∀ y0 y1 y2 y3, LeO (api_QFrame.l0 k y0 y1 y2 y3) (api_QFrame.l0 (k + 1) y0 y1 y2 y3))
 | 0 => fun _ _ _ _ r h => by simp [api_QFrame.l0] at h
 | k + 1 => by
  have ih0 := api_QFrame.mono_l k
  · intro y0 y1 y2 y3
    unfold api_QFrame.l0
    repeat' first
    | (with_reducible exact ih0 _ _ _ _)
    | (with_reducible exact LeO.refl _)
    | (with_reducible exact LeO.none _)
    | (with_reducible refine LeO.ite ?_ ?_)
    | (with_reducible refine LeO.bind ?_ (fun _ => ?_))
    | exact ih0 _ _ _ _
    | exact LeO.none _
    | refine LeO.ite ?_ ?_
    | refine LeO.bind ?_ (fun _ => ?_)
theorem api_QFrame.mono : ∀ a0 a1 k, LeO (api_QFrame.f k a0 a1) (api_QFrame.f (k + 1) a0 a1) := by
 intro a0 a1 k
 have ih0 := api_QFrame.mono_l k
 unfold api_QFrame.f
 repeat' first
  | (with_reducible exact ih0 _ _ _ _)
  | (with_reducible exact LeO.refl _)
  | (with_reducible exact LeO.none _)
  | (with_reducible refine LeO.ite ?_ ?_)
  | (with_reducible refine LeO.bind ?_ (fun _ => ?_))
  | exact ih0 _ _ _ _
  | exact LeO.none _
  | refine LeO.ite ?_ ?_
  | refine LeO.bind ?_ (fun _ => ?_)
set_option maxHeartbeats 8000000 in
set_option maxRecDepth 100000 in
theorem api_QFrame.calls (k : Nat) (A0 : Option Addr) (c0 : Nat) (l0 : List (S27)) (A1 : Option Addr) (c1 : Nat) (l1 : List (S27)) (r : Bool) (w : World) (hr0 : Kd.C k27 w A0 l0.length l0) (hc0 : l0.length ≤ c0) (hr1 : Kd.C k27 w A1 l1.length l1) (hc1 : l1.length ≤ c1) (h : api_QFrame.f k l0 l1 = some r) :
 Calls Try.prog 44 #[.slice A0 l0.length c0, .slice A1 l1.length c1] w fun e w' => e = .returned (.bool r) ∧ Drawn0 w w' := by
 have hu27 := Try.underlying27
 have HR0 := Aside0.mk hr0
 have HC0 := Aside0.mk hc0
 clear hr0 hc0
 have HR1 := Aside0.mk hr1
 have HC1 := Aside0.mk hc1
 clear hr1 hc1
 have H : (if (l0.length : Int) = (l1.length : Int) then (api_QFrame.l0 k l0 l1 (l0.length : Int) 0) else (some false)) = some r := h
 clear h
 by_cases c3 : (l0.length : Int) = (l1.length : Int)
 · rw [if_pos c3] at H
   have c3b0 : ((l0.length : Int) == (l1.length : Int)) = true := beq_iff_eq.mpr c3
   have c3b1 : ((l0.length : Int) != (l1.length : Int)) = false := bne_eq_false_iff_eq.mpr c3
   have c3b2 : (l0.length == l1.length) = true := by first | simpa using c3 | (simp at c3 ⊢; omega)
   clear c3
   have H' := Aside0.mk H
   clear H
   go_enter Try.func44, Try.ntmps44
   go_wp2
   repeat (go_quiet (fail); try go_wp2)
   go_loopg [13] k (fun kq v13 w' => ∃ (x13_1 : Int), v13 = .int .i64 x13_1 ∧ Aside0 (api_QFrame.l0 kq l0 l1 (l0.length : Int) x13_1 = some r) ∧ Aside0 (kq ≤ k) ∧ Drawn0 w w')
   case atStart => exact ⟨(0), (by first | rfl | (simp; done) | (simp [*]; done)), H', ⟨Nat.le_refl _⟩, by repeat (first | exact Drawn0.refl _ | apply Drawn0.step)⟩
   case round =>
    clear H'
    try clear c1
    try clear p2
    try clear c3
    try clear c3b0
    try clear c3b1
    try clear c3b2
    obtain ⟨x13_1, rfl, HA, HK1, ⟨m1, rfl⟩⟩ := hrel
    cases gk with
    | zero => exact absurd HA.out (by simp [api_QFrame.l0])
    | succ k1 =>
     have H := HA.out
     clear HA
     simp only [api_QFrame.l0] at H
     by_cases c4 : x13_1 < (l0.length : Int)
     · rw [if_pos c4] at H
       have c4b0 : decide (x13_1 < (l0.length : Int)) = true := decide_eq_true c4
       clear c4
       by_cases c5 : 0 ≤ x13_1
       · rw [if_pos c5] at H
         have c5b0 : decide (0 ≤ x13_1) = true := decide_eq_true c5
         clear c5
         by_cases c6 : x13_1 < (l0.length : Int)
         · rw [if_pos c6] at H
           have c6b0 : decide (x13_1 < (l0.length : Int)) = true := decide_eq_true c6
           clear c6
           by_cases c7 : x13_1 < (l1.length : Int)
           · rw [if_pos c7] at H
             have c7b0 : decide (x13_1 < (l1.length : Int)) = true := decide_eq_true c7
             clear c7
             by_cases c8 : (!(((rd_T27 l0 x13_1).f0) == ((rd_T27 l1 x13_1).f0)) || (!(((rd_T27 l0 x13_1).f1) == ((rd_T27 l1 x13_1).f1)) || (!(((rd_T27 l0 x13_1).f2) == ((rd_T27 l1 x13_1).f2)) || ((!(((rd_T27 l0 x13_1).f3.f0) == ((rd_T27 l1 x13_1).f3.f0)) || (!(((rd_T27 l0 x13_1).f3.f1) == ((rd_T27 l1 x13_1).f3.f1)) || (!(((rd_T27 l0 x13_1).f3.f2) == ((rd_T27 l1 x13_1).f3.f2))))) || ((!(((rd_T27 l0 x13_1).f4.f0) == ((rd_T27 l1 x13_1).f4.f0)) || (!(((rd_T27 l0 x13_1).f4.f1) == ((rd_T27 l1 x13_1).f4.f1)) || (!(((rd_T27 l0 x13_1).f4.f2) == ((rd_T27 l1 x13_1).f4.f2)))))))))) = true
             · rw [if_pos c8] at H
               have c8b0 : (!(((rd_T27 l0 x13_1).f0) == ((rd_T27 l1 x13_1).f0)) || (!(((rd_T27 l0 x13_1).f1) == ((rd_T27 l1 x13_1).f1)) || (!(((rd_T27 l0 x13_1).f2) == ((rd_T27 l1 x13_1).f2)) || ((!(((rd_T27 l0 x13_1).f3.f0) == ((rd_T27 l1 x13_1).f3.f0)) || (!(((rd_T27 l0 x13_1).f3.f1) == ((rd_T27 l1 x13_1).f3.f1)) || (!(((rd_T27 l0 x13_1).f3.f2) == ((rd_T27 l1 x13_1).f3.f2))))) || ((!(((rd_T27 l0 x13_1).f4.f0) == ((rd_T27 l1 x13_1).f4.f0)) || (!(((rd_T27 l0 x13_1).f4.f1) == ((rd_T27 l1 x13_1).f4.f1)) || (!(((rd_T27 l0 x13_1).f4.f2) == ((rd_T27 l1 x13_1).f4.f2)))))))))) = true := c8
               clear c8
               obtain rfl := Option.some.inj H
               have p303 : 0 ≤ (x13_1 : Int) := of_decide_eq_true (by first | (with_reducible assumption) | assumption)
               have q303 : x13_1 < (l0.length : Int) := of_decide_eq_true (by first | (with_reducible assumption) | assumption)
               obtain ⟨ad303, e303, hx303_0, hx303_1, hx303_2, hx303_3, hx303_4, hx303_5, hx303_6, hx303_7, hx303_8⟩ := at_T27 HR0.out x13_1 p303 q303
               cases e303
               replace p303 := eq_true p303
               replace q303 := eq_true q303
               have p304 : 0 ≤ (x13_1 : Int) := of_decide_eq_true (by first | (with_reducible assumption) | assumption)
               have q304 : x13_1 < (l1.length : Int) := of_decide_eq_true (by first | (with_reducible assumption) | assumption)
               obtain ⟨ad304, e304, hx304_0, hx304_1, hx304_2, hx304_3, hx304_4, hx304_5, hx304_6, hx304_7, hx304_8⟩ := at_T27 HR1.out x13_1 p304 q304
               cases e304
               replace p304 := eq_true p304
               replace q304 := eq_true q304
               go_wp2
               repeat (go_quiet (fail); try go_wp2)
               go_ret
               exact ⟨by first | rfl | (simp; done) | (simp [*]; done), by repeat (first | exact Drawn0.refl _ | apply Drawn0.step)⟩
             · rw [if_neg c8] at H
               have c8b0 : (!(((rd_T27 l0 x13_1).f0) == ((rd_T27 l1 x13_1).f0)) || (!(((rd_T27 l0 x13_1).f1) == ((rd_T27 l1 x13_1).f1)) || (!(((rd_T27 l0 x13_1).f2) == ((rd_T27 l1 x13_1).f2)) || ((!(((rd_T27 l0 x13_1).f3.f0) == ((rd_T27 l1 x13_1).f3.f0)) || (!(((rd_T27 l0 x13_1).f3.f1) == ((rd_T27 l1 x13_1).f3.f1)) || (!(((rd_T27 l0 x13_1).f3.f2) == ((rd_T27 l1 x13_1).f3.f2))))) || ((!(((rd_T27 l0 x13_1).f4.f0) == ((rd_T27 l1 x13_1).f4.f0)) || (!(((rd_T27 l0 x13_1).f4.f1) == ((rd_T27 l1 x13_1).f4.f1)) || (!(((rd_T27 l0 x13_1).f4.f2) == ((rd_T27 l1 x13_1).f4.f2)))))))))) = false := by simpa using c8
               clear c8
               have H' := Aside0.mk H
               clear H
               have p303 : 0 ≤ (x13_1 : Int) := of_decide_eq_true (by first | (with_reducible assumption) | assumption)
               have q303 : x13_1 < (l0.length : Int) := of_decide_eq_true (by first | (with_reducible assumption) | assumption)
               obtain ⟨ad303, e303, hx303_0, hx303_1, hx303_2, hx303_3, hx303_4, hx303_5, hx303_6, hx303_7, hx303_8⟩ := at_T27 HR0.out x13_1 p303 q303
               cases e303
               replace p303 := eq_true p303
               replace q303 := eq_true q303
               have p304 : 0 ≤ (x13_1 : Int) := of_decide_eq_true (by first | (with_reducible assumption) | assumption)
               have q304 : x13_1 < (l1.length : Int) := of_decide_eq_true (by first | (with_reducible assumption) | assumption)
               obtain ⟨ad304, e304, hx304_0, hx304_1, hx304_2, hx304_3, hx304_4, hx304_5, hx304_6, hx304_7, hx304_8⟩ := at_T27 HR1.out x13_1 p304 q304
               cases e304
               replace p304 := eq_true p304
               replace q304 := eq_true q304
               go_wp2
               repeat (go_quiet (fail); try go_wp2)
               go_roundg k1
               case measure => have := HK1.out; omega
               case rel => exact ⟨(wrap64 (x13_1 + 1)), (by first | rfl | (simp; done) | (simp [*]; done)), H', ⟨by have := HK1.out; omega⟩, by repeat (first | exact Drawn0.refl _ | apply Drawn0.step)⟩
           · rw [if_neg c7] at H
             exact absurd H (by simp)
         · rw [if_neg c6] at H
           exact absurd H (by simp)
       · rw [if_neg c5] at H
         exact absurd H (by simp)
     · rw [if_neg c4] at H
       have c4b0 : decide (x13_1 < (l0.length : Int)) = false := decide_eq_false c4
       clear c4
       obtain rfl := Option.some.inj H
       go_wp2
       repeat (go_quiet (fail); try go_wp2)
       go_ret
       exact ⟨by first | rfl | (simp; done) | (simp [*]; done), by repeat (first | exact Drawn0.refl _ | apply Drawn0.step)⟩
 · rw [if_neg c3] at H
   have c3b0 : ((l0.length : Int) == (l1.length : Int)) = false := beq_eq_false_iff_ne.mpr c3
   have c3b1 : ((l0.length : Int) != (l1.length : Int)) = true := bne_iff_ne.mpr c3
   have c3b2 : (l0.length == l1.length) = false := by first | simpa using c3 | (simp at c3 ⊢; omega)
   obtain rfl := Option.some.inj H
   go_enter Try.func44, Try.ntmps44
   go_wp2
   repeat (go_quiet (fail); try go_wp2)
   go_ret
   exact ⟨by first | rfl | (simp; done) | (simp [*]; done), by repeat (first | exact Drawn0.refl _ | apply Drawn0.step)⟩
end Go.Proofs.Ytpmkibggmkibeaa.G
namespace Go.Proofs.Ytpmkibggmkibeaa.G
open Go.RowKit Go.Proofs.YtpmkibggmkibeaaW.PrintWords Go.Proofs.YtpmkibggmkibeaaW.PrintLast Go.Proofs.YtpmkibggmkibeaaW.PrintMore
attribute [local go_sem] max2_int min2_int max_two min_two max_three min_three max_four min_four   -- for this text's walks alone
set_option linter.unusedVariables false
set_option linter.unusedSimpArgs false
def subchannel_Collect.l0 : Nat → List (S27) → Int → List Int → List (S53) → List (S27) → Int → Int → Option (List Int × Int × Int)
 | 0, _, _, _, _, _, _, _ => none
 | k + 1, x0, x5, x7, x8, x27, x28, x29 => if x29 < x28 then (if 0 ≤ x29 then (if x29 < (x27.length : Int) then ((address_ToLBA.f ((rd_T27 x27 x29).f4.f0) ((rd_T27 x27 x29).f4.f1) ((rd_T27 x27 x29).f4.f2)).bind fun bt314 => (if bt314.2 = 0 then (if x7.length < 17592186044416 then ((some (x7 ++ [bt314.1] : List Int)).bind fun y316 => (if x8.length < 2513169434916 then ((some (x8 ++ [(⟨(rd_T27 x27 x29).f2, 0, bt314.1, wrap64 (x5 - bt314.1), 0, 0, 0⟩ : S53)] : List (S53))).bind fun y319 => (if x29 > 0 then (if 0 ≤ (wrap64 (x29 - 1)) then (if (wrap64 (x29 - 1)) < (y316.length : Int) then (if (wrap64 (x29 - 1)) < (y319.length : Int) then (subchannel_Collect.l0 k x0 x5 y316 (y319.set ((wrap64 (x29 - 1)) : Int).toNat (⟨(rd_T53 y319 (wrap64 (x29 - 1))).f0, (rd_T53 y319 (wrap64 (x29 - 1))).f1, (rd_T53 y319 (wrap64 (x29 - 1))).f2, wrap64 (bt314.1 - (rd y316 (wrap64 (x29 - 1)))), (rd_T53 y319 (wrap64 (x29 - 1))).f4, (rd_T53 y319 (wrap64 (x29 - 1))).f5, (rd_T53 y319 (wrap64 (x29 - 1))).f6⟩ : S53)) x27 x28 (wrap64 (x29 + 1))) else (none)) else (none)) else (none)) else (subchannel_Collect.l0 k x0 x5 y316 y319 x27 x28 (wrap64 (x29 + 1))))) else (none))) else (none)) else (some (([] : List Int), 0, 10)))) else (none)) else (none)) else (if 0 < (x0.length : Int) then ((subchannel_Entries.f x8 ((rd_T27 x0 0).f0)).bind fun bt325 => (if bt325.2 = 0 then ((api_QFrame.f k bt325.1 x0).bind fun t329 => (if t329 = true then (some (x7, x5, 0)) else (some (([] : List Int), 0, 10)))) else (some (([] : List Int), 0, 10)))) else (none))
def subchannel_Collect.f (k : Nat) (l0 : List (S27)) : Option (List Int × Int × Int) := if (l0.length : Int) < 4 then (some (([] : List Int), 0, 10)) else (if 2 < (l0.length : Int) then ((address_ToLBA.f ((rd_T27 l0 2).f4.f0) ((rd_T27 l0 2).f4.f1) ((rd_T27 l0 2).f4.f2)).bind fun bt306 => (if 3 ≤ (l0.length : Int) then ((some (l0.drop 3 : List (S27))).bind fun y308 => (subchannel_Collect.l0 k l0 bt306.1 ([] : List Int) ([] : List (S53)) y308 (y308.length : Int) 0)) else (none))) else (none))
theorem subchannel_Collect.mono_l : ∀ k, (∀ y0 y1 y2 y3 y4 y5 y6, LeO (subchannel_Collect.l0 k y0 y1 y2 y3 y4 y5 y6) (subchannel_Collect.l0 (k + 1) y0 y1 y2 y3 y4 y5 y6))
 | 0 => fun _ _ _ _ _ _ _ r h => by simp [subchannel_Collect.l0] at h
 | k + 1 => by
  have ih0 := subchannel_Collect.mono_l k
  · intro y0 y1 y2 y3 y4 y5 y6
    unfold subchannel_Collect.l0
    repeat' first
    | (with_reducible exact ih0 _ _ _ _ _ _ _)
    | (with_reducible exact api_QFrame.mono _ _ _)
    | (with_reducible exact LeO.refl _)
    | (with_reducible exact LeO.none _)
    | (with_reducible refine LeO.ite ?_ ?_)
    | (with_reducible refine LeO.bind ?_ (fun _ => ?_))
    | exact ih0 _ _ _ _ _ _ _
    | exact api_QFrame.mono _ _ _
    | exact LeO.none _
    | refine LeO.ite ?_ ?_
    | refine LeO.bind ?_ (fun _ => ?_)
theorem subchannel_Collect.mono : ∀ a0 k, LeO (subchannel_Collect.f k a0) (subchannel_Collect.f (k + 1) a0) := by
 intro a0 k
 have ih0 := subchannel_Collect.mono_l k
 unfold subchannel_Collect.f
 repeat' first
  | (with_reducible exact ih0 _ _ _ _ _ _ _)
  | (with_reducible exact api_QFrame.mono _ _ _)
  | (with_reducible exact LeO.refl _)
  | (with_reducible exact LeO.none _)
  | (with_reducible refine LeO.ite ?_ ?_)
  | (with_reducible refine LeO.bind ?_ (fun _ => ?_))
  | exact ih0 _ _ _ _ _ _ _
  | exact api_QFrame.mono _ _ _
  | exact LeO.none _
  | refine LeO.ite ?_ ?_
  | refine LeO.bind ?_ (fun _ => ?_)
set_option maxHeartbeats 8000000 in
set_option maxRecDepth 100000 in
theorem subchannel_Collect.calls (k : Nat) (A0 : Option Addr) (c0 : Nat) (l0 : List (S27)) (r1 : List Int) (r2 : Int) (r3 : Int) (w : World) (hr0 : Kd.C k27 w A0 l0.length l0) (hc0 : l0.length ≤ c0) (h : subchannel_Collect.f k l0 = some (r1, r2, r3)) :
 Calls Try.prog 19 #[.slice A0 l0.length c0] w fun e w' => ∃ v0_ : Value, e = .returned (.tuple #[v0_, .int .i64 r2, .int .i64 r3]) ∧ Kd.R (Kd.int .i64) 3 w' w.heap.size (fun _ => True) v0_ r1 ∧ Below w.heap.size w w' := by
 have hu25 := Try.underlying25
 have hu27 := Try.underlying27
 have hu53 := Try.underlying53
 have HR0 := Aside0.mk hr0
 have HC0 := Aside0.mk hc0
 clear hr0 hc0
 have HB := Aside0.mk (Below.refl w.heap.size w)
 have H : (if (l0.length : Int) < 4 then (some (([] : List Int), 0, 10)) else (if 2 < (l0.length : Int) then ((address_ToLBA.f ((rd_T27 l0 2).f4.f0) ((rd_T27 l0 2).f4.f1) ((rd_T27 l0 2).f4.f2)).bind fun bt306 => (if 3 ≤ (l0.length : Int) then ((some (l0.drop 3 : List (S27))).bind fun y308 => (subchannel_Collect.l0 k l0 bt306.1 ([] : List Int) ([] : List (S53)) y308 (y308.length : Int) 0)) else (none))) else (none))) = some (r1, r2, r3) := h
 clear h
 by_cases c2 : (l0.length : Int) < 4
 · rw [if_pos c2] at H
   have c2b0 : decide ((l0.length : Int) < 4) = true := decide_eq_true c2
   have c2b1 : decide (l0.length < 4) = true := decide_eq_true (by omega)
   clear c2
   simp only [Option.some.injEq, Prod.mk.injEq] at H
   obtain ⟨rfl, rfl, rfl⟩ := H
   go_enter Try.func19, Try.ntmps19
   go_wp2
   go_ret3
   exact ⟨_, by first | rfl | (simp [errW_none, errW_some] <;> rfl) | (simp [*, errW_none, errW_some] <;> rfl), by first | exact Kd.R_nil _ _ _ _ _ | exact Kd.N_nil _ _ _ _ _ | exact Kd.V_nil _ _ _ _ _ | exact Kd.Q_nil _ _ _ _ _ | exact Kd.S_nil _ _ _ _ _, by repeat (first | (with_reducible first | exact HB.out | apply below_alloc | apply pw_below_drewN | apply below_drew1) | exact HB.out)⟩
 · rw [if_neg c2] at H
   have c2b0 : decide ((l0.length : Int) < 4) = false := decide_eq_false c2
   have c2b1 : decide (l0.length < 4) = false := decide_eq_false (by omega)
   clear c2
   by_cases c3 : 2 < (l0.length : Int)
   · rw [if_pos c3] at H
     have c3b0 : decide (2 < (l0.length : Int)) = true := decide_eq_true c3
     have c3b1 : decide (2 < l0.length) = true := decide_eq_true (by omega)
     clear c3
     replace H := Option.bind_eq_some_iff.mp H
     obtain ⟨⟨t306, t307⟩, A40, H⟩ := H
     replace H : (if 3 ≤ (l0.length : Int) then ((some (l0.drop 3 : List (S27))).bind fun y308 => (subchannel_Collect.l0 k l0 t306 ([] : List Int) ([] : List (S53)) y308 (y308.length : Int) 0)) else (none)) = some (r1, r2, r3) := H
     have A4 := Aside0.mk A40
     clear A40
     by_cases c5 : 3 ≤ (l0.length : Int)
     · rw [if_pos c5] at H
       have c5b0 := eq_true c5
       have c5b1 : decide (3 ≤ (l0.length : Int)) = true := decide_eq_true c5
       clear c5
       obtain ⟨y308, hy308⟩ : ∃ y_ : List (S27), y_ = (l0.drop 3) := ⟨_, rfl⟩
       replace H : (subchannel_Collect.l0 k l0 t306 ([] : List Int) ([] : List (S53)) y308 (y308.length : Int) 0) = some (r1, r2, r3) := by first | (rw [hy308]; with_reducible exact H) | (have H2_ := (Option.bind_some _ _).symm.trans H; rw [hy308]; with_reducible exact H2_) | (have H2_ := (Option.bind_some _ _).symm.trans H; with_reducible exact H2_) | with_reducible exact H | (rw [hy308]; exact H) | exact H
       have Ny308 := Aside0.mk hy308
       clear hy308
       have H' := Aside0.mk H
       clear H
       have p305 : 0 ≤ (2 : Int) := (by omega)
       have q305 : 2 < (l0.length : Int) := of_decide_eq_true (by first | (with_reducible assumption) | assumption)
       obtain ⟨ad305, e305, hx305_0, hx305_1, hx305_2, hx305_3, hx305_4, hx305_5, hx305_6, hx305_7, hx305_8⟩ := at_T27 HR0.out 2 p305 q305
       cases e305
       (try simp only [show (2 : Int).toNat = 2 from rfl, Nat.reduceMul, Nat.reduceEqDiff, Go.Addr.add, ↓reduceIte] at hx305_0)
       (try simp only [show (2 : Int).toNat = 2 from rfl, Nat.reduceMul, Nat.reduceEqDiff, Go.Addr.add, ↓reduceIte] at hx305_1)
       (try simp only [show (2 : Int).toNat = 2 from rfl, Nat.reduceMul, Nat.reduceEqDiff, Go.Addr.add, ↓reduceIte] at hx305_2)
       (try simp only [show (2 : Int).toNat = 2 from rfl, Nat.reduceMul, Nat.reduceEqDiff, Go.Addr.add, ↓reduceIte] at hx305_3)
       (try simp only [show (2 : Int).toNat = 2 from rfl, Nat.reduceMul, Nat.reduceEqDiff, Go.Addr.add, ↓reduceIte] at hx305_4)
       (try simp only [show (2 : Int).toNat = 2 from rfl, Nat.reduceMul, Nat.reduceEqDiff, Go.Addr.add, ↓reduceIte] at hx305_5)
       (try simp only [show (2 : Int).toNat = 2 from rfl, Nat.reduceMul, Nat.reduceEqDiff, Go.Addr.add, ↓reduceIte] at hx305_6)
       (try simp only [show (2 : Int).toNat = 2 from rfl, Nat.reduceMul, Nat.reduceEqDiff, Go.Addr.add, ↓reduceIte] at hx305_7)
       (try simp only [show (2 : Int).toNat = 2 from rfl, Nat.reduceMul, Nat.reduceEqDiff, Go.Addr.add, ↓reduceIte] at hx305_8)
       have qi305 : (2 < l0.length) = True := eq_true (by omega)
       (try rw [show ((2 : Int)).toNat = 2 from rfl] at hx305_0)
       (try rw [show 2 * 9 = 18 from rfl] at hx305_0)
       (try rw [show ((2 : Int)).toNat = 2 from rfl] at hx305_1)
       (try rw [show 2 * 9 = 18 from rfl] at hx305_1)
       (try rw [show ((2 : Int)).toNat = 2 from rfl] at hx305_2)
       (try rw [show 2 * 9 = 18 from rfl] at hx305_2)
       (try rw [show ((2 : Int)).toNat = 2 from rfl] at hx305_3)
       (try rw [show 2 * 9 = 18 from rfl] at hx305_3)
       (try rw [show ((2 : Int)).toNat = 2 from rfl] at hx305_4)
       (try rw [show 2 * 9 = 18 from rfl] at hx305_4)
       (try rw [show ((2 : Int)).toNat = 2 from rfl] at hx305_5)
       (try rw [show 2 * 9 = 18 from rfl] at hx305_5)
       (try rw [show ((2 : Int)).toNat = 2 from rfl] at hx305_6)
       (try rw [show 2 * 9 = 18 from rfl] at hx305_6)
       (try rw [show ((2 : Int)).toNat = 2 from rfl] at hx305_7)
       (try rw [show 2 * 9 = 18 from rfl] at hx305_7)
       (try rw [show ((2 : Int)).toNat = 2 from rfl] at hx305_8)
       (try rw [show 2 * 9 = 18 from rfl] at hx305_8)
       replace p305 := eq_true p305
       replace q305 := eq_true q305
       go_enter Try.func19, Try.ntmps19
       go_wp2_with (first | ((with_reducible refine gate_callee (f := 16) rfl ?_); refine goesL_ (some 23) rfl rfl Try.func16 (by kernel_rfl) rfl #[.agg #[.int .i64 ((rd_T27 l0 2).f4.f0), .int .i64 ((rd_T27 l0 2).f4.f1), .int .i64 ((rd_T27 l0 2).f4.f2)]] rfl (by (try simp only [List.map_toArray, List.map_cons, List.map_nil]); first | done | rfl | (simp only [List.length_drop, List.length_take]; rfl)) ?_; (with_reducible refine (address_ToLBA.calls ((rd_T27 l0 2).f4.f0) ((rd_T27 l0 2).f4.f1) ((rd_T27 l0 2).f4.f2) t306 t307 _ A4.out).mono ?_); rintro e w6 ⟨rfl, hb⟩; refine ⟨_, rfl, ?_⟩; have n0_ := Aside0.mk (below_step (by repeat (first | (with_reducible first | exact HB.out | apply below_alloc | apply pw_below_drewN | apply below_drew1) | exact HB.out)) hb); clear HB; have HB := n0_; clear n0_; (try clear hb); (try clear hb2); (try clear hk); (try clear hi); have q7 : (3 : Int) ≤ ((l0.length : Int) : Int) := of_decide_eq_true (by first | (with_reducible assumption) | assumption); obtain ⟨i07, hi07, _, hsz7, _⟩ := info_parts info27; have hroom7 : l0.length ≤ c0 := HC0.out; have hC7 : Kd.C k27 _ (some ad305) l0.length l0 := HR0.out; have hcut7 := cut_from (P := Try.prog) 31 27 .i64 Try.underlying31 hi07 9 hsz7 (some ad305) l0.length c0 3 (by omega) q7; have hr7 := Kd.C_drop (m := (3 : Int).toNat) (c := c0) hC7 (by omega) hroom7; obtain ⟨A7, hA7⟩ : ∃ A1, A1 = (if c0 = (3 : Int).toNat then (some ad305) else ((some ad305) : Option Addr).map (·.add ((3 : Int).toNat * 9))) := ⟨_, rfl⟩; obtain ⟨c7, hc7⟩ : ∃ c1, c1 = c0 - (3 : Int).toNat := ⟨_, rfl⟩; have hy7 : y308.length = l0.length - (3 : Int).toNat := (by rw [Ny308.out, List.length_drop] <;> omega); rw [show (l0).drop (3 : Int).toNat = y308 from Ny308.out.symm] at hr7; replace hr7 : Kd.C k27 _ A7 y308.length y308 := (by rw [hA7]; exact hr7); rw [← hy7, ← hA7, ← hc7] at hcut7; have HR311 := Aside0.mk hr7; have HC311 := Aside0.mk (show y308.length ≤ c7 from by rw [hy7, hc7]; exact Nat.sub_le_sub_right hroom7 _); clear hr7 hC7 hroom7 hi07 hsz7 hc7; have KY7 := Aside0.mk hy7; have KA7 := Aside0.mk hA7; clear hy7 hA7; replace q7 := eq_true q7))
       go_loopg [7, 8, 29] k (fun kq v7 v8 v29 w' => ∃ (x7_1 : List Int) (x8_1 : List (S53)) (x29_1 : Int), v29 = .int .i64 x29_1 ∧ Aside0 (subchannel_Collect.l0 kq l0 t306 x7_1 x8_1 y308 (y308.length : Int) x29_1 = some (r1, r2, r3)) ∧ Aside0 (kq ≤ k) ∧ Aside0 (Kd.R (Kd.int .i64) 3 w' w.heap.size (fun _ => True) v7 x7_1) ∧ Aside0 (Kd.R k53 53 w' w.heap.size (fun _ => True) v8 x8_1) ∧ Aside0 (Below w.heap.size w w'))
       case atStart => exact ⟨(([] : List Int)), (([] : List (S53))), (0), (by first | rfl | (simp; done) | (simp [*]; done)), H', ⟨Nat.le_refl _⟩, ⟨by first | exact Kd.R_nil _ _ _ _ _ | exact Kd.N_nil _ _ _ _ _ | exact Kd.V_nil _ _ _ _ _ | exact Kd.Q_nil _ _ _ _ _ | exact Kd.S_nil _ _ _ _ _⟩, ⟨by first | exact Kd.R_nil _ _ _ _ _ | exact Kd.N_nil _ _ _ _ _ | exact Kd.V_nil _ _ _ _ _ | exact Kd.Q_nil _ _ _ _ _ | exact Kd.S_nil _ _ _ _ _⟩, ⟨by repeat (first | (with_reducible first | exact HB.out | apply below_alloc | apply pw_below_drewN | apply below_drew1) | exact HB.out)⟩⟩
       case round =>
        clear H'
        try clear c1
        try clear c2
        try clear c2b0
        try clear c2b1
        try clear p2
        try clear c3
        try clear c3b0
        try clear c3b1
        try clear p3
        try clear q3
        try clear hx3
        try clear qi3
        try clear c5
        try clear c5b0
        try clear c5b1
        try clear c7
        try clear q7
        try clear hx305_0
        try clear hx305_1
        try clear hx305_2
        try clear hx305_3
        try clear hx305_4
        try clear hx305_5
        try clear hx305_6
        try clear hx305_7
        try clear hx305_8
        try clear p305
        try clear q305
        try clear q7
        obtain ⟨x7_1, x8_1, x29_1, rfl, HA, HK1, HO_7, HO_8, HB⟩ := hrel
        cases gk with
        | zero => exact absurd HA.out (by simp [subchannel_Collect.l0])
        | succ k1 =>
         have H := HA.out
         clear HA
         simp only [subchannel_Collect.l0] at H
         by_cases c8 : x29_1 < (y308.length : Int)
         · rw [if_pos c8] at H
           have c8b0 : decide (x29_1 < (y308.length : Int)) = true := decide_eq_true c8
           clear c8
           by_cases c9 : 0 ≤ x29_1
           · rw [if_pos c9] at H
             have c9b0 : decide (0 ≤ x29_1) = true := decide_eq_true c9
             clear c9
             by_cases c10 : x29_1 < (y308.length : Int)
             · rw [if_pos c10] at H
               have c10b0 : decide (x29_1 < (y308.length : Int)) = true := decide_eq_true c10
               clear c10
               replace H := Option.bind_eq_some_iff.mp H
               obtain ⟨⟨t314, t315⟩, A110, H⟩ := H
               replace H : (if t315 = 0 then (if x7_1.length < 17592186044416 then ((some (x7_1 ++ [t314] : List Int)).bind fun y316 => (if x8_1.length < 2513169434916 then ((some (x8_1 ++ [(⟨(rd_T27 y308 x29_1).f2, 0, t314, wrap64 (t306 - t314), 0, 0, 0⟩ : S53)] : List (S53))).bind fun y319 => (if x29_1 > 0 then (if 0 ≤ (wrap64 (x29_1 - 1)) then (if (wrap64 (x29_1 - 1)) < (y316.length : Int) then (if (wrap64 (x29_1 - 1)) < (y319.length : Int) then (subchannel_Collect.l0 k1 l0 t306 y316 (y319.set ((wrap64 (x29_1 - 1)) : Int).toNat (⟨(rd_T53 y319 (wrap64 (x29_1 - 1))).f0, (rd_T53 y319 (wrap64 (x29_1 - 1))).f1, (rd_T53 y319 (wrap64 (x29_1 - 1))).f2, wrap64 (t314 - (rd y316 (wrap64 (x29_1 - 1)))), (rd_T53 y319 (wrap64 (x29_1 - 1))).f4, (rd_T53 y319 (wrap64 (x29_1 - 1))).f5, (rd_T53 y319 (wrap64 (x29_1 - 1))).f6⟩ : S53)) y308 (y308.length : Int) (wrap64 (x29_1 + 1))) else (none)) else (none)) else (none)) else (subchannel_Collect.l0 k1 l0 t306 y316 y319 y308 (y308.length : Int) (wrap64 (x29_1 + 1))))) else (none))) else (none)) else (some (([] : List Int), 0, 10))) = some (r1, r2, r3) := H
               have A11 := Aside0.mk A110
               clear A110
               by_cases c12 : t315 = 0
               · rw [if_pos c12] at H
                 have c12b0 : (t315 == 0) = true := beq_iff_eq.mpr c12
                 have c12b1 : (t315 != 0) = false := bne_eq_false_iff_eq.mpr c12
                 clear c12
                 by_cases c13 : x7_1.length < 17592186044416
                 · rw [if_pos c13] at H
                   have LMc13 := Aside0.mk c13
                   clear c13
                   obtain ⟨y316, hy316⟩ : ∃ y_ : List Int, y_ = (x7_1 ++ [t314]) := ⟨_, rfl⟩
                   replace H : (if x8_1.length < 2513169434916 then ((some (x8_1 ++ [(⟨(rd_T27 y308 x29_1).f2, 0, t314, wrap64 (t306 - t314), 0, 0, 0⟩ : S53)] : List (S53))).bind fun y319 => (if x29_1 > 0 then (if 0 ≤ (wrap64 (x29_1 - 1)) then (if (wrap64 (x29_1 - 1)) < (y316.length : Int) then (if (wrap64 (x29_1 - 1)) < (y319.length : Int) then (subchannel_Collect.l0 k1 l0 t306 y316 (y319.set ((wrap64 (x29_1 - 1)) : Int).toNat (⟨(rd_T53 y319 (wrap64 (x29_1 - 1))).f0, (rd_T53 y319 (wrap64 (x29_1 - 1))).f1, (rd_T53 y319 (wrap64 (x29_1 - 1))).f2, wrap64 (t314 - (rd y316 (wrap64 (x29_1 - 1)))), (rd_T53 y319 (wrap64 (x29_1 - 1))).f4, (rd_T53 y319 (wrap64 (x29_1 - 1))).f5, (rd_T53 y319 (wrap64 (x29_1 - 1))).f6⟩ : S53)) y308 (y308.length : Int) (wrap64 (x29_1 + 1))) else (none)) else (none)) else (none)) else (subchannel_Collect.l0 k1 l0 t306 y316 y319 y308 (y308.length : Int) (wrap64 (x29_1 + 1))))) else (none)) = some (r1, r2, r3) := by first | (rw [hy316]; with_reducible exact H) | (have H2_ := (Option.bind_some _ _).symm.trans H; rw [hy316]; with_reducible exact H2_) | (have H2_ := (Option.bind_some _ _).symm.trans H; with_reducible exact H2_) | with_reducible exact H | (rw [hy316]; exact H) | exact H
                   have Ny316 := Aside0.mk hy316
                   clear hy316
                   by_cases c14 : x8_1.length < 2513169434916
                   · rw [if_pos c14] at H
                     have LMc14 := Aside0.mk c14
                     clear c14
                     obtain ⟨y319, hy319⟩ : ∃ y_ : List (S53), y_ = (x8_1 ++ [(⟨(rd_T27 y308 x29_1).f2, 0, t314, wrap64 (t306 - t314), 0, 0, 0⟩ : S53)]) := ⟨_, rfl⟩
                     replace H : (if x29_1 > 0 then (if 0 ≤ (wrap64 (x29_1 - 1)) then (if (wrap64 (x29_1 - 1)) < (y316.length : Int) then (if (wrap64 (x29_1 - 1)) < (y319.length : Int) then (subchannel_Collect.l0 k1 l0 t306 y316 (y319.set ((wrap64 (x29_1 - 1)) : Int).toNat (⟨(rd_T53 y319 (wrap64 (x29_1 - 1))).f0, (rd_T53 y319 (wrap64 (x29_1 - 1))).f1, (rd_T53 y319 (wrap64 (x29_1 - 1))).f2, wrap64 (t314 - (rd y316 (wrap64 (x29_1 - 1)))), (rd_T53 y319 (wrap64 (x29_1 - 1))).f4, (rd_T53 y319 (wrap64 (x29_1 - 1))).f5, (rd_T53 y319 (wrap64 (x29_1 - 1))).f6⟩ : S53)) y308 (y308.length : Int) (wrap64 (x29_1 + 1))) else (none)) else (none)) else (none)) else (subchannel_Collect.l0 k1 l0 t306 y316 y319 y308 (y308.length : Int) (wrap64 (x29_1 + 1)))) = some (r1, r2, r3) := by first | (rw [hy319]; with_reducible exact H) | (have H2_ := (Option.bind_some _ _).symm.trans H; rw [hy319]; with_reducible exact H2_) | (have H2_ := (Option.bind_some _ _).symm.trans H; with_reducible exact H2_) | with_reducible exact H | (rw [hy319]; exact H) | exact H
                     have Ny319 := Aside0.mk hy319
                     clear hy319
                     by_cases c15 : x29_1 > 0
                     · rw [if_pos c15] at H
                       have c15b0 : decide (0 < x29_1) = true := decide_eq_true c15
                       clear c15
                       obtain ⟨ji16, hji16⟩ : ∃ j_ : Int, (wrap64 (x29_1 - 1)) = j_ := ⟨_, rfl⟩
                       replace H : (if 0 ≤ (ji16) then (if (ji16) < (y316.length : Int) then (if (ji16) < (y319.length : Int) then (subchannel_Collect.l0 k1 l0 t306 y316 (y319.set ((ji16) : Int).toNat (⟨(rd_T53 y319 (ji16)).f0, (rd_T53 y319 (ji16)).f1, (rd_T53 y319 (ji16)).f2, wrap64 (t314 - (rd y316 (ji16))), (rd_T53 y319 (ji16)).f4, (rd_T53 y319 (ji16)).f5, (rd_T53 y319 (ji16)).f6⟩ : S53)) y308 (y308.length : Int) (wrap64 (x29_1 + 1))) else (none)) else (none)) else (none)) = some (r1, r2, r3) := by first | (rw [hji16] at H; exact H) | (simp only [hji16] at H ⊢; exact H)
                       (try rw [hji16] at A11)
                       have hji16w : (IntKind.i64.wrap (x29_1 - 1)) = ji16 := (i64_w _).trans hji16
                       by_cases c17 : 0 ≤ (ji16)
                       · rw [if_pos c17] at H
                         have c17b0 : decide (0 ≤ (ji16)) = true := decide_eq_true c17
                         clear c17
                         by_cases c18 : (ji16) < (y316.length : Int)
                         · rw [if_pos c18] at H
                           have c18b0 : decide ((ji16) < (y316.length : Int)) = true := decide_eq_true c18
                           clear c18
                           by_cases c19 : (ji16) < (y319.length : Int)
                           · rw [if_pos c19] at H
                             have c19b0 : decide ((ji16) < (y319.length : Int)) = true := decide_eq_true c19
                             clear c19
                             obtain ⟨y323, hy323⟩ : ∃ y_ : List (S53), y_ = (y319.set ((ji16) : Int).toNat (⟨(rd_T53 y319 (ji16)).f0, (rd_T53 y319 (ji16)).f1, (rd_T53 y319 (ji16)).f2, wrap64 (t314 - (rd y316 (ji16))), (rd_T53 y319 (ji16)).f4, (rd_T53 y319 (ji16)).f5, (rd_T53 y319 (ji16)).f6⟩ : S53)) := ⟨_, rfl⟩
                             replace H : (subchannel_Collect.l0 k1 l0 t306 y316 y323 y308 (y308.length : Int) (wrap64 (x29_1 + 1))) = some (r1, r2, r3) := by first | (rw [hy323]; with_reducible exact H) | (have H2_ := (Option.bind_some _ _).symm.trans H; rw [hy323]; with_reducible exact H2_) | (have H2_ := (Option.bind_some _ _).symm.trans H; with_reducible exact H2_) | with_reducible exact H | (rw [hy323]; exact H) | exact H
                             have Ny323 := Aside0.mk hy323
                             clear hy323
                             have H' := Aside0.mk H
                             clear H
                             have p312 : 0 ≤ (x29_1 : Int) := of_decide_eq_true (by first | (with_reducible assumption) | assumption)
                             have q312 : x29_1 < (y308.length : Int) := of_decide_eq_true (by first | (with_reducible assumption) | assumption)
                             obtain ⟨ad312, e312, hx312_0, hx312_1, hx312_2, hx312_3, hx312_4, hx312_5, hx312_6, hx312_7, hx312_8⟩ := at_T27 HR311.out x29_1 p312 q312
                             cases e312
                             replace hx312_0 := upc HB.out hx312_0
                             replace hx312_1 := upc HB.out hx312_1
                             replace hx312_2 := upc HB.out hx312_2
                             replace hx312_3 := upc HB.out hx312_3
                             replace hx312_4 := upc HB.out hx312_4
                             replace hx312_5 := upc HB.out hx312_5
                             replace hx312_6 := upc HB.out hx312_6
                             replace hx312_7 := upc HB.out hx312_7
                             replace hx312_8 := upc HB.out hx312_8
                             replace p312 := eq_true p312
                             replace q312 := eq_true q312
                             go_wp2_with (first | ((with_reducible refine gate_dst (N := 10) rfl ?_); refine box_event ?hg (N := 10) ?hd (cs := #[.int .i64 0, .int .i64 0, .int .i64 0, .int .i64 0, .int .i64 0, .int .i64 0, .int .i64 0, .int .i64 0, .int .i64 0]) (t := 27) ?hr ?_; (case hd => rfl); (case hg => rfl); (case hr => first | (go_simp; done) | (go_simp; rfl)); intro gb313 hg w21 hbox hb; have n0_ := Aside0.mk (Kd.R_below (by (with_reducible repeat (first | apply Kd.R_alloc | apply Kd.R_drewN | apply Kd.R_drew)); exact HO_7.out) hb); have n1_ := Aside0.mk (Kd.R_below (by (with_reducible repeat (first | apply Kd.R_alloc | apply Kd.R_drewN | apply Kd.R_drew)); exact HO_8.out) hb); have n2_ := Aside0.mk (below_step (by repeat (first | (with_reducible first | exact HB.out | apply below_alloc | apply pw_below_drewN | apply below_drew1) | exact HB.out)) hb); have n3_ := Aside0.mk (hbox); have n4_ := Aside0.mk ((by rw [hg]; exact (below_size (by repeat (first | (with_reducible first | exact HB.out | apply below_alloc | apply pw_below_drewN | apply below_drew1) | exact HB.out))) : w.heap.size ≤ gb313)); have n5_ := Aside0.mk ((by rw [hg]; exact (below_size (by repeat (first | (with_reducible first | exact HB.out | apply below_alloc | apply pw_below_drewN | apply below_drew1) | exact HB.out))) : w.heap.size ≤ gb313)); clear HO_7; clear HO_8; clear HB; have HO_7 := n0_; have HO_8 := n1_; have HB := n2_; have BK313 := n3_; have GW313 := n4_; have GE313 := n5_; clear n0_ n1_ n2_ n3_ n4_ n5_; clear hb hbox hg; have hcz22_0 : w21.cell? ⟨gb313, 0, none⟩ = some (.int .i64 0) := (blk_cell BK313.out 0).trans rfl; have hcz22_1 : w21.cell? ⟨gb313, 1, none⟩ = some (.int .i64 0) := (blk_cell BK313.out 1).trans rfl; have hcz22_2 : w21.cell? ⟨gb313, 2, none⟩ = some (.int .i64 0) := (blk_cell BK313.out 2).trans rfl; have hcz22_3 : w21.cell? ⟨gb313, 3, none⟩ = some (.int .i64 0) := (blk_cell BK313.out 3).trans rfl; have hcz22_4 : w21.cell? ⟨gb313, 4, none⟩ = some (.int .i64 0) := (blk_cell BK313.out 4).trans rfl; have hcz22_5 : w21.cell? ⟨gb313, 5, none⟩ = some (.int .i64 0) := (blk_cell BK313.out 5).trans rfl; have hcz22_6 : w21.cell? ⟨gb313, 6, none⟩ = some (.int .i64 0) := (blk_cell BK313.out 6).trans rfl; have hcz22_7 : w21.cell? ⟨gb313, 7, none⟩ = some (.int .i64 0) := (blk_cell BK313.out 7).trans rfl; have hcz22_8 : w21.cell? ⟨gb313, 8, none⟩ = some (.int .i64 0) := (blk_cell BK313.out 8).trans rfl; have hfz22_0 := blk_frozen BK313.out 0; have hfz22_1 := blk_frozen BK313.out 1; have hfz22_2 := blk_frozen BK313.out 2; have hfz22_3 := blk_frozen BK313.out 3; have hfz22_4 := blk_frozen BK313.out 4; have hfz22_5 := blk_frozen BK313.out 5; have hfz22_6 := blk_frozen BK313.out 6; have hfz22_7 := blk_frozen BK313.out 7; have hfz22_8 := blk_frozen BK313.out 8) | ((with_reducible refine gate_callee (f := 16) rfl ?_); refine goesL_ (some 37) rfl rfl Try.func16 (by kernel_rfl) rfl #[.agg #[.int .i64 ((rd_T27 y308 x29_1).f4.f0), .int .i64 ((rd_T27 y308 x29_1).f4.f1), .int .i64 ((rd_T27 y308 x29_1).f4.f2)]] rfl (by (try simp only [List.map_toArray, List.map_cons, List.map_nil]); first | done | rfl | (simp only [List.length_drop, List.length_take]; rfl)) ?_; (with_reducible refine (address_ToLBA.calls ((rd_T27 y308 x29_1).f4.f0) ((rd_T27 y308 x29_1).f4.f1) ((rd_T27 y308 x29_1).f4.f2) t314 t315 _ A11.out).mono ?_); rintro e w23 ⟨rfl, hb⟩; refine ⟨_, rfl, ?_⟩; have n0_ := Aside0.mk (Kd.R_below (by (with_reducible repeat (first | apply Kd.R_alloc | apply Kd.R_drewN | apply Kd.R_drew)); exact (Kd.R_mono (Kd.R_far (p := ⟨gb313, 8, none⟩) (Kd.R_far (p := ⟨gb313, 7, none⟩) (Kd.R_far (p := ⟨gb313, 6, none⟩) (Kd.R_far (p := ⟨gb313, 5, none⟩) (Kd.R_far (p := ⟨gb313, 4, none⟩) (Kd.R_far (p := ⟨gb313, 3, none⟩) (Kd.R_far (p := ⟨gb313, 2, none⟩) (Kd.R_far (p := ⟨gb313, 1, none⟩) (Kd.R_far (p := ⟨gb313, 0, none⟩) (Kd.R_types HO_7.out BK313.out (by decide)) (fun _ hk => hk.2) (.int .i64 ((rd_T27 y308 x29_1).f0))) (fun _ hk => hk.2) (.int .i64 ((rd_T27 y308 x29_1).f1))) (fun _ hk => hk.2) (.int .i64 ((rd_T27 y308 x29_1).f2))) (fun _ hk => hk.2) (.int .i64 ((rd_T27 y308 x29_1).f3.f0))) (fun _ hk => hk.2) (.int .i64 ((rd_T27 y308 x29_1).f3.f1))) (fun _ hk => hk.2) (.int .i64 ((rd_T27 y308 x29_1).f3.f2))) (fun _ hk => hk.2) (.int .i64 ((rd_T27 y308 x29_1).f4.f0))) (fun _ hk => hk.2) (.int .i64 ((rd_T27 y308 x29_1).f4.f1))) (fun _ hk => hk.2) (.int .i64 ((rd_T27 y308 x29_1).f4.f2))) (fun _ h_ => h_.1))) hb); have n1_ := Aside0.mk (Kd.R_below (by (with_reducible repeat (first | apply Kd.R_alloc | apply Kd.R_drewN | apply Kd.R_drew)); exact (Kd.R_mono (Kd.R_far (p := ⟨gb313, 8, none⟩) (Kd.R_far (p := ⟨gb313, 7, none⟩) (Kd.R_far (p := ⟨gb313, 6, none⟩) (Kd.R_far (p := ⟨gb313, 5, none⟩) (Kd.R_far (p := ⟨gb313, 4, none⟩) (Kd.R_far (p := ⟨gb313, 3, none⟩) (Kd.R_far (p := ⟨gb313, 2, none⟩) (Kd.R_far (p := ⟨gb313, 1, none⟩) (Kd.R_far (p := ⟨gb313, 0, none⟩) (Kd.R_types HO_8.out BK313.out (by decide)) (fun _ hk => hk.2) (.int .i64 ((rd_T27 y308 x29_1).f0))) (fun _ hk => hk.2) (.int .i64 ((rd_T27 y308 x29_1).f1))) (fun _ hk => hk.2) (.int .i64 ((rd_T27 y308 x29_1).f2))) (fun _ hk => hk.2) (.int .i64 ((rd_T27 y308 x29_1).f3.f0))) (fun _ hk => hk.2) (.int .i64 ((rd_T27 y308 x29_1).f3.f1))) (fun _ hk => hk.2) (.int .i64 ((rd_T27 y308 x29_1).f3.f2))) (fun _ hk => hk.2) (.int .i64 ((rd_T27 y308 x29_1).f4.f0))) (fun _ hk => hk.2) (.int .i64 ((rd_T27 y308 x29_1).f4.f1))) (fun _ hk => hk.2) (.int .i64 ((rd_T27 y308 x29_1).f4.f2))) (fun _ h_ => h_.1))) hb); have n2_ := Aside0.mk (blk_below (g := gb313) (o := .cells #[.int .i64 ((rd_T27 y308 x29_1).f0), .int .i64 ((rd_T27 y308 x29_1).f1), .int .i64 ((rd_T27 y308 x29_1).f2), .int .i64 ((rd_T27 y308 x29_1).f3.f0), .int .i64 ((rd_T27 y308 x29_1).f3.f1), .int .i64 ((rd_T27 y308 x29_1).f3.f2), .int .i64 ((rd_T27 y308 x29_1).f4.f0), .int .i64 ((rd_T27 y308 x29_1).f4.f1), .int .i64 ((rd_T27 y308 x29_1).f4.f2)] 27 (0, 0)) (by (with_reducible repeat (first | refine blk_drewN ?_ _ | refine blk_drew ?_ | refine blk_alloc ?_ _)); refine blk_put (cs := #[.int .i64 ((rd_T27 y308 x29_1).f0), .int .i64 ((rd_T27 y308 x29_1).f1), .int .i64 ((rd_T27 y308 x29_1).f2), .int .i64 ((rd_T27 y308 x29_1).f3.f0), .int .i64 ((rd_T27 y308 x29_1).f3.f1), .int .i64 ((rd_T27 y308 x29_1).f3.f2), .int .i64 ((rd_T27 y308 x29_1).f4.f0), .int .i64 ((rd_T27 y308 x29_1).f4.f1), .int .i64 0]) ?_ 8 _ rfl; (with_reducible repeat (first | refine blk_drewN ?_ _ | refine blk_drew ?_ | refine blk_alloc ?_ _)); refine blk_put (cs := #[.int .i64 ((rd_T27 y308 x29_1).f0), .int .i64 ((rd_T27 y308 x29_1).f1), .int .i64 ((rd_T27 y308 x29_1).f2), .int .i64 ((rd_T27 y308 x29_1).f3.f0), .int .i64 ((rd_T27 y308 x29_1).f3.f1), .int .i64 ((rd_T27 y308 x29_1).f3.f2), .int .i64 ((rd_T27 y308 x29_1).f4.f0), .int .i64 0, .int .i64 0]) ?_ 7 _ rfl; (with_reducible repeat (first | refine blk_drewN ?_ _ | refine blk_drew ?_ | refine blk_alloc ?_ _)); refine blk_put (cs := #[.int .i64 ((rd_T27 y308 x29_1).f0), .int .i64 ((rd_T27 y308 x29_1).f1), .int .i64 ((rd_T27 y308 x29_1).f2), .int .i64 ((rd_T27 y308 x29_1).f3.f0), .int .i64 ((rd_T27 y308 x29_1).f3.f1), .int .i64 ((rd_T27 y308 x29_1).f3.f2), .int .i64 0, .int .i64 0, .int .i64 0]) ?_ 6 _ rfl; (with_reducible repeat (first | refine blk_drewN ?_ _ | refine blk_drew ?_ | refine blk_alloc ?_ _)); refine blk_put (cs := #[.int .i64 ((rd_T27 y308 x29_1).f0), .int .i64 ((rd_T27 y308 x29_1).f1), .int .i64 ((rd_T27 y308 x29_1).f2), .int .i64 ((rd_T27 y308 x29_1).f3.f0), .int .i64 ((rd_T27 y308 x29_1).f3.f1), .int .i64 0, .int .i64 0, .int .i64 0, .int .i64 0]) ?_ 5 _ rfl; (with_reducible repeat (first | refine blk_drewN ?_ _ | refine blk_drew ?_ | refine blk_alloc ?_ _)); refine blk_put (cs := #[.int .i64 ((rd_T27 y308 x29_1).f0), .int .i64 ((rd_T27 y308 x29_1).f1), .int .i64 ((rd_T27 y308 x29_1).f2), .int .i64 ((rd_T27 y308 x29_1).f3.f0), .int .i64 0, .int .i64 0, .int .i64 0, .int .i64 0, .int .i64 0]) ?_ 4 _ rfl; (with_reducible repeat (first | refine blk_drewN ?_ _ | refine blk_drew ?_ | refine blk_alloc ?_ _)); refine blk_put (cs := #[.int .i64 ((rd_T27 y308 x29_1).f0), .int .i64 ((rd_T27 y308 x29_1).f1), .int .i64 ((rd_T27 y308 x29_1).f2), .int .i64 0, .int .i64 0, .int .i64 0, .int .i64 0, .int .i64 0, .int .i64 0]) ?_ 3 _ rfl; (with_reducible repeat (first | refine blk_drewN ?_ _ | refine blk_drew ?_ | refine blk_alloc ?_ _)); refine blk_put (cs := #[.int .i64 ((rd_T27 y308 x29_1).f0), .int .i64 ((rd_T27 y308 x29_1).f1), .int .i64 0, .int .i64 0, .int .i64 0, .int .i64 0, .int .i64 0, .int .i64 0, .int .i64 0]) ?_ 2 _ rfl; (with_reducible repeat (first | refine blk_drewN ?_ _ | refine blk_drew ?_ | refine blk_alloc ?_ _)); refine blk_put (cs := #[.int .i64 ((rd_T27 y308 x29_1).f0), .int .i64 0, .int .i64 0, .int .i64 0, .int .i64 0, .int .i64 0, .int .i64 0, .int .i64 0, .int .i64 0]) ?_ 1 _ rfl; (with_reducible repeat (first | refine blk_drewN ?_ _ | refine blk_drew ?_ | refine blk_alloc ?_ _)); refine blk_put (cs := #[.int .i64 0, .int .i64 0, .int .i64 0, .int .i64 0, .int .i64 0, .int .i64 0, .int .i64 0, .int .i64 0, .int .i64 0]) ?_ 0 _ rfl; (with_reducible repeat (first | refine blk_drewN ?_ _ | refine blk_drew ?_ | refine blk_alloc ?_ _)); exact BK313.out) hb); have n3_ := Aside0.mk (below_step (by repeat (first | (with_reducible first | exact HB.out | apply below_alloc | apply pw_below_drewN | apply below_drew1 | refine below_set ?_ GE313.out) | exact HB.out)) hb); clear HO_7; clear HO_8; clear BK313; clear HB; have HO_7 := n0_; have HO_8 := n1_; have BK313 := n2_; have HB := n3_; clear n0_ n1_ n2_ n3_; (try clear hb); (try clear hb2); (try clear hk); (try clear hi)) | ((with_reducible refine gate_builtin (b := .append) (xs := #[.tmp 42, .tmp 44]) rfl ?_); at_builtin; refine Kd.R_append (Kd.int .i64) (w0 := w) w.heap.size rfl (.tmp 42) (.tmp 44) 41 3 (.int .i64 0) 8 rfl Try.underlying41 info3 rfl (by decide) (by omega) u7 x7_1 t314 [.int .i64 t314] (fun _ => True) (fun _ => False) rfl rfl ?aP (fun _ hk => hk.elim) ?aF ?aO ?aB ?aS ?aL ?_; (case aP => exact rfl); (case aB => exact (by repeat (first | (with_reducible first | exact HB.out | apply below_alloc | apply pw_below_drewN | apply below_drew1 | refine below_set ?_ GE313.out) | exact HB.out))); (case aF => exact (fun _ _ => trivial)); (case aO => exact (by (with_reducible repeat (first | apply Kd.R_alloc | apply Kd.R_drewN | apply Kd.R_drew)); exact HO_7.out)); (case aS => exact (below_size (by repeat (first | (with_reducible first | exact HB.out | apply below_alloc | apply pw_below_drewN | apply below_drew1 | refine below_set ?_ GE313.out) | exact HB.out)))); (case aL => have := LMc13.out; omega); intro v317 w24 ho hb hg hat; rw [← Ny316.out] at ho; have n0_ := Aside0.mk (Kd.R_over' (by (with_reducible repeat (first | apply Kd.R_alloc | apply Kd.R_drewN | apply Kd.R_drew)); exact HO_8.out) (Kd.R_typed (by (with_reducible repeat (first | apply Kd.R_alloc | apply Kd.R_drewN | apply Kd.R_drew)); exact HO_7.out)) (by decide) hg); have n1_ := Aside0.mk (blk_grown (g := gb313) (o := .cells #[.int .i64 ((rd_T27 y308 x29_1).f0), .int .i64 ((rd_T27 y308 x29_1).f1), .int .i64 ((rd_T27 y308 x29_1).f2), .int .i64 ((rd_T27 y308 x29_1).f3.f0), .int .i64 ((rd_T27 y308 x29_1).f3.f1), .int .i64 ((rd_T27 y308 x29_1).f3.f2), .int .i64 ((rd_T27 y308 x29_1).f4.f0), .int .i64 ((rd_T27 y308 x29_1).f4.f1), .int .i64 ((rd_T27 y308 x29_1).f4.f2)] 27 (0, 0)) (by (with_reducible repeat (first | refine blk_drewN ?_ _ | refine blk_drew ?_ | refine blk_alloc ?_ _)); exact BK313.out) hg (Kd.R_ne HO_7.out BK313.out (by decide))); have n2_ := Aside0.mk (hb); have n3_ := Aside0.mk (ho); clear HO_8; clear BK313; clear HB; clear HO_7; have HO_8 := n0_; have BK313 := n1_; have HB := n2_; have HO318 := n3_; clear n0_ n1_ n2_ n3_; clear ho hb hg hat; have hcz25_0 : w24.cell? ⟨gb313, 0, none⟩ = some (.int .i64 ((rd_T27 y308 x29_1).f0)) := (blk_cell BK313.out 0).trans rfl; have hcz25_1 : w24.cell? ⟨gb313, 1, none⟩ = some (.int .i64 ((rd_T27 y308 x29_1).f1)) := (blk_cell BK313.out 1).trans rfl; have hcz25_2 : w24.cell? ⟨gb313, 2, none⟩ = some (.int .i64 ((rd_T27 y308 x29_1).f2)) := (blk_cell BK313.out 2).trans rfl; have hcz25_3 : w24.cell? ⟨gb313, 3, none⟩ = some (.int .i64 ((rd_T27 y308 x29_1).f3.f0)) := (blk_cell BK313.out 3).trans rfl; have hcz25_4 : w24.cell? ⟨gb313, 4, none⟩ = some (.int .i64 ((rd_T27 y308 x29_1).f3.f1)) := (blk_cell BK313.out 4).trans rfl; have hcz25_5 : w24.cell? ⟨gb313, 5, none⟩ = some (.int .i64 ((rd_T27 y308 x29_1).f3.f2)) := (blk_cell BK313.out 5).trans rfl; have hcz25_6 : w24.cell? ⟨gb313, 6, none⟩ = some (.int .i64 ((rd_T27 y308 x29_1).f4.f0)) := (blk_cell BK313.out 6).trans rfl; have hcz25_7 : w24.cell? ⟨gb313, 7, none⟩ = some (.int .i64 ((rd_T27 y308 x29_1).f4.f1)) := (blk_cell BK313.out 7).trans rfl; have hcz25_8 : w24.cell? ⟨gb313, 8, none⟩ = some (.int .i64 ((rd_T27 y308 x29_1).f4.f2)) := (blk_cell BK313.out 8).trans rfl; have hfz25_0 := blk_frozen BK313.out 0; have hfz25_1 := blk_frozen BK313.out 1; have hfz25_2 := blk_frozen BK313.out 2; have hfz25_3 := blk_frozen BK313.out 3; have hfz25_4 := blk_frozen BK313.out 4; have hfz25_5 := blk_frozen BK313.out 5; have hfz25_6 := blk_frozen BK313.out 6; have hfz25_7 := blk_frozen BK313.out 7; have hfz25_8 := blk_frozen BK313.out 8) | ((with_reducible refine gate_builtin (b := .append) (xs := #[.tmp 46, .tmp 54]) rfl ?_); at_builtin; refine Kd.R_append k53 (w0 := w) w.heap.size rfl (.tmp 46) (.tmp 54) 22 53 (.agg #[(.int .i64 0), (.int .i64 0), (.int .i64 0), (.int .i64 0), (.int .i64 0), (.int .i64 0), (.int .i64 0)]) 56 rfl Try.underlying22 info53 rfl (by decide) (by omega) u8 x8_1 (⟨(rd_T27 y308 x29_1).f2, 0, t314, wrap64 (t306 - t314), 0, 0, 0⟩ : S53) [.int .i64 ((rd_T27 y308 x29_1).f2), .int .i64 0, .int .i64 t314, .int .i64 (wrap64 (t306 - t314)), .int .i64 0, .int .i64 0, .int .i64 0] (fun _ => True) (fun _ => False) rfl rfl ?aP (fun _ hk => hk.elim) ?aF ?aO ?aB ?aS ?aL ?_; (case aP => exact k53_mkM _ _ _ (⟨(rd_T27 y308 x29_1).f2, 0, t314, wrap64 (t306 - t314), 0, 0, 0⟩ : S53)); (case aB => exact (by repeat (first | (with_reducible first | exact HB.out | apply below_alloc | apply pw_below_drewN | apply below_drew1 | refine below_set ?_ GE313.out) | exact HB.out))); (case aF => exact (fun _ _ => trivial)); (case aO => exact (by (with_reducible repeat (first | apply Kd.R_alloc | apply Kd.R_drewN | apply Kd.R_drew)); exact HO_8.out)); (case aS => exact (below_size (by repeat (first | (with_reducible first | exact HB.out | apply below_alloc | apply pw_below_drewN | apply below_drew1 | refine below_set ?_ GE313.out) | exact HB.out)))); (case aL => have := LMc14.out; omega); intro v320 w26 ho hb hg hat; rw [← Ny319.out] at ho; have n0_ := Aside0.mk (blk_grown (g := gb313) (o := .cells #[.int .i64 ((rd_T27 y308 x29_1).f0), .int .i64 ((rd_T27 y308 x29_1).f1), .int .i64 ((rd_T27 y308 x29_1).f2), .int .i64 ((rd_T27 y308 x29_1).f3.f0), .int .i64 ((rd_T27 y308 x29_1).f3.f1), .int .i64 ((rd_T27 y308 x29_1).f3.f2), .int .i64 ((rd_T27 y308 x29_1).f4.f0), .int .i64 ((rd_T27 y308 x29_1).f4.f1), .int .i64 ((rd_T27 y308 x29_1).f4.f2)] 27 (0, 0)) (by (with_reducible repeat (first | refine blk_drewN ?_ _ | refine blk_drew ?_ | refine blk_alloc ?_ _)); exact BK313.out) hg (Kd.R_ne HO_8.out BK313.out (by decide))); have n1_ := Aside0.mk (Kd.R_over' (by (with_reducible repeat (first | apply Kd.R_alloc | apply Kd.R_drewN | apply Kd.R_drew)); exact HO318.out) (Kd.R_typed (by (with_reducible repeat (first | apply Kd.R_alloc | apply Kd.R_drewN | apply Kd.R_drew)); exact HO_8.out)) (by decide) hg); have n2_ := Aside0.mk (hb); have n3_ := Aside0.mk (ho); clear BK313; clear HO318; clear HB; clear HO_8; have BK313 := n0_; have HO318 := n1_; have HB := n2_; have HO321 := n3_; clear n0_ n1_ n2_ n3_; clear ho hb hg hat; obtain ⟨Ao27, co27, eo27⟩ := Kd.R_slice HO318.out; subst eo27; have p322 : 0 ≤ ((ji16) : Int) := of_decide_eq_true (by first | (with_reducible assumption) | assumption); have q322 : (ji16) < (y316.length : Int) := of_decide_eq_true (by first | (with_reducible assumption) | assumption); obtain ⟨ad322, e322, hx322_0⟩ := Kd.at_int (Kd.R_reads' HO318.out).2.2 (ji16) p322 q322; cases e322; replace p322 := eq_true p322; replace q322 := eq_true q322; have p20 : 0 ≤ ((ji16) : Int) := of_decide_eq_true (by first | (with_reducible assumption) | assumption); have q20 : ((ji16) : Int) < ((y319.length : Int) : Int) := of_decide_eq_true (by first | (with_reducible assumption) | assumption); obtain ⟨go20, co20, eo20, gb20, gl20, cl20, HG20⟩ := Kd.R_form HO321.out (by omega); (first | cases eo20 | (injection eo20 with ea_ en_ ec_; (first | subst ea_ | (injection ea_ with ea_; subst ea_)); subst ec_; clear en_)); have GB20 := Aside0.mk gb20; have GG20 := Aside0.mk HG20; clear gb20 gl20 HG20; obtain ⟨ce20, hcl20, hM20, hcc20, hfr20⟩ := Kd.R_elem HO321.out z53 ((ji16) : Int) p20 q20; obtain rfl := k53_openM hM20; have hx20_0 : w26.cell? ⟨go20, ((ji16) : Int).toNat * 7, none⟩ = some (.int .i64 ((rd_T53 y319 (ji16)).f0)) := hcc20 0 _ rfl; have hx20_1 : w26.cell? ⟨go20, ((ji16) : Int).toNat * 7 + 1, none⟩ = some (.int .i64 ((rd_T53 y319 (ji16)).f1)) := hcc20 1 _ rfl; have hx20_2 : w26.cell? ⟨go20, ((ji16) : Int).toNat * 7 + 2, none⟩ = some (.int .i64 ((rd_T53 y319 (ji16)).f2)) := hcc20 2 _ rfl; have hx20_3 : w26.cell? ⟨go20, ((ji16) : Int).toNat * 7 + 3, none⟩ = some (.int .i64 ((rd_T53 y319 (ji16)).f3)) := hcc20 3 _ rfl; have hx20_4 : w26.cell? ⟨go20, ((ji16) : Int).toNat * 7 + 4, none⟩ = some (.int .i64 ((rd_T53 y319 (ji16)).f4)) := hcc20 4 _ rfl; have hx20_5 : w26.cell? ⟨go20, ((ji16) : Int).toNat * 7 + 5, none⟩ = some (.int .i64 ((rd_T53 y319 (ji16)).f5)) := hcc20 5 _ rfl; have hx20_6 : w26.cell? ⟨go20, ((ji16) : Int).toNat * 7 + 6, none⟩ = some (.int .i64 ((rd_T53 y319 (ji16)).f6)) := hcc20 6 _ rfl; have hf20_0 : w26.frozen? ⟨go20, ((ji16) : Int).toNat * 7, none⟩ = false := hfr20 0; have hf20_1 : w26.frozen? ⟨go20, ((ji16) : Int).toNat * 7 + 1, none⟩ = false := hfr20 1; have hf20_2 : w26.frozen? ⟨go20, ((ji16) : Int).toNat * 7 + 2, none⟩ = false := hfr20 2; have hf20_3 : w26.frozen? ⟨go20, ((ji16) : Int).toNat * 7 + 3, none⟩ = false := hfr20 3; have hf20_4 : w26.frozen? ⟨go20, ((ji16) : Int).toNat * 7 + 4, none⟩ = false := hfr20 4; have hf20_5 : w26.frozen? ⟨go20, ((ji16) : Int).toNat * 7 + 5, none⟩ = false := hfr20 5; have hf20_6 : w26.frozen? ⟨go20, ((ji16) : Int).toNat * 7 + 6, none⟩ = false := hfr20 6; clear hcl20 hcc20 hfr20 hM20; replace p20 := eq_true p20; replace q20 := eq_true q20; have HX28 := Aside0.mk (show Kd.R k53 53 w26 w.heap.size (fun _ => True) (.slice (some ⟨go20, 0, none⟩) y319.length co20) y319 from (by (with_reducible repeat (first | apply Kd.R_alloc | apply Kd.R_drewN | apply Kd.R_drew)); exact HO321.out)); obtain ⟨ce28, hcl28, hM28, hcc28, hfr28⟩ := Kd.R_elem HX28.out z53 ((ji16) : Int) (of_decide_eq_true (by first | (with_reducible assumption) | assumption)) (by have h_ : ((ji16) : Int) < ((y319.length : Int) : Int) := of_decide_eq_true (by first | (with_reducible assumption) | assumption); first | exact h_ | (have e_ := (Kd.R_reads' HO321.out).1; omega) | simpa using h_); obtain rfl := k53_openM hM28; have HP28 := Kd.R_seg HX28.out ((ji16) : Int) (of_decide_eq_true (by first | (with_reducible assumption) | assumption)) (by have h_ : ((ji16) : Int) < ((y319.length : Int) : Int) := of_decide_eq_true (by first | (with_reducible assumption) | assumption); first | exact h_ | (have e_ := (Kd.R_reads' HO321.out).1; omega) | simpa using h_) (seg := [.int .i64 (wrap64 (t314 - (rd y316 (ji16))))]) (j := 3) hcl28 hcc28 (show 4 ≤ 7 from by decide) (x' := (⟨(rd_T53 y319 (ji16)).f0, (rd_T53 y319 (ji16)).f1, (rd_T53 y319 (ji16)).f2, wrap64 (t314 - (rd y316 (ji16))), (rd_T53 y319 (ji16)).f4, (rd_T53 y319 (ji16)).f5, (rd_T53 y319 (ji16)).f6⟩ : S53)) (k53_mkM _ _ _ (⟨(rd_T53 y319 (ji16)).f0, (rd_T53 y319 (ji16)).f1, (rd_T53 y319 (ji16)).f2, wrap64 (t314 - (rd y316 (ji16))), (rd_T53 y319 (ji16)).f4, (rd_T53 y319 (ji16)).f5, (rd_T53 y319 (ji16)).f6⟩ : S53) ) (fun _ hk => hk); have hx28_3 := hcc28 3 _ rfl; (try simp only [show (k53).sz = 7 from rfl, Nat.mul_one, Nat.add_zero] at hx28_3); have hf28_3 := hfr28 3; (try simp only [show (k53).sz = 7 from rfl, Nat.mul_one, Nat.add_zero] at hf28_3); clear hcl28 hcc28 hfr28 hM28) | ((with_reducible refine gate_store (t := 3) (p := 69) rfl ?_); refine store_event (t := 3) (p := 69) (v := ?vo_w29) (w1 := (w26.setCell ⟨go20, ((ji16) : Int).toNat * 7 + 3, none⟩ (.int .i64 (wrap64 (t314 - (rd y316 (ji16))))))) ?hg ?ho ?hn ?hr ?_; (case ho => rfl); (case hg => rfl); (case hn => rfl); (case hr => first | (go_simp; done) | (go_simp; rfl)); intro w29 hw; have hg : w26.grownBy w29 (some go20) := (by rw [hw]; exact HP28.2); have hp_ : Kd.R k53 53 w29 w.heap.size (fun _ => True) (.slice (some ⟨go20, 0, none⟩) y319.length co20) y323 := (by rw [hw, Ny323.out]; exact HP28.1); clear HP28; have n0_ := Aside0.mk (blk_grown (g := gb313) (o := .cells #[.int .i64 ((rd_T27 y308 x29_1).f0), .int .i64 ((rd_T27 y308 x29_1).f1), .int .i64 ((rd_T27 y308 x29_1).f2), .int .i64 ((rd_T27 y308 x29_1).f3.f0), .int .i64 ((rd_T27 y308 x29_1).f3.f1), .int .i64 ((rd_T27 y308 x29_1).f3.f2), .int .i64 ((rd_T27 y308 x29_1).f4.f0), .int .i64 ((rd_T27 y308 x29_1).f4.f1), .int .i64 ((rd_T27 y308 x29_1).f4.f2)] 27 (0, 0)) (by (with_reducible repeat (first | refine blk_drewN ?_ _ | refine blk_drew ?_ | refine blk_alloc ?_ _)); exact BK313.out) hg (Kd.R_ne HO321.out BK313.out (by decide))); have n1_ := Aside0.mk (Kd.R_over' (v := (.slice (some ⟨go20, 0, none⟩) y319.length co20)) (by (with_reducible repeat (first | apply Kd.R_alloc | apply Kd.R_drewN | apply Kd.R_drew)); exact HO318.out) (Kd.R_typed HO321.out) (by decide) hg); have n2_ := Aside0.mk (hp_); have n3_ := Aside0.mk ((by rw [hw]; exact below_set (HB.out) GB20.out : Below w.heap.size w w29)); clear BK313; clear HO318; clear HO321; clear HB; have BK313 := n0_; have HO318 := n1_; have HO321 := n2_; have HB := n3_; clear n0_ n1_ n2_ n3_; clear hg hw hp_))
                             go_roundg k1
                             case measure => have := HK1.out; omega
                             case rel => exact ⟨(y316), (y323), (wrap64 (x29_1 + 1)), (by first | rfl | (simp; done) | (simp [*]; done)), H', ⟨by have := HK1.out; omega⟩, ⟨by (with_reducible repeat (first | apply Kd.R_alloc | apply Kd.R_drewN | apply Kd.R_drew)); exact HO318.out⟩, ⟨by (with_reducible repeat (first | apply Kd.R_alloc | apply Kd.R_drewN | apply Kd.R_drew)); exact HO321.out⟩, ⟨by repeat (first | (with_reducible first | exact HB.out | apply below_alloc | apply pw_below_drewN | apply below_drew1 | refine below_set ?_ GE313.out) | exact HB.out)⟩⟩
                           · rw [if_neg c19] at H
                             exact absurd H (by simp)
                         · rw [if_neg c18] at H
                           exact absurd H (by simp)
                       · rw [if_neg c17] at H
                         exact absurd H (by simp)
                     · rw [if_neg c15] at H
                       have c15b0 : decide (0 < x29_1) = false := decide_eq_false c15
                       clear c15
                       have H' := Aside0.mk H
                       clear H
                       have p312 : 0 ≤ (x29_1 : Int) := of_decide_eq_true (by first | (with_reducible assumption) | assumption)
                       have q312 : x29_1 < (y308.length : Int) := of_decide_eq_true (by first | (with_reducible assumption) | assumption)
                       obtain ⟨ad312, e312, hx312_0, hx312_1, hx312_2, hx312_3, hx312_4, hx312_5, hx312_6, hx312_7, hx312_8⟩ := at_T27 HR311.out x29_1 p312 q312
                       cases e312
                       replace hx312_0 := upc HB.out hx312_0
                       replace hx312_1 := upc HB.out hx312_1
                       replace hx312_2 := upc HB.out hx312_2
                       replace hx312_3 := upc HB.out hx312_3
                       replace hx312_4 := upc HB.out hx312_4
                       replace hx312_5 := upc HB.out hx312_5
                       replace hx312_6 := upc HB.out hx312_6
                       replace hx312_7 := upc HB.out hx312_7
                       replace hx312_8 := upc HB.out hx312_8
                       replace p312 := eq_true p312
                       replace q312 := eq_true q312
                       go_wp2_with (first | ((with_reducible refine gate_dst (N := 10) rfl ?_); refine box_event ?hg (N := 10) ?hd (cs := #[.int .i64 0, .int .i64 0, .int .i64 0, .int .i64 0, .int .i64 0, .int .i64 0, .int .i64 0, .int .i64 0, .int .i64 0]) (t := 27) ?hr ?_; (case hd => rfl); (case hg => rfl); (case hr => first | (go_simp; done) | (go_simp; rfl)); intro gb313 hg w30 hbox hb; have n0_ := Aside0.mk (Kd.R_below (by (with_reducible repeat (first | apply Kd.R_alloc | apply Kd.R_drewN | apply Kd.R_drew)); exact HO_7.out) hb); have n1_ := Aside0.mk (Kd.R_below (by (with_reducible repeat (first | apply Kd.R_alloc | apply Kd.R_drewN | apply Kd.R_drew)); exact HO_8.out) hb); have n2_ := Aside0.mk (below_step (by repeat (first | (with_reducible first | exact HB.out | apply below_alloc | apply pw_below_drewN | apply below_drew1) | exact HB.out)) hb); have n3_ := Aside0.mk (hbox); have n4_ := Aside0.mk ((by rw [hg]; exact (below_size (by repeat (first | (with_reducible first | exact HB.out | apply below_alloc | apply pw_below_drewN | apply below_drew1) | exact HB.out))) : w.heap.size ≤ gb313)); have n5_ := Aside0.mk ((by rw [hg]; exact (below_size (by repeat (first | (with_reducible first | exact HB.out | apply below_alloc | apply pw_below_drewN | apply below_drew1) | exact HB.out))) : w.heap.size ≤ gb313)); clear HO_7; clear HO_8; clear HB; have HO_7 := n0_; have HO_8 := n1_; have HB := n2_; have BK313 := n3_; have GW313 := n4_; have GE313 := n5_; clear n0_ n1_ n2_ n3_ n4_ n5_; clear hb hbox hg; have hcz31_0 : w30.cell? ⟨gb313, 0, none⟩ = some (.int .i64 0) := (blk_cell BK313.out 0).trans rfl; have hcz31_1 : w30.cell? ⟨gb313, 1, none⟩ = some (.int .i64 0) := (blk_cell BK313.out 1).trans rfl; have hcz31_2 : w30.cell? ⟨gb313, 2, none⟩ = some (.int .i64 0) := (blk_cell BK313.out 2).trans rfl; have hcz31_3 : w30.cell? ⟨gb313, 3, none⟩ = some (.int .i64 0) := (blk_cell BK313.out 3).trans rfl; have hcz31_4 : w30.cell? ⟨gb313, 4, none⟩ = some (.int .i64 0) := (blk_cell BK313.out 4).trans rfl; have hcz31_5 : w30.cell? ⟨gb313, 5, none⟩ = some (.int .i64 0) := (blk_cell BK313.out 5).trans rfl; have hcz31_6 : w30.cell? ⟨gb313, 6, none⟩ = some (.int .i64 0) := (blk_cell BK313.out 6).trans rfl; have hcz31_7 : w30.cell? ⟨gb313, 7, none⟩ = some (.int .i64 0) := (blk_cell BK313.out 7).trans rfl; have hcz31_8 : w30.cell? ⟨gb313, 8, none⟩ = some (.int .i64 0) := (blk_cell BK313.out 8).trans rfl; have hfz31_0 := blk_frozen BK313.out 0; have hfz31_1 := blk_frozen BK313.out 1; have hfz31_2 := blk_frozen BK313.out 2; have hfz31_3 := blk_frozen BK313.out 3; have hfz31_4 := blk_frozen BK313.out 4; have hfz31_5 := blk_frozen BK313.out 5; have hfz31_6 := blk_frozen BK313.out 6; have hfz31_7 := blk_frozen BK313.out 7; have hfz31_8 := blk_frozen BK313.out 8) | ((with_reducible refine gate_callee (f := 16) rfl ?_); refine goesL_ (some 37) rfl rfl Try.func16 (by kernel_rfl) rfl #[.agg #[.int .i64 ((rd_T27 y308 x29_1).f4.f0), .int .i64 ((rd_T27 y308 x29_1).f4.f1), .int .i64 ((rd_T27 y308 x29_1).f4.f2)]] rfl (by (try simp only [List.map_toArray, List.map_cons, List.map_nil]); first | done | rfl | (simp only [List.length_drop, List.length_take]; rfl)) ?_; (with_reducible refine (address_ToLBA.calls ((rd_T27 y308 x29_1).f4.f0) ((rd_T27 y308 x29_1).f4.f1) ((rd_T27 y308 x29_1).f4.f2) t314 t315 _ A11.out).mono ?_); rintro e w32 ⟨rfl, hb⟩; refine ⟨_, rfl, ?_⟩; have n0_ := Aside0.mk (Kd.R_below (by (with_reducible repeat (first | apply Kd.R_alloc | apply Kd.R_drewN | apply Kd.R_drew)); exact (Kd.R_mono (Kd.R_far (p := ⟨gb313, 8, none⟩) (Kd.R_far (p := ⟨gb313, 7, none⟩) (Kd.R_far (p := ⟨gb313, 6, none⟩) (Kd.R_far (p := ⟨gb313, 5, none⟩) (Kd.R_far (p := ⟨gb313, 4, none⟩) (Kd.R_far (p := ⟨gb313, 3, none⟩) (Kd.R_far (p := ⟨gb313, 2, none⟩) (Kd.R_far (p := ⟨gb313, 1, none⟩) (Kd.R_far (p := ⟨gb313, 0, none⟩) (Kd.R_types HO_7.out BK313.out (by decide)) (fun _ hk => hk.2) (.int .i64 ((rd_T27 y308 x29_1).f0))) (fun _ hk => hk.2) (.int .i64 ((rd_T27 y308 x29_1).f1))) (fun _ hk => hk.2) (.int .i64 ((rd_T27 y308 x29_1).f2))) (fun _ hk => hk.2) (.int .i64 ((rd_T27 y308 x29_1).f3.f0))) (fun _ hk => hk.2) (.int .i64 ((rd_T27 y308 x29_1).f3.f1))) (fun _ hk => hk.2) (.int .i64 ((rd_T27 y308 x29_1).f3.f2))) (fun _ hk => hk.2) (.int .i64 ((rd_T27 y308 x29_1).f4.f0))) (fun _ hk => hk.2) (.int .i64 ((rd_T27 y308 x29_1).f4.f1))) (fun _ hk => hk.2) (.int .i64 ((rd_T27 y308 x29_1).f4.f2))) (fun _ h_ => h_.1))) hb); have n1_ := Aside0.mk (Kd.R_below (by (with_reducible repeat (first | apply Kd.R_alloc | apply Kd.R_drewN | apply Kd.R_drew)); exact (Kd.R_mono (Kd.R_far (p := ⟨gb313, 8, none⟩) (Kd.R_far (p := ⟨gb313, 7, none⟩) (Kd.R_far (p := ⟨gb313, 6, none⟩) (Kd.R_far (p := ⟨gb313, 5, none⟩) (Kd.R_far (p := ⟨gb313, 4, none⟩) (Kd.R_far (p := ⟨gb313, 3, none⟩) (Kd.R_far (p := ⟨gb313, 2, none⟩) (Kd.R_far (p := ⟨gb313, 1, none⟩) (Kd.R_far (p := ⟨gb313, 0, none⟩) (Kd.R_types HO_8.out BK313.out (by decide)) (fun _ hk => hk.2) (.int .i64 ((rd_T27 y308 x29_1).f0))) (fun _ hk => hk.2) (.int .i64 ((rd_T27 y308 x29_1).f1))) (fun _ hk => hk.2) (.int .i64 ((rd_T27 y308 x29_1).f2))) (fun _ hk => hk.2) (.int .i64 ((rd_T27 y308 x29_1).f3.f0))) (fun _ hk => hk.2) (.int .i64 ((rd_T27 y308 x29_1).f3.f1))) (fun _ hk => hk.2) (.int .i64 ((rd_T27 y308 x29_1).f3.f2))) (fun _ hk => hk.2) (.int .i64 ((rd_T27 y308 x29_1).f4.f0))) (fun _ hk => hk.2) (.int .i64 ((rd_T27 y308 x29_1).f4.f1))) (fun _ hk => hk.2) (.int .i64 ((rd_T27 y308 x29_1).f4.f2))) (fun _ h_ => h_.1))) hb); have n2_ := Aside0.mk (blk_below (g := gb313) (o := .cells #[.int .i64 ((rd_T27 y308 x29_1).f0), .int .i64 ((rd_T27 y308 x29_1).f1), .int .i64 ((rd_T27 y308 x29_1).f2), .int .i64 ((rd_T27 y308 x29_1).f3.f0), .int .i64 ((rd_T27 y308 x29_1).f3.f1), .int .i64 ((rd_T27 y308 x29_1).f3.f2), .int .i64 ((rd_T27 y308 x29_1).f4.f0), .int .i64 ((rd_T27 y308 x29_1).f4.f1), .int .i64 ((rd_T27 y308 x29_1).f4.f2)] 27 (0, 0)) (by (with_reducible repeat (first | refine blk_drewN ?_ _ | refine blk_drew ?_ | refine blk_alloc ?_ _)); refine blk_put (cs := #[.int .i64 ((rd_T27 y308 x29_1).f0), .int .i64 ((rd_T27 y308 x29_1).f1), .int .i64 ((rd_T27 y308 x29_1).f2), .int .i64 ((rd_T27 y308 x29_1).f3.f0), .int .i64 ((rd_T27 y308 x29_1).f3.f1), .int .i64 ((rd_T27 y308 x29_1).f3.f2), .int .i64 ((rd_T27 y308 x29_1).f4.f0), .int .i64 ((rd_T27 y308 x29_1).f4.f1), .int .i64 0]) ?_ 8 _ rfl; (with_reducible repeat (first | refine blk_drewN ?_ _ | refine blk_drew ?_ | refine blk_alloc ?_ _)); refine blk_put (cs := #[.int .i64 ((rd_T27 y308 x29_1).f0), .int .i64 ((rd_T27 y308 x29_1).f1), .int .i64 ((rd_T27 y308 x29_1).f2), .int .i64 ((rd_T27 y308 x29_1).f3.f0), .int .i64 ((rd_T27 y308 x29_1).f3.f1), .int .i64 ((rd_T27 y308 x29_1).f3.f2), .int .i64 ((rd_T27 y308 x29_1).f4.f0), .int .i64 0, .int .i64 0]) ?_ 7 _ rfl; (with_reducible repeat (first | refine blk_drewN ?_ _ | refine blk_drew ?_ | refine blk_alloc ?_ _)); refine blk_put (cs := #[.int .i64 ((rd_T27 y308 x29_1).f0), .int .i64 ((rd_T27 y308 x29_1).f1), .int .i64 ((rd_T27 y308 x29_1).f2), .int .i64 ((rd_T27 y308 x29_1).f3.f0), .int .i64 ((rd_T27 y308 x29_1).f3.f1), .int .i64 ((rd_T27 y308 x29_1).f3.f2), .int .i64 0, .int .i64 0, .int .i64 0]) ?_ 6 _ rfl; (with_reducible repeat (first | refine blk_drewN ?_ _ | refine blk_drew ?_ | refine blk_alloc ?_ _)); refine blk_put (cs := #[.int .i64 ((rd_T27 y308 x29_1).f0), .int .i64 ((rd_T27 y308 x29_1).f1), .int .i64 ((rd_T27 y308 x29_1).f2), .int .i64 ((rd_T27 y308 x29_1).f3.f0), .int .i64 ((rd_T27 y308 x29_1).f3.f1), .int .i64 0, .int .i64 0, .int .i64 0, .int .i64 0]) ?_ 5 _ rfl; (with_reducible repeat (first | refine blk_drewN ?_ _ | refine blk_drew ?_ | refine blk_alloc ?_ _)); refine blk_put (cs := #[.int .i64 ((rd_T27 y308 x29_1).f0), .int .i64 ((rd_T27 y308 x29_1).f1), .int .i64 ((rd_T27 y308 x29_1).f2), .int .i64 ((rd_T27 y308 x29_1).f3.f0), .int .i64 0, .int .i64 0, .int .i64 0, .int .i64 0, .int .i64 0]) ?_ 4 _ rfl; (with_reducible repeat (first | refine blk_drewN ?_ _ | refine blk_drew ?_ | refine blk_alloc ?_ _)); refine blk_put (cs := #[.int .i64 ((rd_T27 y308 x29_1).f0), .int .i64 ((rd_T27 y308 x29_1).f1), .int .i64 ((rd_T27 y308 x29_1).f2), .int .i64 0, .int .i64 0, .int .i64 0, .int .i64 0, .int .i64 0, .int .i64 0]) ?_ 3 _ rfl; (with_reducible repeat (first | refine blk_drewN ?_ _ | refine blk_drew ?_ | refine blk_alloc ?_ _)); refine blk_put (cs := #[.int .i64 ((rd_T27 y308 x29_1).f0), .int .i64 ((rd_T27 y308 x29_1).f1), .int .i64 0, .int .i64 0, .int .i64 0, .int .i64 0, .int .i64 0, .int .i64 0, .int .i64 0]) ?_ 2 _ rfl; (with_reducible repeat (first | refine blk_drewN ?_ _ | refine blk_drew ?_ | refine blk_alloc ?_ _)); refine blk_put (cs := #[.int .i64 ((rd_T27 y308 x29_1).f0), .int .i64 0, .int .i64 0, .int .i64 0, .int .i64 0, .int .i64 0, .int .i64 0, .int .i64 0, .int .i64 0]) ?_ 1 _ rfl; (with_reducible repeat (first | refine blk_drewN ?_ _ | refine blk_drew ?_ | refine blk_alloc ?_ _)); refine blk_put (cs := #[.int .i64 0, .int .i64 0, .int .i64 0, .int .i64 0, .int .i64 0, .int .i64 0, .int .i64 0, .int .i64 0, .int .i64 0]) ?_ 0 _ rfl; (with_reducible repeat (first | refine blk_drewN ?_ _ | refine blk_drew ?_ | refine blk_alloc ?_ _)); exact BK313.out) hb); have n3_ := Aside0.mk (below_step (by repeat (first | (with_reducible first | exact HB.out | apply below_alloc | apply pw_below_drewN | apply below_drew1 | refine below_set ?_ GE313.out) | exact HB.out)) hb); clear HO_7; clear HO_8; clear BK313; clear HB; have HO_7 := n0_; have HO_8 := n1_; have BK313 := n2_; have HB := n3_; clear n0_ n1_ n2_ n3_; (try clear hb); (try clear hb2); (try clear hk); (try clear hi)) | ((with_reducible refine gate_builtin (b := .append) (xs := #[.tmp 42, .tmp 44]) rfl ?_); at_builtin; refine Kd.R_append (Kd.int .i64) (w0 := w) w.heap.size rfl (.tmp 42) (.tmp 44) 41 3 (.int .i64 0) 8 rfl Try.underlying41 info3 rfl (by decide) (by omega) u7 x7_1 t314 [.int .i64 t314] (fun _ => True) (fun _ => False) rfl rfl ?aP (fun _ hk => hk.elim) ?aF ?aO ?aB ?aS ?aL ?_; (case aP => exact rfl); (case aB => exact (by repeat (first | (with_reducible first | exact HB.out | apply below_alloc | apply pw_below_drewN | apply below_drew1 | refine below_set ?_ GE313.out) | exact HB.out))); (case aF => exact (fun _ _ => trivial)); (case aO => exact (by (with_reducible repeat (first | apply Kd.R_alloc | apply Kd.R_drewN | apply Kd.R_drew)); exact HO_7.out)); (case aS => exact (below_size (by repeat (first | (with_reducible first | exact HB.out | apply below_alloc | apply pw_below_drewN | apply below_drew1 | refine below_set ?_ GE313.out) | exact HB.out)))); (case aL => have := LMc13.out; omega); intro v317 w33 ho hb hg hat; rw [← Ny316.out] at ho; have n0_ := Aside0.mk (Kd.R_over' (by (with_reducible repeat (first | apply Kd.R_alloc | apply Kd.R_drewN | apply Kd.R_drew)); exact HO_8.out) (Kd.R_typed (by (with_reducible repeat (first | apply Kd.R_alloc | apply Kd.R_drewN | apply Kd.R_drew)); exact HO_7.out)) (by decide) hg); have n1_ := Aside0.mk (blk_grown (g := gb313) (o := .cells #[.int .i64 ((rd_T27 y308 x29_1).f0), .int .i64 ((rd_T27 y308 x29_1).f1), .int .i64 ((rd_T27 y308 x29_1).f2), .int .i64 ((rd_T27 y308 x29_1).f3.f0), .int .i64 ((rd_T27 y308 x29_1).f3.f1), .int .i64 ((rd_T27 y308 x29_1).f3.f2), .int .i64 ((rd_T27 y308 x29_1).f4.f0), .int .i64 ((rd_T27 y308 x29_1).f4.f1), .int .i64 ((rd_T27 y308 x29_1).f4.f2)] 27 (0, 0)) (by (with_reducible repeat (first | refine blk_drewN ?_ _ | refine blk_drew ?_ | refine blk_alloc ?_ _)); exact BK313.out) hg (Kd.R_ne HO_7.out BK313.out (by decide))); have n2_ := Aside0.mk (hb); have n3_ := Aside0.mk (ho); clear HO_8; clear BK313; clear HB; clear HO_7; have HO_8 := n0_; have BK313 := n1_; have HB := n2_; have HO318 := n3_; clear n0_ n1_ n2_ n3_; clear ho hb hg hat; have hcz34_0 : w33.cell? ⟨gb313, 0, none⟩ = some (.int .i64 ((rd_T27 y308 x29_1).f0)) := (blk_cell BK313.out 0).trans rfl; have hcz34_1 : w33.cell? ⟨gb313, 1, none⟩ = some (.int .i64 ((rd_T27 y308 x29_1).f1)) := (blk_cell BK313.out 1).trans rfl; have hcz34_2 : w33.cell? ⟨gb313, 2, none⟩ = some (.int .i64 ((rd_T27 y308 x29_1).f2)) := (blk_cell BK313.out 2).trans rfl; have hcz34_3 : w33.cell? ⟨gb313, 3, none⟩ = some (.int .i64 ((rd_T27 y308 x29_1).f3.f0)) := (blk_cell BK313.out 3).trans rfl; have hcz34_4 : w33.cell? ⟨gb313, 4, none⟩ = some (.int .i64 ((rd_T27 y308 x29_1).f3.f1)) := (blk_cell BK313.out 4).trans rfl; have hcz34_5 : w33.cell? ⟨gb313, 5, none⟩ = some (.int .i64 ((rd_T27 y308 x29_1).f3.f2)) := (blk_cell BK313.out 5).trans rfl; have hcz34_6 : w33.cell? ⟨gb313, 6, none⟩ = some (.int .i64 ((rd_T27 y308 x29_1).f4.f0)) := (blk_cell BK313.out 6).trans rfl; have hcz34_7 : w33.cell? ⟨gb313, 7, none⟩ = some (.int .i64 ((rd_T27 y308 x29_1).f4.f1)) := (blk_cell BK313.out 7).trans rfl; have hcz34_8 : w33.cell? ⟨gb313, 8, none⟩ = some (.int .i64 ((rd_T27 y308 x29_1).f4.f2)) := (blk_cell BK313.out 8).trans rfl; have hfz34_0 := blk_frozen BK313.out 0; have hfz34_1 := blk_frozen BK313.out 1; have hfz34_2 := blk_frozen BK313.out 2; have hfz34_3 := blk_frozen BK313.out 3; have hfz34_4 := blk_frozen BK313.out 4; have hfz34_5 := blk_frozen BK313.out 5; have hfz34_6 := blk_frozen BK313.out 6; have hfz34_7 := blk_frozen BK313.out 7; have hfz34_8 := blk_frozen BK313.out 8) | ((with_reducible refine gate_builtin (b := .append) (xs := #[.tmp 46, .tmp 54]) rfl ?_); at_builtin; refine Kd.R_append k53 (w0 := w) w.heap.size rfl (.tmp 46) (.tmp 54) 22 53 (.agg #[(.int .i64 0), (.int .i64 0), (.int .i64 0), (.int .i64 0), (.int .i64 0), (.int .i64 0), (.int .i64 0)]) 56 rfl Try.underlying22 info53 rfl (by decide) (by omega) u8 x8_1 (⟨(rd_T27 y308 x29_1).f2, 0, t314, wrap64 (t306 - t314), 0, 0, 0⟩ : S53) [.int .i64 ((rd_T27 y308 x29_1).f2), .int .i64 0, .int .i64 t314, .int .i64 (wrap64 (t306 - t314)), .int .i64 0, .int .i64 0, .int .i64 0] (fun _ => True) (fun _ => False) rfl rfl ?aP (fun _ hk => hk.elim) ?aF ?aO ?aB ?aS ?aL ?_; (case aP => exact k53_mkM _ _ _ (⟨(rd_T27 y308 x29_1).f2, 0, t314, wrap64 (t306 - t314), 0, 0, 0⟩ : S53)); (case aB => exact (by repeat (first | (with_reducible first | exact HB.out | apply below_alloc | apply pw_below_drewN | apply below_drew1 | refine below_set ?_ GE313.out) | exact HB.out))); (case aF => exact (fun _ _ => trivial)); (case aO => exact (by (with_reducible repeat (first | apply Kd.R_alloc | apply Kd.R_drewN | apply Kd.R_drew)); exact HO_8.out)); (case aS => exact (below_size (by repeat (first | (with_reducible first | exact HB.out | apply below_alloc | apply pw_below_drewN | apply below_drew1 | refine below_set ?_ GE313.out) | exact HB.out)))); (case aL => have := LMc14.out; omega); intro v320 w35 ho hb hg hat; rw [← Ny319.out] at ho; have n0_ := Aside0.mk (blk_grown (g := gb313) (o := .cells #[.int .i64 ((rd_T27 y308 x29_1).f0), .int .i64 ((rd_T27 y308 x29_1).f1), .int .i64 ((rd_T27 y308 x29_1).f2), .int .i64 ((rd_T27 y308 x29_1).f3.f0), .int .i64 ((rd_T27 y308 x29_1).f3.f1), .int .i64 ((rd_T27 y308 x29_1).f3.f2), .int .i64 ((rd_T27 y308 x29_1).f4.f0), .int .i64 ((rd_T27 y308 x29_1).f4.f1), .int .i64 ((rd_T27 y308 x29_1).f4.f2)] 27 (0, 0)) (by (with_reducible repeat (first | refine blk_drewN ?_ _ | refine blk_drew ?_ | refine blk_alloc ?_ _)); exact BK313.out) hg (Kd.R_ne HO_8.out BK313.out (by decide))); have n1_ := Aside0.mk (Kd.R_over' (by (with_reducible repeat (first | apply Kd.R_alloc | apply Kd.R_drewN | apply Kd.R_drew)); exact HO318.out) (Kd.R_typed (by (with_reducible repeat (first | apply Kd.R_alloc | apply Kd.R_drewN | apply Kd.R_drew)); exact HO_8.out)) (by decide) hg); have n2_ := Aside0.mk (hb); have n3_ := Aside0.mk (ho); clear BK313; clear HO318; clear HB; clear HO_8; have BK313 := n0_; have HO318 := n1_; have HB := n2_; have HO321 := n3_; clear n0_ n1_ n2_ n3_; clear ho hb hg hat))
                       go_roundg k1
                       case measure => have := HK1.out; omega
                       case rel => exact ⟨(y316), (y319), (wrap64 (x29_1 + 1)), (by first | rfl | (simp; done) | (simp [*]; done)), H', ⟨by have := HK1.out; omega⟩, ⟨by (with_reducible repeat (first | apply Kd.R_alloc | apply Kd.R_drewN | apply Kd.R_drew)); exact HO318.out⟩, ⟨by (with_reducible repeat (first | apply Kd.R_alloc | apply Kd.R_drewN | apply Kd.R_drew)); exact HO321.out⟩, ⟨by repeat (first | (with_reducible first | exact HB.out | apply below_alloc | apply pw_below_drewN | apply below_drew1 | refine below_set ?_ GE313.out) | exact HB.out)⟩⟩
                   · rw [if_neg c14] at H
                     exact absurd H (by simp)
                 · rw [if_neg c13] at H
                   exact absurd H (by simp)
               · rw [if_neg c12] at H
                 have c12b0 : (t315 == 0) = false := beq_eq_false_iff_ne.mpr c12
                 have c12b1 : (t315 != 0) = true := bne_iff_ne.mpr c12
                 simp only [Option.some.injEq, Prod.mk.injEq] at H
                 obtain ⟨rfl, rfl, rfl⟩ := H
                 have p312 : 0 ≤ (x29_1 : Int) := of_decide_eq_true (by first | (with_reducible assumption) | assumption)
                 have q312 : x29_1 < (y308.length : Int) := of_decide_eq_true (by first | (with_reducible assumption) | assumption)
                 obtain ⟨ad312, e312, hx312_0, hx312_1, hx312_2, hx312_3, hx312_4, hx312_5, hx312_6, hx312_7, hx312_8⟩ := at_T27 HR311.out x29_1 p312 q312
                 cases e312
                 replace hx312_0 := upc HB.out hx312_0
                 replace hx312_1 := upc HB.out hx312_1
                 replace hx312_2 := upc HB.out hx312_2
                 replace hx312_3 := upc HB.out hx312_3
                 replace hx312_4 := upc HB.out hx312_4
                 replace hx312_5 := upc HB.out hx312_5
                 replace hx312_6 := upc HB.out hx312_6
                 replace hx312_7 := upc HB.out hx312_7
                 replace hx312_8 := upc HB.out hx312_8
                 replace p312 := eq_true p312
                 replace q312 := eq_true q312
                 go_wp2_with (first | ((with_reducible refine gate_dst (N := 10) rfl ?_); refine box_event ?hg (N := 10) ?hd (cs := #[.int .i64 0, .int .i64 0, .int .i64 0, .int .i64 0, .int .i64 0, .int .i64 0, .int .i64 0, .int .i64 0, .int .i64 0]) (t := 27) ?hr ?_; (case hd => rfl); (case hg => rfl); (case hr => first | (go_simp; done) | (go_simp; rfl)); intro gb313 hg w36 hbox hb; have n0_ := Aside0.mk (Kd.R_below (by (with_reducible repeat (first | apply Kd.R_alloc | apply Kd.R_drewN | apply Kd.R_drew)); exact HO_7.out) hb); have n1_ := Aside0.mk (Kd.R_below (by (with_reducible repeat (first | apply Kd.R_alloc | apply Kd.R_drewN | apply Kd.R_drew)); exact HO_8.out) hb); have n2_ := Aside0.mk (below_step (by repeat (first | (with_reducible first | exact HB.out | apply below_alloc | apply pw_below_drewN | apply below_drew1) | exact HB.out)) hb); have n3_ := Aside0.mk (hbox); have n4_ := Aside0.mk ((by rw [hg]; exact (below_size (by repeat (first | (with_reducible first | exact HB.out | apply below_alloc | apply pw_below_drewN | apply below_drew1) | exact HB.out))) : w.heap.size ≤ gb313)); have n5_ := Aside0.mk ((by rw [hg]; exact (below_size (by repeat (first | (with_reducible first | exact HB.out | apply below_alloc | apply pw_below_drewN | apply below_drew1) | exact HB.out))) : w.heap.size ≤ gb313)); clear HO_7; clear HO_8; clear HB; have HO_7 := n0_; have HO_8 := n1_; have HB := n2_; have BK313 := n3_; have GW313 := n4_; have GE313 := n5_; clear n0_ n1_ n2_ n3_ n4_ n5_; clear hb hbox hg; have hcz37_0 : w36.cell? ⟨gb313, 0, none⟩ = some (.int .i64 0) := (blk_cell BK313.out 0).trans rfl; have hcz37_1 : w36.cell? ⟨gb313, 1, none⟩ = some (.int .i64 0) := (blk_cell BK313.out 1).trans rfl; have hcz37_2 : w36.cell? ⟨gb313, 2, none⟩ = some (.int .i64 0) := (blk_cell BK313.out 2).trans rfl; have hcz37_3 : w36.cell? ⟨gb313, 3, none⟩ = some (.int .i64 0) := (blk_cell BK313.out 3).trans rfl; have hcz37_4 : w36.cell? ⟨gb313, 4, none⟩ = some (.int .i64 0) := (blk_cell BK313.out 4).trans rfl; have hcz37_5 : w36.cell? ⟨gb313, 5, none⟩ = some (.int .i64 0) := (blk_cell BK313.out 5).trans rfl; have hcz37_6 : w36.cell? ⟨gb313, 6, none⟩ = some (.int .i64 0) := (blk_cell BK313.out 6).trans rfl; have hcz37_7 : w36.cell? ⟨gb313, 7, none⟩ = some (.int .i64 0) := (blk_cell BK313.out 7).trans rfl; have hcz37_8 : w36.cell? ⟨gb313, 8, none⟩ = some (.int .i64 0) := (blk_cell BK313.out 8).trans rfl; have hfz37_0 := blk_frozen BK313.out 0; have hfz37_1 := blk_frozen BK313.out 1; have hfz37_2 := blk_frozen BK313.out 2; have hfz37_3 := blk_frozen BK313.out 3; have hfz37_4 := blk_frozen BK313.out 4; have hfz37_5 := blk_frozen BK313.out 5; have hfz37_6 := blk_frozen BK313.out 6; have hfz37_7 := blk_frozen BK313.out 7; have hfz37_8 := blk_frozen BK313.out 8) | ((with_reducible refine gate_callee (f := 16) rfl ?_); refine goesL_ (some 37) rfl rfl Try.func16 (by kernel_rfl) rfl #[.agg #[.int .i64 ((rd_T27 y308 x29_1).f4.f0), .int .i64 ((rd_T27 y308 x29_1).f4.f1), .int .i64 ((rd_T27 y308 x29_1).f4.f2)]] rfl (by (try simp only [List.map_toArray, List.map_cons, List.map_nil]); first | done | rfl | (simp only [List.length_drop, List.length_take]; rfl)) ?_; (with_reducible refine (address_ToLBA.calls ((rd_T27 y308 x29_1).f4.f0) ((rd_T27 y308 x29_1).f4.f1) ((rd_T27 y308 x29_1).f4.f2) t314 t315 _ A11.out).mono ?_); rintro e w38 ⟨rfl, hb⟩; refine ⟨_, rfl, ?_⟩; have n0_ := Aside0.mk (Kd.R_below (by (with_reducible repeat (first | apply Kd.R_alloc | apply Kd.R_drewN | apply Kd.R_drew)); exact (Kd.R_mono (Kd.R_far (p := ⟨gb313, 8, none⟩) (Kd.R_far (p := ⟨gb313, 7, none⟩) (Kd.R_far (p := ⟨gb313, 6, none⟩) (Kd.R_far (p := ⟨gb313, 5, none⟩) (Kd.R_far (p := ⟨gb313, 4, none⟩) (Kd.R_far (p := ⟨gb313, 3, none⟩) (Kd.R_far (p := ⟨gb313, 2, none⟩) (Kd.R_far (p := ⟨gb313, 1, none⟩) (Kd.R_far (p := ⟨gb313, 0, none⟩) (Kd.R_types HO_7.out BK313.out (by decide)) (fun _ hk => hk.2) (.int .i64 ((rd_T27 y308 x29_1).f0))) (fun _ hk => hk.2) (.int .i64 ((rd_T27 y308 x29_1).f1))) (fun _ hk => hk.2) (.int .i64 ((rd_T27 y308 x29_1).f2))) (fun _ hk => hk.2) (.int .i64 ((rd_T27 y308 x29_1).f3.f0))) (fun _ hk => hk.2) (.int .i64 ((rd_T27 y308 x29_1).f3.f1))) (fun _ hk => hk.2) (.int .i64 ((rd_T27 y308 x29_1).f3.f2))) (fun _ hk => hk.2) (.int .i64 ((rd_T27 y308 x29_1).f4.f0))) (fun _ hk => hk.2) (.int .i64 ((rd_T27 y308 x29_1).f4.f1))) (fun _ hk => hk.2) (.int .i64 ((rd_T27 y308 x29_1).f4.f2))) (fun _ h_ => h_.1))) hb); have n1_ := Aside0.mk (Kd.R_below (by (with_reducible repeat (first | apply Kd.R_alloc | apply Kd.R_drewN | apply Kd.R_drew)); exact (Kd.R_mono (Kd.R_far (p := ⟨gb313, 8, none⟩) (Kd.R_far (p := ⟨gb313, 7, none⟩) (Kd.R_far (p := ⟨gb313, 6, none⟩) (Kd.R_far (p := ⟨gb313, 5, none⟩) (Kd.R_far (p := ⟨gb313, 4, none⟩) (Kd.R_far (p := ⟨gb313, 3, none⟩) (Kd.R_far (p := ⟨gb313, 2, none⟩) (Kd.R_far (p := ⟨gb313, 1, none⟩) (Kd.R_far (p := ⟨gb313, 0, none⟩) (Kd.R_types HO_8.out BK313.out (by decide)) (fun _ hk => hk.2) (.int .i64 ((rd_T27 y308 x29_1).f0))) (fun _ hk => hk.2) (.int .i64 ((rd_T27 y308 x29_1).f1))) (fun _ hk => hk.2) (.int .i64 ((rd_T27 y308 x29_1).f2))) (fun _ hk => hk.2) (.int .i64 ((rd_T27 y308 x29_1).f3.f0))) (fun _ hk => hk.2) (.int .i64 ((rd_T27 y308 x29_1).f3.f1))) (fun _ hk => hk.2) (.int .i64 ((rd_T27 y308 x29_1).f3.f2))) (fun _ hk => hk.2) (.int .i64 ((rd_T27 y308 x29_1).f4.f0))) (fun _ hk => hk.2) (.int .i64 ((rd_T27 y308 x29_1).f4.f1))) (fun _ hk => hk.2) (.int .i64 ((rd_T27 y308 x29_1).f4.f2))) (fun _ h_ => h_.1))) hb); have n2_ := Aside0.mk (blk_below (g := gb313) (o := .cells #[.int .i64 ((rd_T27 y308 x29_1).f0), .int .i64 ((rd_T27 y308 x29_1).f1), .int .i64 ((rd_T27 y308 x29_1).f2), .int .i64 ((rd_T27 y308 x29_1).f3.f0), .int .i64 ((rd_T27 y308 x29_1).f3.f1), .int .i64 ((rd_T27 y308 x29_1).f3.f2), .int .i64 ((rd_T27 y308 x29_1).f4.f0), .int .i64 ((rd_T27 y308 x29_1).f4.f1), .int .i64 ((rd_T27 y308 x29_1).f4.f2)] 27 (0, 0)) (by (with_reducible repeat (first | refine blk_drewN ?_ _ | refine blk_drew ?_ | refine blk_alloc ?_ _)); refine blk_put (cs := #[.int .i64 ((rd_T27 y308 x29_1).f0), .int .i64 ((rd_T27 y308 x29_1).f1), .int .i64 ((rd_T27 y308 x29_1).f2), .int .i64 ((rd_T27 y308 x29_1).f3.f0), .int .i64 ((rd_T27 y308 x29_1).f3.f1), .int .i64 ((rd_T27 y308 x29_1).f3.f2), .int .i64 ((rd_T27 y308 x29_1).f4.f0), .int .i64 ((rd_T27 y308 x29_1).f4.f1), .int .i64 0]) ?_ 8 _ rfl; (with_reducible repeat (first | refine blk_drewN ?_ _ | refine blk_drew ?_ | refine blk_alloc ?_ _)); refine blk_put (cs := #[.int .i64 ((rd_T27 y308 x29_1).f0), .int .i64 ((rd_T27 y308 x29_1).f1), .int .i64 ((rd_T27 y308 x29_1).f2), .int .i64 ((rd_T27 y308 x29_1).f3.f0), .int .i64 ((rd_T27 y308 x29_1).f3.f1), .int .i64 ((rd_T27 y308 x29_1).f3.f2), .int .i64 ((rd_T27 y308 x29_1).f4.f0), .int .i64 0, .int .i64 0]) ?_ 7 _ rfl; (with_reducible repeat (first | refine blk_drewN ?_ _ | refine blk_drew ?_ | refine blk_alloc ?_ _)); refine blk_put (cs := #[.int .i64 ((rd_T27 y308 x29_1).f0), .int .i64 ((rd_T27 y308 x29_1).f1), .int .i64 ((rd_T27 y308 x29_1).f2), .int .i64 ((rd_T27 y308 x29_1).f3.f0), .int .i64 ((rd_T27 y308 x29_1).f3.f1), .int .i64 ((rd_T27 y308 x29_1).f3.f2), .int .i64 0, .int .i64 0, .int .i64 0]) ?_ 6 _ rfl; (with_reducible repeat (first | refine blk_drewN ?_ _ | refine blk_drew ?_ | refine blk_alloc ?_ _)); refine blk_put (cs := #[.int .i64 ((rd_T27 y308 x29_1).f0), .int .i64 ((rd_T27 y308 x29_1).f1), .int .i64 ((rd_T27 y308 x29_1).f2), .int .i64 ((rd_T27 y308 x29_1).f3.f0), .int .i64 ((rd_T27 y308 x29_1).f3.f1), .int .i64 0, .int .i64 0, .int .i64 0, .int .i64 0]) ?_ 5 _ rfl; (with_reducible repeat (first | refine blk_drewN ?_ _ | refine blk_drew ?_ | refine blk_alloc ?_ _)); refine blk_put (cs := #[.int .i64 ((rd_T27 y308 x29_1).f0), .int .i64 ((rd_T27 y308 x29_1).f1), .int .i64 ((rd_T27 y308 x29_1).f2), .int .i64 ((rd_T27 y308 x29_1).f3.f0), .int .i64 0, .int .i64 0, .int .i64 0, .int .i64 0, .int .i64 0]) ?_ 4 _ rfl; (with_reducible repeat (first | refine blk_drewN ?_ _ | refine blk_drew ?_ | refine blk_alloc ?_ _)); refine blk_put (cs := #[.int .i64 ((rd_T27 y308 x29_1).f0), .int .i64 ((rd_T27 y308 x29_1).f1), .int .i64 ((rd_T27 y308 x29_1).f2), .int .i64 0, .int .i64 0, .int .i64 0, .int .i64 0, .int .i64 0, .int .i64 0]) ?_ 3 _ rfl; (with_reducible repeat (first | refine blk_drewN ?_ _ | refine blk_drew ?_ | refine blk_alloc ?_ _)); refine blk_put (cs := #[.int .i64 ((rd_T27 y308 x29_1).f0), .int .i64 ((rd_T27 y308 x29_1).f1), .int .i64 0, .int .i64 0, .int .i64 0, .int .i64 0, .int .i64 0, .int .i64 0, .int .i64 0]) ?_ 2 _ rfl; (with_reducible repeat (first | refine blk_drewN ?_ _ | refine blk_drew ?_ | refine blk_alloc ?_ _)); refine blk_put (cs := #[.int .i64 ((rd_T27 y308 x29_1).f0), .int .i64 0, .int .i64 0, .int .i64 0, .int .i64 0, .int .i64 0, .int .i64 0, .int .i64 0, .int .i64 0]) ?_ 1 _ rfl; (with_reducible repeat (first | refine blk_drewN ?_ _ | refine blk_drew ?_ | refine blk_alloc ?_ _)); refine blk_put (cs := #[.int .i64 0, .int .i64 0, .int .i64 0, .int .i64 0, .int .i64 0, .int .i64 0, .int .i64 0, .int .i64 0, .int .i64 0]) ?_ 0 _ rfl; (with_reducible repeat (first | refine blk_drewN ?_ _ | refine blk_drew ?_ | refine blk_alloc ?_ _)); exact BK313.out) hb); have n3_ := Aside0.mk (below_step (by repeat (first | (with_reducible first | exact HB.out | apply below_alloc | apply pw_below_drewN | apply below_drew1 | refine below_set ?_ GE313.out) | exact HB.out)) hb); clear HO_7; clear HO_8; clear BK313; clear HB; have HO_7 := n0_; have HO_8 := n1_; have BK313 := n2_; have HB := n3_; clear n0_ n1_ n2_ n3_; (try clear hb); (try clear hb2); (try clear hk); (try clear hi)))
                 go_ret3
                 exact ⟨_, by first | rfl | (simp [errW_none, errW_some] <;> rfl) | (simp [*, errW_none, errW_some] <;> rfl), by first | exact Kd.R_nil _ _ _ _ _ | exact Kd.N_nil _ _ _ _ _ | exact Kd.V_nil _ _ _ _ _ | exact Kd.Q_nil _ _ _ _ _ | exact Kd.S_nil _ _ _ _ _, by repeat (first | (with_reducible first | exact HB.out | apply below_alloc | apply pw_below_drewN | apply below_drew1 | refine below_set ?_ GE313.out) | exact HB.out)⟩
             · rw [if_neg c10] at H
               exact absurd H (by simp)
           · rw [if_neg c9] at H
             exact absurd H (by simp)
         · rw [if_neg c8] at H
           have c8b0 : decide (x29_1 < (y308.length : Int)) = false := decide_eq_false c8
           clear c8
           by_cases c39 : 0 < (l0.length : Int)
           · rw [if_pos c39] at H
             have c39b0 : decide (0 < (l0.length : Int)) = true := decide_eq_true c39
             have c39b1 : decide (0 < l0.length) = true := decide_eq_true (by omega)
             clear c39
             replace H := Option.bind_eq_some_iff.mp H
             obtain ⟨⟨t325, t326⟩, A400, H⟩ := H
             replace H : (if t326 = 0 then ((api_QFrame.f k1 t325 l0).bind fun t329 => (if t329 = true then (some (x7_1, t306, 0)) else (some (([] : List Int), 0, 10)))) else (some (([] : List Int), 0, 10))) = some (r1, r2, r3) := H
             have A40 := Aside0.mk A400
             clear A400
             by_cases c41 : t326 = 0
             · rw [if_pos c41] at H
               have c41b0 : (t326 == 0) = true := beq_iff_eq.mpr c41
               have c41b1 : (t326 != 0) = false := bne_eq_false_iff_eq.mpr c41
               clear c41
               replace H := Option.bind_eq_some_iff.mp H
               obtain ⟨t329, A420, H⟩ := H
               replace H : (if t329 = true then (some (x7_1, t306, 0)) else (some (([] : List Int), 0, 10))) = some (r1, r2, r3) := H
               have A42 := Aside0.mk A420
               clear A420
               by_cases c43 : t329 = true
               · subst c43
                 have H1 : (some (x7_1, t306, 0)) = some (r1, r2, r3) := by rw [if_pos rfl] at H; exact H
                 clear H
                 have H := H1
                 clear H1
                 simp only [Option.some.injEq, Prod.mk.injEq] at H
                 obtain ⟨rfl, rfl, rfl⟩ := H
                 have p324 : 0 ≤ (0 : Int) := (by omega)
                 have q324 : 0 < (l0.length : Int) := of_decide_eq_true (by first | (with_reducible assumption) | assumption)
                 obtain ⟨ad324, e324, hx324_0, hx324_1, hx324_2, hx324_3, hx324_4, hx324_5, hx324_6, hx324_7, hx324_8⟩ := at_T27 HR0.out 0 p324 q324
                 obtain rfl : ad305 = ad324 := (by injection e324)
                 have qi324 : (0 < l0.length) = True := eq_true (by omega)
                 (try rw [show ((0 : Int)).toNat = 0 from rfl] at hx324_0)
                 (try rw [show 0 * 9 = 0 from rfl] at hx324_0)
                 (try rw [Addr.add_zero'] at hx324_0)
                 (try rw [show ((0 : Int)).toNat = 0 from rfl] at hx324_1)
                 (try rw [show 0 * 9 = 0 from rfl] at hx324_1)
                 (try rw [Addr.add_zero'] at hx324_1)
                 (try rw [show ((0 : Int)).toNat = 0 from rfl] at hx324_2)
                 (try rw [show 0 * 9 = 0 from rfl] at hx324_2)
                 (try rw [Addr.add_zero'] at hx324_2)
                 (try rw [show ((0 : Int)).toNat = 0 from rfl] at hx324_3)
                 (try rw [show 0 * 9 = 0 from rfl] at hx324_3)
                 (try rw [Addr.add_zero'] at hx324_3)
                 (try rw [show ((0 : Int)).toNat = 0 from rfl] at hx324_4)
                 (try rw [show 0 * 9 = 0 from rfl] at hx324_4)
                 (try rw [Addr.add_zero'] at hx324_4)
                 (try rw [show ((0 : Int)).toNat = 0 from rfl] at hx324_5)
                 (try rw [show 0 * 9 = 0 from rfl] at hx324_5)
                 (try rw [Addr.add_zero'] at hx324_5)
                 (try rw [show ((0 : Int)).toNat = 0 from rfl] at hx324_6)
                 (try rw [show 0 * 9 = 0 from rfl] at hx324_6)
                 (try rw [Addr.add_zero'] at hx324_6)
                 (try rw [show ((0 : Int)).toNat = 0 from rfl] at hx324_7)
                 (try rw [show 0 * 9 = 0 from rfl] at hx324_7)
                 (try rw [Addr.add_zero'] at hx324_7)
                 (try rw [show ((0 : Int)).toNat = 0 from rfl] at hx324_8)
                 (try rw [show 0 * 9 = 0 from rfl] at hx324_8)
                 (try rw [Addr.add_zero'] at hx324_8)
                 replace hx324_0 := upc HB.out hx324_0
                 replace hx324_1 := upc HB.out hx324_1
                 replace hx324_2 := upc HB.out hx324_2
                 replace hx324_3 := upc HB.out hx324_3
                 replace hx324_4 := upc HB.out hx324_4
                 replace hx324_5 := upc HB.out hx324_5
                 replace hx324_6 := upc HB.out hx324_6
                 replace hx324_7 := upc HB.out hx324_7
                 replace hx324_8 := upc HB.out hx324_8
                 replace p324 := eq_true p324
                 replace q324 := eq_true q324
                 obtain ⟨Ao44, co44, eo44⟩ := Kd.R_slice HO_8.out
                 subst eo44
                 go_wp2_with (first | ((with_reducible refine gate_callee (f := 13) rfl ?_); refine goesL_ (some 77) rfl rfl Try.func13 (by kernel_rfl) rfl #[.slice Ao44 x8_1.length co44, .int .i64 ((rd_T27 l0 0).f0)] rfl (by (try simp only [List.map_toArray, List.map_cons, List.map_nil]); first | done | rfl | (simp only [List.length_drop, List.length_take]; rfl)) ?_; (with_reducible refine (subchannel_Entries.calls _ _ x8_1 ((rd_T27 l0 0).f0) t325 t326 _ ?side1 ?side2 A40.out).mono ?_); (case side1 => repeat (first | exact (Kd.R_reads' HO_8.out).2.2 | (with_reducible refine Kd.C_alloc ?_ _) | (with_reducible refine Kd.C_drewN ?_ _) | (with_reducible refine Kd.C_drew ?_))); (case side2 => exact (Kd.R_reads' HO_8.out).2.1); rintro e w45 ⟨v327, rfl, ho0, hb⟩; refine ⟨_, rfl, ?_⟩; have n0_ := Aside0.mk (Kd.R_below (by (with_reducible repeat (first | apply Kd.R_alloc | apply Kd.R_drewN | apply Kd.R_drew)); exact HO_7.out) hb); have n1_ := Aside0.mk (Kd.R_below (by (with_reducible repeat (first | apply Kd.R_alloc | apply Kd.R_drewN | apply Kd.R_drew)); exact HO_8.out) hb); have n2_ := Aside0.mk (Kd.R_lower ho0 (below_size (by repeat (first | (with_reducible first | exact HB.out | apply below_alloc | apply pw_below_drewN | apply below_drew1) | exact HB.out)))); have n3_ := Aside0.mk (below_step (by repeat (first | (with_reducible first | exact HB.out | apply below_alloc | apply pw_below_drewN | apply below_drew1) | exact HB.out)) hb); clear HO_7; clear HO_8; clear HB; have HO_7 := n0_; have HO_8 := n1_; have HO328 := n2_; have HB := n3_; clear n0_ n1_ n2_ n3_; (try clear hb); (try clear hb2); (try clear hk); (try clear hi); (try clear ho0); obtain ⟨Ao46, co46, eo46⟩ := Kd.R_slice HO328.out; subst eo46) | (go_at_call 44; (with_reducible refine (api_QFrame.calls k1 _ _ t325 _ _ l0 true _ ?side1 ?side2 ?side3 ?side4 A42.out).mono ?_); (case side1 => repeat (first | exact (Kd.R_reads' HO328.out).2.2 | (with_reducible refine Kd.C_alloc ?_ _) | (with_reducible refine Kd.C_drewN ?_ _) | (with_reducible refine Kd.C_drew ?_))); (case side2 => exact (Kd.R_reads' HO328.out).2.1); (case side3 => repeat (first | exact (Kd.C_below HR0.out HB.out) | (with_reducible refine Kd.C_alloc ?_ _) | (with_reducible refine Kd.C_drewN ?_ _) | (with_reducible refine Kd.C_drew ?_))); (case side4 => exact HC0.out); rintro e w' ⟨rfl, ⟨nd, rfl⟩⟩))
                 go_ret3
                 exact ⟨_, by first | rfl | (simp [errW_none, errW_some] <;> rfl) | (simp [*, errW_none, errW_some] <;> rfl), by (with_reducible repeat (first | apply Kd.R_alloc | apply Kd.R_drewN | apply Kd.R_drew)); exact HO_7.out, by repeat (first | (with_reducible first | exact HB.out | apply below_alloc | apply pw_below_drewN | apply below_drew1) | exact HB.out)⟩
               · replace c43 := Bool.eq_false_iff.mpr c43
                 subst c43
                 have H1 : (some (([] : List Int), 0, 10)) = some (r1, r2, r3) := by rw [if_neg (show ¬ (false = true) by decide)] at H; exact H
                 clear H
                 have H := H1
                 clear H1
                 simp only [Option.some.injEq, Prod.mk.injEq] at H
                 obtain ⟨rfl, rfl, rfl⟩ := H
                 have p324 : 0 ≤ (0 : Int) := (by omega)
                 have q324 : 0 < (l0.length : Int) := of_decide_eq_true (by first | (with_reducible assumption) | assumption)
                 obtain ⟨ad324, e324, hx324_0, hx324_1, hx324_2, hx324_3, hx324_4, hx324_5, hx324_6, hx324_7, hx324_8⟩ := at_T27 HR0.out 0 p324 q324
                 obtain rfl : ad305 = ad324 := (by injection e324)
                 have qi324 : (0 < l0.length) = True := eq_true (by omega)
                 (try rw [show ((0 : Int)).toNat = 0 from rfl] at hx324_0)
                 (try rw [show 0 * 9 = 0 from rfl] at hx324_0)
                 (try rw [Addr.add_zero'] at hx324_0)
                 (try rw [show ((0 : Int)).toNat = 0 from rfl] at hx324_1)
                 (try rw [show 0 * 9 = 0 from rfl] at hx324_1)
                 (try rw [Addr.add_zero'] at hx324_1)
                 (try rw [show ((0 : Int)).toNat = 0 from rfl] at hx324_2)
                 (try rw [show 0 * 9 = 0 from rfl] at hx324_2)
                 (try rw [Addr.add_zero'] at hx324_2)
                 (try rw [show ((0 : Int)).toNat = 0 from rfl] at hx324_3)
                 (try rw [show 0 * 9 = 0 from rfl] at hx324_3)
                 (try rw [Addr.add_zero'] at hx324_3)
                 (try rw [show ((0 : Int)).toNat = 0 from rfl] at hx324_4)
                 (try rw [show 0 * 9 = 0 from rfl] at hx324_4)
                 (try rw [Addr.add_zero'] at hx324_4)
                 (try rw [show ((0 : Int)).toNat = 0 from rfl] at hx324_5)
                 (try rw [show 0 * 9 = 0 from rfl] at hx324_5)
                 (try rw [Addr.add_zero'] at hx324_5)
                 (try rw [show ((0 : Int)).toNat = 0 from rfl] at hx324_6)
                 (try rw [show 0 * 9 = 0 from rfl] at hx324_6)
                 (try rw [Addr.add_zero'] at hx324_6)
                 (try rw [show ((0 : Int)).toNat = 0 from rfl] at hx324_7)
                 (try rw [show 0 * 9 = 0 from rfl] at hx324_7)
                 (try rw [Addr.add_zero'] at hx324_7)
                 (try rw [show ((0 : Int)).toNat = 0 from rfl] at hx324_8)
                 (try rw [show 0 * 9 = 0 from rfl] at hx324_8)
                 (try rw [Addr.add_zero'] at hx324_8)
                 replace hx324_0 := upc HB.out hx324_0
                 replace hx324_1 := upc HB.out hx324_1
                 replace hx324_2 := upc HB.out hx324_2
                 replace hx324_3 := upc HB.out hx324_3
                 replace hx324_4 := upc HB.out hx324_4
                 replace hx324_5 := upc HB.out hx324_5
                 replace hx324_6 := upc HB.out hx324_6
                 replace hx324_7 := upc HB.out hx324_7
                 replace hx324_8 := upc HB.out hx324_8
                 replace p324 := eq_true p324
                 replace q324 := eq_true q324
                 obtain ⟨Ao47, co47, eo47⟩ := Kd.R_slice HO_8.out
                 subst eo47
                 go_wp2_with (first | ((with_reducible refine gate_callee (f := 13) rfl ?_); refine goesL_ (some 77) rfl rfl Try.func13 (by kernel_rfl) rfl #[.slice Ao47 x8_1.length co47, .int .i64 ((rd_T27 l0 0).f0)] rfl (by (try simp only [List.map_toArray, List.map_cons, List.map_nil]); first | done | rfl | (simp only [List.length_drop, List.length_take]; rfl)) ?_; (with_reducible refine (subchannel_Entries.calls _ _ x8_1 ((rd_T27 l0 0).f0) t325 t326 _ ?side1 ?side2 A40.out).mono ?_); (case side1 => repeat (first | exact (Kd.R_reads' HO_8.out).2.2 | (with_reducible refine Kd.C_alloc ?_ _) | (with_reducible refine Kd.C_drewN ?_ _) | (with_reducible refine Kd.C_drew ?_))); (case side2 => exact (Kd.R_reads' HO_8.out).2.1); rintro e w48 ⟨v327, rfl, ho0, hb⟩; refine ⟨_, rfl, ?_⟩; have n0_ := Aside0.mk (Kd.R_below (by (with_reducible repeat (first | apply Kd.R_alloc | apply Kd.R_drewN | apply Kd.R_drew)); exact HO_7.out) hb); have n1_ := Aside0.mk (Kd.R_below (by (with_reducible repeat (first | apply Kd.R_alloc | apply Kd.R_drewN | apply Kd.R_drew)); exact HO_8.out) hb); have n2_ := Aside0.mk (Kd.R_lower ho0 (below_size (by repeat (first | (with_reducible first | exact HB.out | apply below_alloc | apply pw_below_drewN | apply below_drew1) | exact HB.out)))); have n3_ := Aside0.mk (below_step (by repeat (first | (with_reducible first | exact HB.out | apply below_alloc | apply pw_below_drewN | apply below_drew1) | exact HB.out)) hb); clear HO_7; clear HO_8; clear HB; have HO_7 := n0_; have HO_8 := n1_; have HO328 := n2_; have HB := n3_; clear n0_ n1_ n2_ n3_; (try clear hb); (try clear hb2); (try clear hk); (try clear hi); (try clear ho0); obtain ⟨Ao49, co49, eo49⟩ := Kd.R_slice HO328.out; subst eo49) | (go_at_call 44; (with_reducible refine (api_QFrame.calls k1 _ _ t325 _ _ l0 false _ ?side1 ?side2 ?side3 ?side4 A42.out).mono ?_); (case side1 => repeat (first | exact (Kd.R_reads' HO328.out).2.2 | (with_reducible refine Kd.C_alloc ?_ _) | (with_reducible refine Kd.C_drewN ?_ _) | (with_reducible refine Kd.C_drew ?_))); (case side2 => exact (Kd.R_reads' HO328.out).2.1); (case side3 => repeat (first | exact (Kd.C_below HR0.out HB.out) | (with_reducible refine Kd.C_alloc ?_ _) | (with_reducible refine Kd.C_drewN ?_ _) | (with_reducible refine Kd.C_drew ?_))); (case side4 => exact HC0.out); rintro e w' ⟨rfl, ⟨nd, rfl⟩⟩))
                 go_ret3
                 exact ⟨_, by first | rfl | (simp [errW_none, errW_some] <;> rfl) | (simp [*, errW_none, errW_some] <;> rfl), by first | exact Kd.R_nil _ _ _ _ _ | exact Kd.N_nil _ _ _ _ _ | exact Kd.V_nil _ _ _ _ _ | exact Kd.Q_nil _ _ _ _ _ | exact Kd.S_nil _ _ _ _ _, by repeat (first | (with_reducible first | exact HB.out | apply below_alloc | apply pw_below_drewN | apply below_drew1) | exact HB.out)⟩
             · rw [if_neg c41] at H
               have c41b0 : (t326 == 0) = false := beq_eq_false_iff_ne.mpr c41
               have c41b1 : (t326 != 0) = true := bne_iff_ne.mpr c41
               simp only [Option.some.injEq, Prod.mk.injEq] at H
               obtain ⟨rfl, rfl, rfl⟩ := H
               have p324 : 0 ≤ (0 : Int) := (by omega)
               have q324 : 0 < (l0.length : Int) := of_decide_eq_true (by first | (with_reducible assumption) | assumption)
               obtain ⟨ad324, e324, hx324_0, hx324_1, hx324_2, hx324_3, hx324_4, hx324_5, hx324_6, hx324_7, hx324_8⟩ := at_T27 HR0.out 0 p324 q324
               obtain rfl : ad305 = ad324 := (by injection e324)
               have qi324 : (0 < l0.length) = True := eq_true (by omega)
               (try rw [show ((0 : Int)).toNat = 0 from rfl] at hx324_0)
               (try rw [show 0 * 9 = 0 from rfl] at hx324_0)
               (try rw [Addr.add_zero'] at hx324_0)
               (try rw [show ((0 : Int)).toNat = 0 from rfl] at hx324_1)
               (try rw [show 0 * 9 = 0 from rfl] at hx324_1)
               (try rw [Addr.add_zero'] at hx324_1)
               (try rw [show ((0 : Int)).toNat = 0 from rfl] at hx324_2)
               (try rw [show 0 * 9 = 0 from rfl] at hx324_2)
               (try rw [Addr.add_zero'] at hx324_2)
               (try rw [show ((0 : Int)).toNat = 0 from rfl] at hx324_3)
               (try rw [show 0 * 9 = 0 from rfl] at hx324_3)
               (try rw [Addr.add_zero'] at hx324_3)
               (try rw [show ((0 : Int)).toNat = 0 from rfl] at hx324_4)
               (try rw [show 0 * 9 = 0 from rfl] at hx324_4)
               (try rw [Addr.add_zero'] at hx324_4)
               (try rw [show ((0 : Int)).toNat = 0 from rfl] at hx324_5)
               (try rw [show 0 * 9 = 0 from rfl] at hx324_5)
               (try rw [Addr.add_zero'] at hx324_5)
               (try rw [show ((0 : Int)).toNat = 0 from rfl] at hx324_6)
               (try rw [show 0 * 9 = 0 from rfl] at hx324_6)
               (try rw [Addr.add_zero'] at hx324_6)
               (try rw [show ((0 : Int)).toNat = 0 from rfl] at hx324_7)
               (try rw [show 0 * 9 = 0 from rfl] at hx324_7)
               (try rw [Addr.add_zero'] at hx324_7)
               (try rw [show ((0 : Int)).toNat = 0 from rfl] at hx324_8)
               (try rw [show 0 * 9 = 0 from rfl] at hx324_8)
               (try rw [Addr.add_zero'] at hx324_8)
               replace hx324_0 := upc HB.out hx324_0
               replace hx324_1 := upc HB.out hx324_1
               replace hx324_2 := upc HB.out hx324_2
               replace hx324_3 := upc HB.out hx324_3
               replace hx324_4 := upc HB.out hx324_4
               replace hx324_5 := upc HB.out hx324_5
               replace hx324_6 := upc HB.out hx324_6
               replace hx324_7 := upc HB.out hx324_7
               replace hx324_8 := upc HB.out hx324_8
               replace p324 := eq_true p324
               replace q324 := eq_true q324
               obtain ⟨Ao50, co50, eo50⟩ := Kd.R_slice HO_8.out
               subst eo50
               go_wp2_with (first | ((with_reducible refine gate_callee (f := 13) rfl ?_); refine goesL_ (some 77) rfl rfl Try.func13 (by kernel_rfl) rfl #[.slice Ao50 x8_1.length co50, .int .i64 ((rd_T27 l0 0).f0)] rfl (by (try simp only [List.map_toArray, List.map_cons, List.map_nil]); first | done | rfl | (simp only [List.length_drop, List.length_take]; rfl)) ?_; (with_reducible refine (subchannel_Entries.calls _ _ x8_1 ((rd_T27 l0 0).f0) t325 t326 _ ?side1 ?side2 A40.out).mono ?_); (case side1 => repeat (first | exact (Kd.R_reads' HO_8.out).2.2 | (with_reducible refine Kd.C_alloc ?_ _) | (with_reducible refine Kd.C_drewN ?_ _) | (with_reducible refine Kd.C_drew ?_))); (case side2 => exact (Kd.R_reads' HO_8.out).2.1); rintro e w51 ⟨v327, rfl, ho0, hb⟩; refine ⟨_, rfl, ?_⟩; have n0_ := Aside0.mk (Kd.R_below (by (with_reducible repeat (first | apply Kd.R_alloc | apply Kd.R_drewN | apply Kd.R_drew)); exact HO_7.out) hb); have n1_ := Aside0.mk (Kd.R_below (by (with_reducible repeat (first | apply Kd.R_alloc | apply Kd.R_drewN | apply Kd.R_drew)); exact HO_8.out) hb); have n2_ := Aside0.mk (Kd.R_lower ho0 (below_size (by repeat (first | (with_reducible first | exact HB.out | apply below_alloc | apply pw_below_drewN | apply below_drew1) | exact HB.out)))); have n3_ := Aside0.mk (below_step (by repeat (first | (with_reducible first | exact HB.out | apply below_alloc | apply pw_below_drewN | apply below_drew1) | exact HB.out)) hb); clear HO_7; clear HO_8; clear HB; have HO_7 := n0_; have HO_8 := n1_; have HO328 := n2_; have HB := n3_; clear n0_ n1_ n2_ n3_; (try clear hb); (try clear hb2); (try clear hk); (try clear hi); (try clear ho0)))
               go_ret3
               exact ⟨_, by first | rfl | (simp [errW_none, errW_some] <;> rfl) | (simp [*, errW_none, errW_some] <;> rfl), by first | exact Kd.R_nil _ _ _ _ _ | exact Kd.N_nil _ _ _ _ _ | exact Kd.V_nil _ _ _ _ _ | exact Kd.Q_nil _ _ _ _ _ | exact Kd.S_nil _ _ _ _ _, by repeat (first | (with_reducible first | exact HB.out | apply below_alloc | apply pw_below_drewN | apply below_drew1) | exact HB.out)⟩
           · rw [if_neg c39] at H
             exact absurd H (by simp)
     · rw [if_neg c5] at H
       exact absurd H (by simp)
   · rw [if_neg c3] at H
     exact absurd H (by simp)
end Go.Proofs.Ytpmkibggmkibeaa.G
namespace Go.Proofs.Ytpmkibggmkibeaa.G
open Go.RowKit Go.Proofs.YtpmkibggmkibeaaW.PrintWords Go.Proofs.YtpmkibggmkibeaaW.PrintLast Go.Proofs.YtpmkibggmkibeaaW.PrintMore
set_option linter.unusedVariables false
def lbaV (q : S25) : Int := if msfB q.f0 q.f1 q.f2 = true then (60 * q.f0 + q.f1) * 75 + q.f2 - 150 else 0
theorem lbaV_range (q : S25) : -150 ≤ lbaV q ∧ lbaV q ≤ 449849 := by
 unfold lbaV
 split
 · rename_i h
   simp only [msfB, decide_eq_true_eq] at h
   omega
 · omega
theorem toLBA_any (q : S25) : address_ToLBA.f q.f0 q.f1 q.f2 = some (lbaV q, if msfB q.f0 q.f1 q.f2 = true then 0 else 1) := by
 unfold address_ToLBA.f lbaV address_Valid.f
 simp only [Option.bind_some]
 by_cases h : msfB q.f0 q.f1 q.f2 = true
 · rw [if_pos h, if_pos h, if_pos h]
   simp only [msfB, decide_eq_true_eq] at h
   rw [number_any (by omega) (by omega) (by omega) (by omega) (by omega) (by omega)]
   simp only [Option.bind_some]
   rw [show wrap64 ((60 * q.f0 + q.f1) * 75 + q.f2 - 150) = (60 * q.f0 + q.f1) * 75 + q.f2 - 150 by unfold wrap64; omega]
 · rw [if_neg h, if_neg h, if_neg h]
theorem lbaV_msf {n : Int} (h0 : -150 ≤ n) (h1 : n ≤ 449849) : lbaV ⟨msfM n, msfS n, msfF n⟩ = n ∧ msfB (msfM n) (msfS n) (msfF n) = true := by
 have hv : msfB (msfM n) (msfS n) (msfF n) = true := Option.some.inj (msf_valid h0 h1)
 refine ⟨?_, hv⟩
 unfold lbaV
 dsimp only
 rw [if_pos hv, msf_num]
 omega
def stL (l : List (S27)) (i : Nat) : Int := lbaV (rd_T27 l (((i + 3 : Nat)) : Int)).f4
def okL (l : List (S27)) (i : Nat) : Bool := msfB (rd_T27 l (((i + 3 : Nat)) : Int)).f4.f0 (rd_T27 l (((i + 3 : Nat)) : Int)).f4.f1 (rd_T27 l (((i + 3 : Nat)) : Int)).f4.f2
def ptL (l : List (S27)) (i : Nat) : Int := (rd_T27 l (((i + 3 : Nat)) : Int)).f2
def outL (l : List (S27)) : Int := lbaV (rd_T27 l 2).f4
def ctL (l : List (S27)) : Int := (rd_T27 l 0).f0
theorem stL_range (l : List (S27)) (i : Nat) : -150 ≤ stL l i ∧ stL l i ≤ 449849 := lbaV_range _
theorem outL_range (l : List (S27)) : -150 ≤ outL l ∧ outL l ≤ 449849 := lbaV_range _
def nxL (l : List (S27)) (n j : Nat) : Int := if j + 1 < n then stL l (j + 1) else outL l
def ttL (l : List (S27)) (num : Nat → Int) (n : Nat) : List (S53) := (List.range n).map fun j => ⟨num j, 0, stL l j, nxL l n j - stL l j, 0, 0, 0⟩
def spL (l : List (S27)) (n : Nat) : List Int := (List.range n).map (stL l)
def tbL (l : List (S27)) (n : Nat) : List (S53) := (List.range n).map fun j => ⟨ptL l j, 0, stL l j, stL l (j + 1) - stL l j, 0, 0, 0⟩
def laL (l : List (S27)) (j : Nat) : S53 := ⟨ptL l j, 0, stL l j, outL l - stL l j, 0, 0, 0⟩
theorem ttL_succ (l : List (S27)) (m : Nat) : ttL l (ptL l) (m + 1) = tbL l m ++ [laL l m] := by
 unfold ttL tbL laL
 rw [List.range_succ, List.map_append]
 congr 1
 · apply List.map_congr_left
   intro j hj
   have : j < m := List.mem_range.mp hj
   unfold nxL
   rw [if_pos (by omega)]
 · simp [nxL]
theorem tbL_succ (l : List (S27)) (m : Nat) : tbL l (m + 1) = tbL l m ++ [⟨ptL l m, 0, stL l m, stL l (m + 1) - stL l m, 0, 0, 0⟩] := by
 unfold tbL
 rw [List.range_succ, List.map_append]
 rfl
theorem spL_succ (l : List (S27)) (m : Nat) : spL l (m + 1) = spL l m ++ [stL l m] := by
 unfold spL
 rw [List.range_succ, List.map_append]
 rfl
theorem spL_length (l : List (S27)) (m : Nat) : (spL l m).length = m := by simp [spL]
theorem tbL_length (l : List (S27)) (m : Nat) : (tbL l m).length = m := by simp [tbL]
theorem ttL_length (l : List (S27)) (num : Nat → Int) (m : Nat) : (ttL l num m).length = m := by simp [ttL]
theorem rd_drop3 (l : List (S27)) (i : Nat) : rd_T27 (l.drop 3) (i : Int) = rd_T27 l (((i + 3 : Nat)) : Int) := by
 simp only [rd_T27, Int.toNat_natCast, List.getD_eq_getElem?_getD, List.getElem?_drop]
 rw [Nat.add_comm]
theorem rd_int (l : List Int) (i : Nat) (h : i < l.length) : rd l (i : Int) = l[i] := by
 simp [rd, List.getD_eq_getElem?_getD, List.getElem?_eq_getElem h]
theorem collect_round0 (K : Nat) (l : List (S27)) (hn : 1 ≤ (l.drop 3).length) (hl : l.length ≤ 120) (ho : okL l 0 = true) :
 subchannel_Collect.l0 (K + 1) l (outL l) [] [] (l.drop 3) ((l.drop 3).length : Int) 0 = subchannel_Collect.l0 K l (outL l) (spL l 1) (ttL l (ptL l) 1) (l.drop 3) ((l.drop 3).length : Int) 1 := by
 rw [subchannel_Collect.l0.eq_def]
 dsimp only
 have e0 := rd_drop3 l 0
 rw [show ((0 : Nat) : Int) = (0 : Int) from rfl] at e0
 have hr := stL_range l 0
 have hr2 := outL_range l
 rw [if_pos (by omega), if_pos (by omega), if_pos (by omega), e0, toLBA_any]
 simp only [Option.bind_some]
 unfold okL at ho
 rw [if_pos ho, if_pos rfl, if_pos (by simp), if_pos (by simp), if_neg (by omega)]
 have ew : wrap64 (outL l - lbaV (rd_T27 l (((0 + 3 : Nat)) : Int)).f4) = outL l - stL l 0 := by
  show wrap64 (outL l - stL l 0) = _
  unfold wrap64; omega
 rw [ew, show wrap64 (0 + 1) = 1 by unfold wrap64; omega, spL_succ l 0, ttL_succ l 0]
 rfl
theorem collect_round (K : Nat) (l : List (S27)) (m : Nat) (hm : m + 1 < (l.drop 3).length) (hl : l.length ≤ 120) (ho : okL l (m + 1) = true) :
 subchannel_Collect.l0 (K + 1) l (outL l) (spL l (m + 1)) (ttL l (ptL l) (m + 1)) (l.drop 3) ((l.drop 3).length : Int) ((m + 1 : Nat) : Int) = subchannel_Collect.l0 K l (outL l) (spL l (m + 1 + 1)) (ttL l (ptL l) (m + 1 + 1)) (l.drop 3) ((l.drop 3).length : Int) ((m + 1 + 1 : Nat) : Int) := by
 have hd : (l.drop 3).length ≤ 120 := by rw [List.length_drop]; omega
 have r0 := stL_range l m
 have r1 := stL_range l (m + 1)
 have r2 := outL_range l
 rw [subchannel_Collect.l0.eq_def]
 dsimp only
 rw [if_pos (by omega), if_pos (by omega), if_pos (by omega), rd_drop3, toLBA_any]
 simp only [Option.bind_some]
 unfold okL at ho
 rw [if_pos ho, if_pos rfl, if_pos (by rw [spL_length]; omega), if_pos (by rw [ttL_length]; omega), if_pos (by omega)]
 have e1 : wrap64 (((m + 1 : Nat) : Int) - 1) = (m : Int) := by unfold wrap64; omega
 have e2 : wrap64 (((m + 1 : Nat) : Int) + 1) = ((m + 1 + 1 : Nat) : Int) := by unfold wrap64; omega
 have e3 : spL l (m + 1) ++ [lbaV (rd_T27 l (((m + 1 + 3 : Nat)) : Int)).f4] = spL l (m + 1 + 1) := (spL_succ l (m + 1)).symm
 have e4 : wrap64 (outL l - lbaV (rd_T27 l (((m + 1 + 3 : Nat)) : Int)).f4) = outL l - stL l (m + 1) := by
  show wrap64 (outL l - stL l (m + 1)) = _
  unfold wrap64; omega
 rw [e1, e2, e3, e4, if_pos (by omega), if_pos (by rw [spL_length]; omega)]
 have e5 : ttL l (ptL l) (m + 1) ++ [(⟨(rd_T27 l (((m + 1 + 3 : Nat)) : Int)).f2, 0, lbaV (rd_T27 l (((m + 1 + 3 : Nat)) : Int)).f4, outL l - stL l (m + 1), 0, 0, 0⟩ : S53)] = tbL l m ++ [laL l m] ++ [laL l (m + 1)] := by rw [ttL_succ]; rfl
 rw [e5, if_pos (by simp [tbL_length]; omega)]
 have e6 : rd (spL l (m + 1 + 1)) (m : Int) = stL l m := by
  rw [rd_int _ m (by rw [spL_length]; omega)]
  simp [spL]
 have e7 : rd_T53 (tbL l m ++ [laL l m] ++ [laL l (m + 1)]) (m : Int) = laL l m := by
  simp only [rd_T53, Int.toNat_natCast, List.getD_eq_getElem?_getD]
  rw [List.append_assoc, List.getElem?_append_right (by rw [tbL_length]; exact Nat.le_refl _), tbL_length, Nat.sub_self]
  rfl
 rw [e6, e7, Int.toNat_natCast]
 have e8 : wrap64 (lbaV (rd_T27 l (((m + 1 + 3 : Nat)) : Int)).f4 - stL l m) = stL l (m + 1) - stL l m := by
  show wrap64 (stL l (m + 1) - stL l m) = _
  unfold wrap64; omega
 rw [e8]
 have e9 : (tbL l m ++ [laL l m] ++ [laL l (m + 1)]).set m (⟨(laL l m).f0, (laL l m).f1, (laL l m).f2, stL l (m + 1) - stL l m, (laL l m).f4, (laL l m).f5, (laL l m).f6⟩ : S53) = ttL l (ptL l) (m + 1 + 1) := by
  rw [ttL_succ, tbL_succ, List.append_assoc, List.set_append_right _ _ (by rw [tbL_length]; exact Nat.le_refl _), tbL_length, Nat.sub_self, List.append_assoc]
  rfl
 rw [e9]
theorem collect_bad (K : Nat) (l : List (S27)) (x7 : List Int) (x8 : List (S53)) (m : Nat) (hm : m < (l.drop 3).length) (ho : okL l m = false) :
 subchannel_Collect.l0 (K + 1) l (outL l) x7 x8 (l.drop 3) ((l.drop 3).length : Int) (m : Int) = some ([], 0, 10) := by
 rw [subchannel_Collect.l0.eq_def]
 dsimp only
 rw [if_pos (by omega), if_pos (by omega), if_pos (by omega), rd_drop3, toLBA_any]
 simp only [Option.bind_some]
 unfold okL at ho
 rw [if_neg (by rw [ho]; decide)]
open Classical in
theorem collect_loop (l : List (S27)) (hl : l.length ≤ 120) (n : Nat) (hn : (l.drop 3).length = n + 1) (d : Nat) : ∀ m K, n - m = d → m ≤ n →
 (subchannel_Collect.l0 (K + d) l (outL l) (spL l (m + 1)) (ttL l (ptL l) (m + 1)) (l.drop 3) ((l.drop 3).length : Int) ((m + 1 : Nat) : Int) = if (∀ j, m < j → j ≤ n → okL l j = true) then subchannel_Collect.l0 K l (outL l) (spL l (n + 1)) (ttL l (ptL l) (n + 1)) (l.drop 3) ((l.drop 3).length : Int) ((n + 1 : Nat) : Int) else some ([], 0, 10)) := by
 induction d with
 | zero =>
  intro m K hd hm
  have : m = n := by omega
  subst this
  rw [if_pos (fun j h1 h2 => by omega)]
  rfl
 | succ d ih =>
  intro m K hd hm
  cases ho : okL l (m + 1) with
  | false =>
   rw [show K + (d + 1) = (K + d) + 1 by omega, collect_bad _ l _ _ (m + 1) (by omega) ho, if_neg (fun h => by have := h (m + 1) (by omega) (by omega); rw [ho] at this; cases this)]
  | true =>
   rw [show K + (d + 1) = (K + d) + 1 by omega, collect_round (K + d) l m (by omega) hl ho, ih (m + 1) K (by omega) (by omega)]
   refine ite_iff ⟨fun h j h1 h2 => ?_, fun h j h1 h2 => h j (by omega) h2⟩
   by_cases e : j = m + 1
   · rw [e]; exact ho
   · exact h j (by omega) h2
theorem frame_ext (a b : S27) : (!(a.f0 == b.f0) || (!(a.f1 == b.f1) || (!(a.f2 == b.f2) || ((!(a.f3.f0 == b.f3.f0) || (!(a.f3.f1 == b.f3.f1) || (!(a.f3.f2 == b.f3.f2)))) || ((!(a.f4.f0 == b.f4.f0) || (!(a.f4.f1 == b.f4.f1) || (!(a.f4.f2 == b.f4.f2))))))))) = false ↔ a = b := by
 obtain ⟨a0, a1, a2, ⟨a3, a4, a5⟩, ⟨a6, a7, a8⟩⟩ := a
 obtain ⟨b0, b1, b2, ⟨b3, b4, b5⟩, ⟨b6, b7, b8⟩⟩ := b
 simp [and_assoc]
open Classical in
theorem frames_equal_loop (a b : List (S27)) (hab : a.length = b.length) (hl : a.length ≤ 1000) (d : Nat) : ∀ i K, a.length - i = d → i ≤ a.length → d < K →
 api_QFrame.l0 K a b (a.length : Int) (i : Int) = some (decide (∀ j : Nat, i ≤ j → j < a.length → rd_T27 a (j : Int) = rd_T27 b (j : Int))) := by
 induction d with
 | zero =>
  intro i K hd hi hK
  obtain ⟨K, rfl⟩ : ∃ m, K = m + 1 := ⟨K - 1, by omega⟩
  rw [api_QFrame.l0.eq_def]
  dsimp only
  rw [if_neg (by omega), decide_eq_true (fun j h1 h2 => by omega)]
 | succ d ih =>
  intro i K hd hi hK
  obtain ⟨K, rfl⟩ : ∃ m, K = m + 1 := ⟨K - 1, by omega⟩
  rw [api_QFrame.l0.eq_def]
  dsimp only
  rw [if_pos (by omega), if_pos (by omega), if_pos (by omega), if_pos (by omega)]
  by_cases h : rd_T27 a (i : Int) = rd_T27 b (i : Int)
  · rw [if_neg (by rw [(frame_ext _ _).mpr h]; decide), show wrap64 ((i : Int) + 1) = ((i + 1 : Nat) : Int) by unfold wrap64; omega, ih (i + 1) K (by omega) (by omega) (by omega)]
    congr 1
    rw [decide_eq_decide]
    constructor
    · intro hh j h1 h2
      by_cases e : j = i
      · rw [e]; exact h
      · exact hh j (by omega) h2
    · intro hh j h1 h2; exact hh j (by omega) h2
  · have hf : (!((rd_T27 a (i : Int)).f0 == (rd_T27 b (i : Int)).f0) || (!((rd_T27 a (i : Int)).f1 == (rd_T27 b (i : Int)).f1) || (!((rd_T27 a (i : Int)).f2 == (rd_T27 b (i : Int)).f2) || ((!((rd_T27 a (i : Int)).f3.f0 == (rd_T27 b (i : Int)).f3.f0) || (!((rd_T27 a (i : Int)).f3.f1 == (rd_T27 b (i : Int)).f3.f1) || (!((rd_T27 a (i : Int)).f3.f2 == (rd_T27 b (i : Int)).f3.f2)))) || ((!((rd_T27 a (i : Int)).f4.f0 == (rd_T27 b (i : Int)).f4.f0) || (!((rd_T27 a (i : Int)).f4.f1 == (rd_T27 b (i : Int)).f4.f1) || (!((rd_T27 a (i : Int)).f4.f2 == (rd_T27 b (i : Int)).f4.f2))))))))) = true := by
     cases hc : (!((rd_T27 a (i : Int)).f0 == (rd_T27 b (i : Int)).f0) || (!((rd_T27 a (i : Int)).f1 == (rd_T27 b (i : Int)).f1) || (!((rd_T27 a (i : Int)).f2 == (rd_T27 b (i : Int)).f2) || ((!((rd_T27 a (i : Int)).f3.f0 == (rd_T27 b (i : Int)).f3.f0) || (!((rd_T27 a (i : Int)).f3.f1 == (rd_T27 b (i : Int)).f3.f1) || (!((rd_T27 a (i : Int)).f3.f2 == (rd_T27 b (i : Int)).f3.f2)))) || ((!((rd_T27 a (i : Int)).f4.f0 == (rd_T27 b (i : Int)).f4.f0) || (!((rd_T27 a (i : Int)).f4.f1 == (rd_T27 b (i : Int)).f4.f1) || (!((rd_T27 a (i : Int)).f4.f2 == (rd_T27 b (i : Int)).f4.f2))))))))) with
     | true => rfl
     | false => exact absurd ((frame_ext _ _).mp hc) h
    rw [if_pos hf, decide_eq_false (fun hh => h (hh i (Nat.le_refl _) (by omega)))]
theorem list_of_rd {a b : List (S27)} (hab : a.length = b.length) (h : ∀ j : Nat, 0 ≤ j → j < a.length → rd_T27 a (j : Int) = rd_T27 b (j : Int)) : a = b := by
 apply List.ext_getElem hab
 intro j h1 h2
 have := h j (Nat.zero_le _) h1
 simpa [rd_T27, List.getD_eq_getElem?_getD, List.getElem?_eq_getElem h1, List.getElem?_eq_getElem h2] using this
open Classical in
theorem frames_equal (a b : List (S27)) (hl : a.length ≤ 1000) (K : Nat) (hK : a.length < K) : ∃ r : Bool, api_QFrame.f K a b = some r ∧ (r = true ↔ a = b) := by
 unfold api_QFrame.f
 by_cases hab : (a.length : Int) = (b.length : Int)
 · rw [if_pos hab]
   have h := frames_equal_loop a b (by omega) hl a.length 0 K (by omega) (by omega) hK
   refine ⟨_, h, ?_⟩
   rw [decide_eq_true_eq]
   exact ⟨fun hh => list_of_rd (by omega) hh, fun e j _ _ => by rw [e]⟩
 · rw [if_neg hab]
   refine ⟨false, rfl, ?_, ?_⟩
   · intro h; cases h
   · intro e; exact absurd (by rw [e]) hab
def goodC (l : List (S27)) : Prop := 4 ≤ l.length ∧ (∀ j, j + 3 < l.length → okL l j = true) ∧ sesB (ttL l (ptL l) (l.length - 3)) = true ∧ 0 ≤ ctL l ∧ ctL l ≤ 15 ∧ entL (ttL l (ptL l) (l.length - 3)) (ctL l) (l.length - 3) = l
open Classical in
theorem collect_plain (l : List (S27)) (hl : l.length ≤ 120) : ∃ k, (goodC l → subchannel_Collect.f k l = some (spL l (l.length - 3), outL l, 0)) ∧ (¬ goodC l → subchannel_Collect.f k l = some ([], 0, 10)) := by
 refine ⟨300, ?_⟩
 unfold subchannel_Collect.f
 by_cases h4 : (l.length : Int) < 4
 · rw [if_pos h4]
   exact ⟨fun h => absurd h.1 (by omega), fun _ => rfl⟩
 rw [if_neg h4, if_pos (by omega), toLBA_any]
 simp only [Option.bind_some]
 rw [if_pos (by omega)]
 show (goodC l → subchannel_Collect.l0 300 l (outL l) [] [] (l.drop 3) ((l.drop 3).length : Int) 0 = _) ∧ (¬ goodC l → subchannel_Collect.l0 300 l (outL l) [] [] (l.drop 3) ((l.drop 3).length : Int) 0 = _)
 have hd : (l.drop 3).length = l.length - 3 := List.length_drop
 obtain ⟨n, hn⟩ : ∃ n, l.length = n + 4 := ⟨l.length - 4, by omega⟩
 cases ho : okL l 0 with
 | false =>
  have := collect_bad 299 l [] [] 0 (by omega) ho
  rw [show ((0 : Nat) : Int) = (0 : Int) from rfl] at this
  rw [this]
  refine ⟨?_, fun _ => rfl⟩
  intro h
  have := h.2.1 0 (by omega)
  rw [ho] at this
  cases this
 | true =>
  rw [collect_round0 299 l (by omega) hl ho]
  have := collect_loop l hl n (by omega) n 0 (299 - n) (by omega) (by omega)
  rw [show 299 - n + n = 299 by omega] at this
  have this : subchannel_Collect.l0 299 l (outL l) (spL l 1) (ttL l (ptL l) 1) (l.drop 3) ((l.drop 3).length : Int) 1 = _ := this
  rw [this]
  by_cases hall : ∀ j, 0 < j → j ≤ n → okL l j = true
  case neg =>
   rw [if_neg hall]
   exact ⟨fun h => absurd (fun j h1 h2 => h.2.1 j (by omega)) hall, fun _ => rfl⟩
  rw [if_pos hall]
  obtain ⟨q, hq⟩ : ∃ q, 299 - n = q + 1 := ⟨298 - n, by omega⟩
  rw [hq, subchannel_Collect.l0.eq_def]
  dsimp only
  rw [if_neg (by omega), if_pos (by omega)]
  have hall2 : ∀ j, j + 3 < l.length → okL l j = true := fun j hj => by
   by_cases e : j = 0
   · rw [e]; exact ho
   · exact hall j (by omega) (by omega)
  have e3 : l.length - 3 = n + 1 := by omega
  unfold subchannel_Entries.f
  by_cases hs : sesB (ttL l (ptL l) (n + 1)) = true ∧ 0 ≤ (rd_T27 l 0).f0 ∧ (rd_T27 l 0).f0 ≤ 15
  case neg =>
   rw [if_neg hs]
   simp only [Option.bind_some]
   rw [if_neg (by decide)]
   exact ⟨fun h => absurd ⟨by have := h.2.2.1; rwa [e3] at this, h.2.2.2.1, h.2.2.2.2.1⟩ hs, fun _ => rfl⟩
  rw [if_pos hs]
  simp only [Option.bind_some]
  rw [if_pos trivial, ttL_length]
  obtain ⟨r, hr, hiff⟩ := frames_equal (entL (ttL l (ptL l) (n + 1)) (rd_T27 l 0).f0 (n + 1)) l (by rw [entL_length]; omega) q (by rw [entL_length]; omega)
  rw [hr]
  simp only [Option.bind_some]
  by_cases hrt : r = true
  · rw [if_pos hrt, e3]
    refine ⟨fun _ => rfl, fun h => absurd ⟨by omega, hall2, by rw [e3]; exact hs.1, hs.2.1, hs.2.2, by rw [e3]; exact hiff.mp hrt⟩ h⟩
  · rw [if_neg hrt]
    exact ⟨fun h => absurd (hiff.mpr (by have := h.2.2.2.2.2; rwa [e3] at this)) hrt, fun _ => rfl⟩
end Go.Proofs.Ytpmkibggmkibeaa.G
namespace Go.Proofs.Ytpmkibggmkibeaa.G
open Go.RowKit Go.Proofs.YtpmkibggmkibeaaW.PrintWords Go.Proofs.YtpmkibggmkibeaaW.PrintLast Go.Proofs.YtpmkibggmkibeaaW.PrintMore
set_option linter.unusedVariables false
def idxP (p : S53 → Bool) (l : List (S53)) : Nat → Nat → Int
 | 0, _ => -1
 | d + 1, i => if p (rd_T53 l (i : Int)) = true then (i : Int) else idxP p l d (i + 1)
def FnAt (p : S53 → Bool) (g : Nat) (lb : Array Value) (w : World) : Prop :=
 (∀ args w, (callFunc g args).run Try.prog w = .ok (.enter g args) w) ∧
  ∀ (x : S53) (W : World), Below w.heap.size w W → Calls Try.prog g (#[.agg #[.int .i64 x.f0, .int .i64 x.f1, .int .i64 x.f2, .int .i64 x.f3, .int .i64 x.f4, .int .i64 x.f5, .int .i64 x.f6]] ++ lb) W fun e w' => e = .returned (.bool (p x)) ∧ Below W.heap.size W w'
set_option maxHeartbeats 1000000 in
set_option maxRecDepth 100000 in
theorem indexFunc_any (p : S53 → Bool) (g : Nat) (lb : Array Value) (A : Option Addr) (c : Nat) (l : List (S53)) (w : World) (hr : Kd.C k53 w A l.length l) (hp : FnAt p g lb w) :
 Calls Try.prog 28 #[.slice A l.length c, .func (.func g) #[] lb] w fun e w' => e = .returned (.int .i64 (idxP p l l.length 0)) ∧ Below w.heap.size w w' := by
 have heg := hp.1
 have HP := Aside0.mk hp.2
 have HM := Kd.C_max hr
 have HR := Aside0.mk hr
 obtain ⟨R, hR⟩ : ∃ R, idxP p l l.length 0 = R := ⟨_, rfl⟩
 rw [hR]
 have HRR := Aside0.mk hR
 clear hp hr hR
 go_enter Try.func28, Try.ntmps28
 go_wp2_with (fail)
 go_loopg [8] l.length (fun gk v8 wr => ∃ i : Nat, i ≤ l.length ∧ l.length - i ≤ gk ∧ v8 = .int .i64 i ∧ Aside0 (idxP p l (l.length - i) i = R) ∧ Aside0 (Below w.heap.size w wr))
 case atStart => exact ⟨0, Nat.zero_le _, by omega, rfl, by rw [Nat.sub_zero]; exact HRR, ⟨Below.refl _ _⟩⟩
 case round =>
  obtain ⟨i, hi, hg, rfl, HV, HB⟩ := hrel
  by_cases hlt : i < l.length
  · have hltz : (i : Int) < (l.length : Int) := by omega
    have hi0 : 0 ≤ (i : Int) := by omega
    obtain ⟨ad, rfl, hx0, hx1, hx2, hx3, hx4, hx5, hx6⟩ := at_T53 (Kd.C_below HR.out HB.out) (i : Int) hi0 hltz
    rw [Int.toNat_natCast] at hx0 hx1 hx2 hx3 hx4 hx5 hx6
    obtain ⟨x, hx⟩ : ∃ x, x = rd_T53 l (i : Int) := ⟨_, rfl⟩
    rw [← hx] at hx0 hx1 hx2 hx3 hx4 hx5 hx6
    have HX := Aside0.mk hx
    have HCALL := Aside0.mk (HP.out x wr HB.out)
    have hv := HV.out
    rw [show l.length - i = (l.length - (i + 1)) + 1 by omega] at hv
    simp only [idxP] at hv
    rw [← hx] at hv
    obtain ⟨b, hb⟩ : ∃ b, b = p x := ⟨_, rfl⟩
    rw [← hb] at HCALL hv
    have HV2 := Aside0.mk hv
    clear hx hv hb HV
    cases b with
    | true =>
     go_wp2_with (fail)
     refine HCALL.out.mono ?_
     rintro e wk ⟨rfl, hbk⟩
     go_wp2_with (fail)
     go_ret
     have := HV2.out
     rw [if_pos trivial] at this
     exact ⟨by rw [← this]; rfl, below_step HB.out hbk⟩
    | false =>
     go_wp2_with (fail)
     refine HCALL.out.mono ?_
     rintro e wk ⟨rfl, hbk⟩
     go_wp2_with (fail)
     go_roundg (l.length - (i + 1))
     case measure => omega
     case rel =>
      have := HV2.out
      rw [if_neg (by decide)] at this
      exact ⟨i + 1, by omega, by omega, by go_num, ⟨this⟩, ⟨below_step HB.out hbk⟩⟩
  · have hltz : ¬ (i : Int) < (l.length : Int) := by omega
    have hv := HV.out
    rw [show l.length - i = 0 by omega] at hv
    have HV2 := Aside0.mk hv
    clear hv HV
    go_wp2_with (fail)
    go_ret
    exact ⟨by rw [← HV2.out]; rfl, HB.out⟩
end Go.Proofs.Ytpmkibggmkibeaa.G
namespace Go.Proofs.Ytpmkibggmkibeaa.G
open Go.RowKit Go.Proofs.YtpmkibggmkibeaaW.PrintWords Go.Proofs.YtpmkibggmkibeaaW.PrintLast Go.Proofs.YtpmkibggmkibeaaW.PrintMore
attribute [local go_sem] max2_int min2_int max_two min_two max_three min_three max_four min_four   -- for this text's walks alone
set_option linter.unusedVariables false
set_option linter.unusedSimpArgs false
def subchannel_relative.f (a0 : Int) : Option (Int × Int × Int) := (subchannel_msf.f (wrap64 (a0 - 150))).bind fun bt180 => (some (bt180.1, bt180.2.1, bt180.2.2))
set_option maxHeartbeats 8000000 in
set_option maxRecDepth 100000 in
theorem subchannel_relative.calls (a0 : Int) (r1 : Int) (r2 : Int) (r3 : Int) (w : World) (h : subchannel_relative.f a0 = some (r1, r2, r3)) :
 Calls Try.prog 31 #[.int .i64 a0] w fun e w' => e = .returned (.agg #[.int .i64 r1, .int .i64 r2, .int .i64 r3]) ∧ Below w.heap.size w w' := by
 have hu25 := Try.underlying25
 have HB := Aside0.mk (Below.refl w.heap.size w)
 have H : ((subchannel_msf.f (wrap64 (a0 - 150))).bind fun bt180 => (some (bt180.1, bt180.2.1, bt180.2.2))) = some (r1, r2, r3) := h
 clear h
 replace H := Option.bind_eq_some_iff.mp H
 obtain ⟨⟨t180, t181, t182⟩, A20, H⟩ := H
 replace H : (some (t180, t181, t182)) = some (r1, r2, r3) := H
 have A2 := Aside0.mk A20
 clear A20
 simp only [Option.some.injEq, Prod.mk.injEq] at H
 obtain ⟨rfl, rfl, rfl⟩ := H
 go_enter Try.func31, Try.ntmps31
 go_wp2_with (first | ((with_reducible refine gate_dst (N := 2) rfl ?_); refine box_event ?hg (N := 2) ?hd (cs := #[.int .i64 0, .int .i64 0, .int .i64 0]) (t := 25) ?hr ?_; (case hd => rfl); (case hg => rfl); (case hr => first | (go_simp; done) | (go_simp; rfl)); intro gb179 hg w3 hbox hb; have n0_ := Aside0.mk (below_step (by repeat (first | (with_reducible first | exact HB.out | apply below_alloc | apply pw_below_drewN | apply below_drew1) | exact HB.out)) hb); have n1_ := Aside0.mk (hbox); have n2_ := Aside0.mk ((by rw [hg]; exact (below_size (by repeat (first | (with_reducible first | exact HB.out | apply below_alloc | apply pw_below_drewN | apply below_drew1) | exact HB.out))) : w.heap.size ≤ gb179)); have n3_ := Aside0.mk ((by rw [hg]; exact (below_size (by repeat (first | (with_reducible first | exact HB.out | apply below_alloc | apply pw_below_drewN | apply below_drew1) | exact HB.out))) : w.heap.size ≤ gb179)); clear HB; have HB := n0_; have BK179 := n1_; have GW179 := n2_; have GE179 := n3_; clear n0_ n1_ n2_ n3_; clear hb hbox hg) | ((with_reducible refine gate_callee (f := 27) rfl ?_); refine goesL_ (some 5) rfl rfl Try.func27 (by kernel_rfl) rfl #[.int .i64 (wrap64 (a0 - 150))] rfl (by (try simp only [List.map_toArray, List.map_cons, List.map_nil]); first | done | rfl | (simp only [List.length_drop, List.length_take]; rfl)) ?_; (with_reducible refine (subchannel_msf.calls (wrap64 (a0 - 150)) t180 t181 t182 _ A2.out).mono ?_); rintro e w4 ⟨rfl, hb⟩; refine ⟨_, rfl, ?_⟩; have n0_ := Aside0.mk (blk_below (g := gb179) (o := .cells #[.int .i64 0, .int .i64 0, .int .i64 0] 25 (0, 0)) (by (with_reducible repeat (first | refine blk_drewN ?_ _ | refine blk_drew ?_ | refine blk_alloc ?_ _)); exact BK179.out) hb); have n1_ := Aside0.mk (below_step (by repeat (first | (with_reducible first | exact HB.out | apply below_alloc | apply pw_below_drewN | apply below_drew1 | refine below_set ?_ GE179.out) | exact HB.out)) hb); clear BK179; clear HB; have BK179 := n0_; have HB := n1_; clear n0_ n1_; (try clear hb); (try clear hb2); (try clear hk); (try clear hi); obtain ⟨hcz5_0, hcz5_1, hcz5_2⟩ := cel3 BK179.out; obtain ⟨hfz5_0, hfz5_1, hfz5_2⟩ := frz3 BK179.out))
 refine bodyPost_ret (results_cell_row rfl _ _ gb179 25 #[.int .i64 t180, .int .i64 t181, .int .i64 t182] (0, 0) _ rfl (by (with_reducible repeat (first | refine blk_drewN ?_ _ | refine blk_drew ?_ | refine blk_alloc ?_ _)); refine blk_put (cs := #[.int .i64 t180, .int .i64 t181, .int .i64 0]) ?_ 2 _ rfl; (with_reducible repeat (first | refine blk_drewN ?_ _ | refine blk_drew ?_ | refine blk_alloc ?_ _)); refine blk_put (cs := #[.int .i64 t180, .int .i64 0, .int .i64 0]) ?_ 1 _ rfl; (with_reducible repeat (first | refine blk_drewN ?_ _ | refine blk_drew ?_ | refine blk_alloc ?_ _)); refine blk_put (cs := #[.int .i64 0, .int .i64 0, .int .i64 0]) ?_ 0 _ rfl; (with_reducible repeat (first | refine blk_drewN ?_ _ | refine blk_drew ?_ | refine blk_alloc ?_ _)); exact BK179.out) Try.underlying25 rfl (by kernel_rfl)) rfl ?_
 exact ⟨by first | rfl | (simp [errW_none, errW_some] <;> rfl) | (simp [*, errW_none, errW_some] <;> rfl), by repeat (first | (with_reducible first | exact HB.out | apply below_alloc | apply pw_below_drewN | apply below_drew1 | refine below_set ?_ GE179.out) | exact HB.out)⟩
end Go.Proofs.Ytpmkibggmkibeaa.G
