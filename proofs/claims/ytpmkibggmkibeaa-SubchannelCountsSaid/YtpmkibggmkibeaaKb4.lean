/- Texts of one claim, merged by a program of this session; what is proved stands in the last of them. -/
import Derived.BigQuiet
import Derived.Deep.QuietTactic
import Derived.Deep.RegionWith
import Derived.Laws.CopyOwn
import Derived.Outline
import Derived.StillTailTactics
import Derived.Test.YtpmkibggmkibeaaKb1
import Derived.Test.YtpmkibggmkibeaaKb3
namespace Go.Proofs.Ytpmkibggmkibeaa.G
open Go.RowKit Go.Proofs.YtpmkibggmkibeaaW.PrintWords Go.Proofs.YtpmkibggmkibeaaW.PrintLast Go.Proofs.YtpmkibggmkibeaaW.PrintMore
attribute [local go_sem] max2_int min2_int max_two min_two max_three min_three max_four min_four   -- for this text's walks alone
set_option linter.unusedVariables false
set_option linter.unusedSimpArgs false
def subchannel_Encode.f (a0_0 : Int) (a0_1 : Int) (a0_2 : Int) (a0_3 : Int) (a0_4 : Int) (a0_5 : Int) (a0_6 : Int) (a0_7 : Int) (a0_8 : Int) : Option (ByteArray × Int) := (subchannel_valid.f a0_0 a0_1 a0_2 a0_3 a0_4 a0_5 a0_6 a0_7 a0_8).bind fun t160 => (if t160 = true then ((subchannel_number.f a0_1).bind fun t161 => ((subchannel_number.f a0_2).bind fun t162 => ((some (([(Go.bits .or .i64 (wrap64 (a0_0 * 16)) 1) % 256, t161, t162] : List Int) : List Int)).bind fun y163 => ((subchannel_Encode_1.f a0_3 a0_4 a0_5).bind fun t166 => (if (strOfNums y163).size + t166.size ≤ 9223372036854775807 then (if ((strOfNums y163) ++ t166).size + 1 ≤ 9223372036854775807 then ((subchannel_Encode_1.f a0_6 a0_7 a0_8).bind fun t167 => (if (((strOfNums y163) ++ t166) ++ (⟨#[0]⟩ : ByteArray)).size + t167.size ≤ 9223372036854775807 then ((subchannel_check.f ((((strOfNums y163) ++ t166) ++ (⟨#[0]⟩ : ByteArray)) ++ t167)).bind fun t168 => (if ((((strOfNums y163) ++ t166) ++ (⟨#[0]⟩ : ByteArray)) ++ t167).size + t168.size ≤ 9223372036854775807 then (some (((((strOfNums y163) ++ t166) ++ (⟨#[0]⟩ : ByteArray)) ++ t167) ++ t168, 0)) else (none))) else (none))) else (none)) else (none)))))) else (some ((⟨#[]⟩ : ByteArray), 1)))
def subchannel_Encode.T4 : Bool × List (List Nat × List Nat) := (true, [([], []), ([0], [0]), ([1], [1]), ([2], [2]), ([3], [3]), ([], []), ([5], [5]), ([6], [6]), ([], []), ([8], [8]), ([9, 7], [9]), ([4, 7, 10], [4, 7, 10]), ([11], [11]), ([], []), ([], []), ([14], [14]), ([13, 15, 10], [13, 15]), ([12, 16], [12, 16]), ([17], [17]), ([], []), ([], []), ([20], [20]), ([19, 21, 16], [19, 21]), ([18, 22], [18, 22]), ([23, 22, 0, 1, 2, 3, 4, 5, 6, 7, 8, 9, 10, 11, 12, 13, 14, 15, 16, 17, 18, 19, 20, 21, 22, 23], [23])])
def subchannel_Encode.B4 : List Nat := [0, 1, 3, 7, 15, 0, 32, 96, 0, 256, 992, 2047, 4095, 0, 0, 16384, 59360, 131071, 262143, 0, 0, 1048576, 3794912, 8388607, 16777215]
theorem subchannel_Encode.tab4 : rtab .any (opsOf Try.f18 4) = subchannel_Encode.T4 := by kernel_rfl
theorem subchannel_Encode.bits4 : waitsOk subchannel_Encode.T4.2 subchannel_Encode.B4 = true := by kernel_rfl
set_option maxHeartbeats 8000000 in
set_option maxRecDepth 100000 in
theorem subchannel_Encode.calls (a0_0 : Int) (a0_1 : Int) (a0_2 : Int) (a0_3 : Int) (a0_4 : Int) (a0_5 : Int) (a0_6 : Int) (a0_7 : Int) (a0_8 : Int) (r1 : ByteArray) (r2 : Int) (w : World) (h : subchannel_Encode.f a0_0 a0_1 a0_2 a0_3 a0_4 a0_5 a0_6 a0_7 a0_8 = some (r1, r2)) :
 Calls Try.prog 18 #[.agg #[.int .i64 a0_0, .int .i64 a0_1, .int .i64 a0_2, .int .i64 a0_3, .int .i64 a0_4, .int .i64 a0_5, .int .i64 a0_6, .int .i64 a0_7, .int .i64 a0_8]] w fun e w' => e = .returned (.tuple #[.string r1, .int .i64 r2]) ∧ Below w.heap.size w w' := by
 have hu27 := Try.underlying27
 have hu25 := Try.underlying25
 have HB := Aside0.mk (Below.refl w.heap.size w)
 have H : ((subchannel_valid.f a0_0 a0_1 a0_2 a0_3 a0_4 a0_5 a0_6 a0_7 a0_8).bind fun t160 => (if t160 = true then ((subchannel_number.f a0_1).bind fun t161 => ((subchannel_number.f a0_2).bind fun t162 => ((some (([(Go.bits .or .i64 (wrap64 (a0_0 * 16)) 1) % 256, t161, t162] : List Int) : List Int)).bind fun y163 => ((subchannel_Encode_1.f a0_3 a0_4 a0_5).bind fun t166 => (if (strOfNums y163).size + t166.size ≤ 9223372036854775807 then (if ((strOfNums y163) ++ t166).size + 1 ≤ 9223372036854775807 then ((subchannel_Encode_1.f a0_6 a0_7 a0_8).bind fun t167 => (if (((strOfNums y163) ++ t166) ++ (⟨#[0]⟩ : ByteArray)).size + t167.size ≤ 9223372036854775807 then ((subchannel_check.f ((((strOfNums y163) ++ t166) ++ (⟨#[0]⟩ : ByteArray)) ++ t167)).bind fun t168 => (if ((((strOfNums y163) ++ t166) ++ (⟨#[0]⟩ : ByteArray)) ++ t167).size + t168.size ≤ 9223372036854775807 then (some (((((strOfNums y163) ++ t166) ++ (⟨#[0]⟩ : ByteArray)) ++ t167) ++ t168, 0)) else (none))) else (none))) else (none)) else (none)))))) else (some ((⟨#[]⟩ : ByteArray), 1)))) = some (r1, r2) := h
 clear h
 replace H := Option.bind_eq_some_iff.mp H
 obtain ⟨t160, A20, H⟩ := H
 replace H : (if t160 = true then ((subchannel_number.f a0_1).bind fun t161 => ((subchannel_number.f a0_2).bind fun t162 => ((some (([(Go.bits .or .i64 (wrap64 (a0_0 * 16)) 1) % 256, t161, t162] : List Int) : List Int)).bind fun y163 => ((subchannel_Encode_1.f a0_3 a0_4 a0_5).bind fun t166 => (if (strOfNums y163).size + t166.size ≤ 9223372036854775807 then (if ((strOfNums y163) ++ t166).size + 1 ≤ 9223372036854775807 then ((subchannel_Encode_1.f a0_6 a0_7 a0_8).bind fun t167 => (if (((strOfNums y163) ++ t166) ++ (⟨#[0]⟩ : ByteArray)).size + t167.size ≤ 9223372036854775807 then ((subchannel_check.f ((((strOfNums y163) ++ t166) ++ (⟨#[0]⟩ : ByteArray)) ++ t167)).bind fun t168 => (if ((((strOfNums y163) ++ t166) ++ (⟨#[0]⟩ : ByteArray)) ++ t167).size + t168.size ≤ 9223372036854775807 then (some (((((strOfNums y163) ++ t166) ++ (⟨#[0]⟩ : ByteArray)) ++ t167) ++ t168, 0)) else (none))) else (none))) else (none)) else (none)))))) else (some ((⟨#[]⟩ : ByteArray), 1))) = some (r1, r2) := H
 have A2 := Aside0.mk A20
 clear A20
 by_cases c3 : t160 = true
 · subst c3
   have H1 : ((subchannel_number.f a0_1).bind fun t161 => ((subchannel_number.f a0_2).bind fun t162 => ((some (([(Go.bits .or .i64 (wrap64 (a0_0 * 16)) 1) % 256, t161, t162] : List Int) : List Int)).bind fun y163 => ((subchannel_Encode_1.f a0_3 a0_4 a0_5).bind fun t166 => (if (strOfNums y163).size + t166.size ≤ 9223372036854775807 then (if ((strOfNums y163) ++ t166).size + 1 ≤ 9223372036854775807 then ((subchannel_Encode_1.f a0_6 a0_7 a0_8).bind fun t167 => (if (((strOfNums y163) ++ t166) ++ (⟨#[0]⟩ : ByteArray)).size + t167.size ≤ 9223372036854775807 then ((subchannel_check.f ((((strOfNums y163) ++ t166) ++ (⟨#[0]⟩ : ByteArray)) ++ t167)).bind fun t168 => (if ((((strOfNums y163) ++ t166) ++ (⟨#[0]⟩ : ByteArray)) ++ t167).size + t168.size ≤ 9223372036854775807 then (some (((((strOfNums y163) ++ t166) ++ (⟨#[0]⟩ : ByteArray)) ++ t167) ++ t168, 0)) else (none))) else (none))) else (none)) else (none)))))) = some (r1, r2) := by rw [if_pos rfl] at H; exact H
   clear H
   have H := H1
   clear H1
   replace H := Option.bind_eq_some_iff.mp H
   obtain ⟨t161, A40, H⟩ := H
   replace H : ((subchannel_number.f a0_2).bind fun t162 => ((some (([(Go.bits .or .i64 (wrap64 (a0_0 * 16)) 1) % 256, t161, t162] : List Int) : List Int)).bind fun y163 => ((subchannel_Encode_1.f a0_3 a0_4 a0_5).bind fun t166 => (if (strOfNums y163).size + t166.size ≤ 9223372036854775807 then (if ((strOfNums y163) ++ t166).size + 1 ≤ 9223372036854775807 then ((subchannel_Encode_1.f a0_6 a0_7 a0_8).bind fun t167 => (if (((strOfNums y163) ++ t166) ++ (⟨#[0]⟩ : ByteArray)).size + t167.size ≤ 9223372036854775807 then ((subchannel_check.f ((((strOfNums y163) ++ t166) ++ (⟨#[0]⟩ : ByteArray)) ++ t167)).bind fun t168 => (if ((((strOfNums y163) ++ t166) ++ (⟨#[0]⟩ : ByteArray)) ++ t167).size + t168.size ≤ 9223372036854775807 then (some (((((strOfNums y163) ++ t166) ++ (⟨#[0]⟩ : ByteArray)) ++ t167) ++ t168, 0)) else (none))) else (none))) else (none)) else (none))))) = some (r1, r2) := H
   have A4 := Aside0.mk A40
   clear A40
   replace H := Option.bind_eq_some_iff.mp H
   obtain ⟨t162, A50, H⟩ := H
   replace H : ((some (([(Go.bits .or .i64 (wrap64 (a0_0 * 16)) 1) % 256, t161, t162] : List Int) : List Int)).bind fun y163 => ((subchannel_Encode_1.f a0_3 a0_4 a0_5).bind fun t166 => (if (strOfNums y163).size + t166.size ≤ 9223372036854775807 then (if ((strOfNums y163) ++ t166).size + 1 ≤ 9223372036854775807 then ((subchannel_Encode_1.f a0_6 a0_7 a0_8).bind fun t167 => (if (((strOfNums y163) ++ t166) ++ (⟨#[0]⟩ : ByteArray)).size + t167.size ≤ 9223372036854775807 then ((subchannel_check.f ((((strOfNums y163) ++ t166) ++ (⟨#[0]⟩ : ByteArray)) ++ t167)).bind fun t168 => (if ((((strOfNums y163) ++ t166) ++ (⟨#[0]⟩ : ByteArray)) ++ t167).size + t168.size ≤ 9223372036854775807 then (some (((((strOfNums y163) ++ t166) ++ (⟨#[0]⟩ : ByteArray)) ++ t167) ++ t168, 0)) else (none))) else (none))) else (none)) else (none)))) = some (r1, r2) := H
   have A5 := Aside0.mk A50
   clear A50
   obtain ⟨y163, hy163⟩ : ∃ y_ : List Int, y_ = (([(Go.bits .or .i64 (wrap64 (a0_0 * 16)) 1) % 256, t161, t162] : List Int)) := ⟨_, rfl⟩
   replace H : ((subchannel_Encode_1.f a0_3 a0_4 a0_5).bind fun t166 => (if (strOfNums y163).size + t166.size ≤ 9223372036854775807 then (if ((strOfNums y163) ++ t166).size + 1 ≤ 9223372036854775807 then ((subchannel_Encode_1.f a0_6 a0_7 a0_8).bind fun t167 => (if (((strOfNums y163) ++ t166) ++ (⟨#[0]⟩ : ByteArray)).size + t167.size ≤ 9223372036854775807 then ((subchannel_check.f ((((strOfNums y163) ++ t166) ++ (⟨#[0]⟩ : ByteArray)) ++ t167)).bind fun t168 => (if ((((strOfNums y163) ++ t166) ++ (⟨#[0]⟩ : ByteArray)) ++ t167).size + t168.size ≤ 9223372036854775807 then (some (((((strOfNums y163) ++ t166) ++ (⟨#[0]⟩ : ByteArray)) ++ t167) ++ t168, 0)) else (none))) else (none))) else (none)) else (none))) = some (r1, r2) := by first | (rw [hy163]; with_reducible exact H) | (have H2_ := (Option.bind_some _ _).symm.trans H; rw [hy163]; with_reducible exact H2_) | (have H2_ := (Option.bind_some _ _).symm.trans H; with_reducible exact H2_) | with_reducible exact H | (rw [hy163]; exact H) | exact H
   have Ny163 := Aside0.mk hy163
   clear hy163
   replace H := Option.bind_eq_some_iff.mp H
   obtain ⟨t166, A60, H⟩ := H
   replace H : (if (strOfNums y163).size + t166.size ≤ 9223372036854775807 then (if ((strOfNums y163) ++ t166).size + 1 ≤ 9223372036854775807 then ((subchannel_Encode_1.f a0_6 a0_7 a0_8).bind fun t167 => (if (((strOfNums y163) ++ t166) ++ (⟨#[0]⟩ : ByteArray)).size + t167.size ≤ 9223372036854775807 then ((subchannel_check.f ((((strOfNums y163) ++ t166) ++ (⟨#[0]⟩ : ByteArray)) ++ t167)).bind fun t168 => (if ((((strOfNums y163) ++ t166) ++ (⟨#[0]⟩ : ByteArray)) ++ t167).size + t168.size ≤ 9223372036854775807 then (some (((((strOfNums y163) ++ t166) ++ (⟨#[0]⟩ : ByteArray)) ++ t167) ++ t168, 0)) else (none))) else (none))) else (none)) else (none)) = some (r1, r2) := H
   have A6 := Aside0.mk A60
   clear A60
   by_cases c7 : (strOfNums y163).size + t166.size ≤ 9223372036854775807
   · rw [if_pos c7] at H
     have c7b0 := eq_true c7
     have c7b1 : decide ((strOfNums y163).size + t166.size ≤ 9223372036854775807) = true := decide_eq_true c7
     try have c7b2 : (9223372036854775807 < (strOfNums y163).size + t166.size) = False := eq_false (Nat.not_lt.2 c7)
     by_cases c8 : ((strOfNums y163) ++ t166).size + 1 ≤ 9223372036854775807
     · rw [if_pos c8] at H
       have c8b0 := eq_true c8
       have c8b1 : decide (((strOfNums y163) ++ t166).size + 1 ≤ 9223372036854775807) = true := decide_eq_true c8
       try have c8b2 : (9223372036854775807 < ((strOfNums y163) ++ t166).size + 1) = False := eq_false (Nat.not_lt.2 c8)
       try have c8b3 : (9223372036854775807 < (strOfNums y163).size + t166.size + 1) = False := eq_false (Nat.not_lt.2 (by have h_ := c8; simp only [ByteArray.size_append] at h_; exact h_))
       replace H := Option.bind_eq_some_iff.mp H
       obtain ⟨t167, A90, H⟩ := H
       replace H : (if (((strOfNums y163) ++ t166) ++ (⟨#[0]⟩ : ByteArray)).size + t167.size ≤ 9223372036854775807 then ((subchannel_check.f ((((strOfNums y163) ++ t166) ++ (⟨#[0]⟩ : ByteArray)) ++ t167)).bind fun t168 => (if ((((strOfNums y163) ++ t166) ++ (⟨#[0]⟩ : ByteArray)) ++ t167).size + t168.size ≤ 9223372036854775807 then (some (((((strOfNums y163) ++ t166) ++ (⟨#[0]⟩ : ByteArray)) ++ t167) ++ t168, 0)) else (none))) else (none)) = some (r1, r2) := H
       have A9 := Aside0.mk A90
       clear A90
       by_cases c10 : (((strOfNums y163) ++ t166) ++ (⟨#[0]⟩ : ByteArray)).size + t167.size ≤ 9223372036854775807
       · rw [if_pos c10] at H
         have c10b0 := eq_true c10
         have c10b1 : decide ((((strOfNums y163) ++ t166) ++ (⟨#[0]⟩ : ByteArray)).size + t167.size ≤ 9223372036854775807) = true := decide_eq_true c10
         try have c10b2 : (9223372036854775807 < (((strOfNums y163) ++ t166) ++ (⟨#[0]⟩ : ByteArray)).size + t167.size) = False := eq_false (Nat.not_lt.2 c10)
         try have c10b3 : (9223372036854775807 < (strOfNums y163).size + t166.size + 1 + t167.size) = False := eq_false (Nat.not_lt.2 (by have h_ := c10; simp only [ByteArray.size_append] at h_; exact h_))
         replace H := Option.bind_eq_some_iff.mp H
         obtain ⟨t168, A110, H⟩ := H
         replace H : (if ((((strOfNums y163) ++ t166) ++ (⟨#[0]⟩ : ByteArray)) ++ t167).size + t168.size ≤ 9223372036854775807 then (some (((((strOfNums y163) ++ t166) ++ (⟨#[0]⟩ : ByteArray)) ++ t167) ++ t168, 0)) else (none)) = some (r1, r2) := H
         have A11 := Aside0.mk A110
         clear A110
         by_cases c12 : ((((strOfNums y163) ++ t166) ++ (⟨#[0]⟩ : ByteArray)) ++ t167).size + t168.size ≤ 9223372036854775807
         · rw [if_pos c12] at H
           have c12b0 := eq_true c12
           have c12b1 : decide (((((strOfNums y163) ++ t166) ++ (⟨#[0]⟩ : ByteArray)) ++ t167).size + t168.size ≤ 9223372036854775807) = true := decide_eq_true c12
           try have c12b2 : (9223372036854775807 < ((((strOfNums y163) ++ t166) ++ (⟨#[0]⟩ : ByteArray)) ++ t167).size + t168.size) = False := eq_false (Nat.not_lt.2 c12)
           try have c12b3 : (9223372036854775807 < (strOfNums y163).size + t166.size + 1 + t167.size + t168.size) = False := eq_false (Nat.not_lt.2 (by have h_ := c12; simp only [ByteArray.size_append] at h_; exact h_))
           simp only [Option.some.injEq, Prod.mk.injEq] at H
           obtain ⟨rfl, rfl⟩ := H
           go_enter Try.func18, Try.ntmps18
           try go_wp2_with (first | ((with_reducible refine gate_dst (N := 1) rfl ?_); refine box_event ?hg (N := 1) ?hd (cs := #[.int .i64 a0_0, .int .i64 a0_1, .int .i64 a0_2, .int .i64 a0_3, .int .i64 a0_4, .int .i64 a0_5, .int .i64 a0_6, .int .i64 a0_7, .int .i64 a0_8]) (t := 27) ?hr ?_; (case hd => rfl); (case hg => rfl); (case hr => first | (go_simp; done) | (go_simp; rfl)); intro gb159 hg w13 hbox hb; have n0_ := Aside0.mk (below_step (by repeat (first | (with_reducible first | exact HB.out | apply below_alloc | apply pw_below_drewN | apply below_drew1) | exact HB.out)) hb); have n1_ := Aside0.mk (hbox); have n2_ := Aside0.mk ((by rw [hg]; exact (below_size (by repeat (first | (with_reducible first | exact HB.out | apply below_alloc | apply pw_below_drewN | apply below_drew1) | exact HB.out))) : w.heap.size ≤ gb159)); have n3_ := Aside0.mk ((by rw [hg]; exact (below_size (by repeat (first | (with_reducible first | exact HB.out | apply below_alloc | apply pw_below_drewN | apply below_drew1) | exact HB.out))) : w.heap.size ≤ gb159)); clear HB; have HB := n0_; have BK159 := n1_; have GW159 := n2_; have GE159 := n3_; clear n0_ n1_ n2_ n3_; clear hb hbox hg; have hcz14_0 : w13.cell? ⟨gb159, 0, none⟩ = some (.int .i64 a0_0) := (blk_cell BK159.out 0).trans rfl; have hcz14_1 : w13.cell? ⟨gb159, 1, none⟩ = some (.int .i64 a0_1) := (blk_cell BK159.out 1).trans rfl; have hcz14_2 : w13.cell? ⟨gb159, 2, none⟩ = some (.int .i64 a0_2) := (blk_cell BK159.out 2).trans rfl; have hcz14_3 : w13.cell? ⟨gb159, 3, none⟩ = some (.int .i64 a0_3) := (blk_cell BK159.out 3).trans rfl; have hcz14_4 : w13.cell? ⟨gb159, 4, none⟩ = some (.int .i64 a0_4) := (blk_cell BK159.out 4).trans rfl; have hcz14_5 : w13.cell? ⟨gb159, 5, none⟩ = some (.int .i64 a0_5) := (blk_cell BK159.out 5).trans rfl; have hcz14_6 : w13.cell? ⟨gb159, 6, none⟩ = some (.int .i64 a0_6) := (blk_cell BK159.out 6).trans rfl; have hcz14_7 : w13.cell? ⟨gb159, 7, none⟩ = some (.int .i64 a0_7) := (blk_cell BK159.out 7).trans rfl; have hcz14_8 : w13.cell? ⟨gb159, 8, none⟩ = some (.int .i64 a0_8) := (blk_cell BK159.out 8).trans rfl; have hfz14_0 := blk_frozen BK159.out 0; have hfz14_1 := blk_frozen BK159.out 1; have hfz14_2 := blk_frozen BK159.out 2; have hfz14_3 := blk_frozen BK159.out 3; have hfz14_4 := blk_frozen BK159.out 4; have hfz14_5 := blk_frozen BK159.out 5; have hfz14_6 := blk_frozen BK159.out 6; have hfz14_7 := blk_frozen BK159.out 7; have hfz14_8 := blk_frozen BK159.out 8) | ((with_reducible refine gate_callee (f := 39) rfl ?_); refine goesL_ (some 7) rfl rfl Try.func39 (by kernel_rfl) rfl #[.agg #[.int .i64 a0_0, .int .i64 a0_1, .int .i64 a0_2, .int .i64 a0_3, .int .i64 a0_4, .int .i64 a0_5, .int .i64 a0_6, .int .i64 a0_7, .int .i64 a0_8]] rfl (by (try simp only [List.map_toArray, List.map_cons, List.map_nil]); first | done | rfl | (simp only [List.length_drop, List.length_take]; rfl)) ?_; (with_reducible refine (subchannel_valid.calls a0_0 a0_1 a0_2 a0_3 a0_4 a0_5 a0_6 a0_7 a0_8 true _ A2.out).mono ?_); rintro e w15 ⟨rfl, hb⟩; refine ⟨_, rfl, ?_⟩; have n0_ := Aside0.mk (blk_below (g := gb159) (o := .cells #[.int .i64 a0_0, .int .i64 a0_1, .int .i64 a0_2, .int .i64 a0_3, .int .i64 a0_4, .int .i64 a0_5, .int .i64 a0_6, .int .i64 a0_7, .int .i64 a0_8] 27 (0, 0)) (by (with_reducible repeat (first | refine blk_drewN ?_ _ | refine blk_drew ?_ | refine blk_alloc ?_ _)); exact BK159.out) hb); have n1_ := Aside0.mk (below_step (by repeat (first | (with_reducible first | exact HB.out | apply below_alloc | apply pw_below_drewN | apply below_drew1 | refine below_set ?_ GE159.out) | exact HB.out)) hb); clear BK159; clear HB; have BK159 := n0_; have HB := n1_; clear n0_ n1_; (try clear hb); (try clear hb2); (try clear hk); (try clear hi)))
           have n0_ := Aside0.mk (blk_drew BK159.out)
           have n1_ := Aside0.mk (below_drew1 HB.out)
           clear BK159
           clear HB
           have BK159 := n0_
           have HB := n1_
           clear n0_ n1_
           refine start_ (n := 25) (S := fun w' => w'.cell? ⟨gb159, 0, none⟩ = some (.int .i64 a0_0) ∧ w'.cell? ⟨gb159, 1, none⟩ = some (.int .i64 a0_1) ∧ w'.cell? ⟨gb159, 2, none⟩ = some (.int .i64 a0_2) ∧ w'.cell? ⟨gb159, 3, none⟩ = some (.int .i64 a0_3) ∧ w'.cell? ⟨gb159, 4, none⟩ = some (.int .i64 a0_4) ∧ w'.cell? ⟨gb159, 5, none⟩ = some (.int .i64 a0_5) ∧ w'.cell? ⟨gb159, 6, none⟩ = some (.int .i64 a0_6) ∧ w'.cell? ⟨gb159, 7, none⟩ = some (.int .i64 a0_7) ∧ w'.cell? ⟨gb159, 8, none⟩ = some (.int .i64 a0_8)) (ds := []) #[false, false, false, false, false, false, false, false, false, false, false, false, false, false, false, false, false, false, false, false, false, false, false, false, false] (by kernel_rfl) rfl rfl ⟨(blk_cell BK159.out 0).trans rfl, (blk_cell BK159.out 1).trans rfl, (blk_cell BK159.out 2).trans rfl, (blk_cell BK159.out 3).trans rfl, (blk_cell BK159.out 4).trans rfl, (blk_cell BK159.out 5).trans rfl, (blk_cell BK159.out 6).trans rfl, (blk_cell BK159.out 7).trans rfl, (blk_cell BK159.out 8).trans rfl⟩ (fun hHeld => ?_); refine with_tabW subchannel_Encode.tab4 subchannel_Encode.bits4 (fun HT_ HW_ => ?_)
           generalize w15.drew = w16 at BK159 HB hHeld ⊢
           refine pure_ (i := 0) (N := some 9) (v := ?_) (a' := ?_) (mS 25 1) rfl rfl (any_of HT_.out (by kernel_rfl)) (fun _ _ _ h => h) (Or.inl ⟨by rfl, ?_⟩) ?_ ?_
           rotate_left
           · intro w'
             go_simp
             with_reducible rfl
           rotate_left
           · simp only [Act.put, List.setIfInBounds_toArray, List.set_cons_zero, List.set_cons_succ, i64_w, i32_w]
             rfl
           refine pure_ (i := 5) (N := some 14) (v := ?_) (a' := ?_) (mS 25 33) rfl rfl (any_of HT_.out (by kernel_rfl)) (fun _ _ _ h => h) (Or.inl ⟨by rfl, ?_⟩) ?_ ?_
           rotate_left
           · intro w'
             go_simp
             with_reducible rfl
           rotate_left
           · simp only [Act.put, List.setIfInBounds_toArray, List.set_cons_zero, List.set_cons_succ, i64_w, i32_w]
             rfl
           refine pure_ (i := 8) (N := some 17) (v := ?_) (a' := ?_) (mS 25 289) rfl rfl (any_of HT_.out (by kernel_rfl)) (fun _ _ _ h => h) (Or.inl ⟨by rfl, ?_⟩) ?_ ?_
           rotate_left
           · intro w'
             go_simp
             with_reducible rfl
           rotate_left
           · simp only [Act.put, List.setIfInBounds_toArray, List.set_cons_zero, List.set_cons_succ, i64_w, i32_w]
             rfl
           refine pure_ (i := 13) (N := some 22) (v := ?_) (a' := ?_) (mS 25 8481) rfl rfl (any_of HT_.out (by kernel_rfl)) (fun _ _ _ h => h) (Or.inl ⟨by rfl, ?_⟩) ?_ ?_
           rotate_left
           · intro w'
             go_simp
             with_reducible rfl
           rotate_left
           · simp only [Act.put, List.setIfInBounds_toArray, List.set_cons_zero, List.set_cons_succ, i64_w, i32_w]
             rfl
           refine pure_ (i := 14) (N := some 23) (v := ?_) (a' := ?_) (mS 25 24865) rfl rfl (any_of HT_.out (by kernel_rfl)) (fun _ _ _ h => h) (Or.inl ⟨by rfl, ?_⟩) ?_ ?_
           rotate_left
           · intro w'
             go_simp
             with_reducible rfl
           rotate_left
           · simp only [Act.put, List.setIfInBounds_toArray, List.set_cons_zero, List.set_cons_succ, i64_w, i32_w]
             rfl
           refine pure_ (i := 19) (N := some 28) (v := ?_) (a' := ?_) (mS 25 549153) rfl rfl (any_of HT_.out (by kernel_rfl)) (fun _ _ _ h => h) (Or.inl ⟨by rfl, ?_⟩) ?_ ?_
           rotate_left
           · intro w'
             go_simp
             with_reducible rfl
           rotate_left
           · simp only [Act.put, List.setIfInBounds_toArray, List.set_cons_zero, List.set_cons_succ, i64_w, i32_w]
             rfl
           refine pure_ (i := 20) (N := some 29) (v := ?_) (a' := ?_) (mS 25 1597729) rfl rfl (any_of HT_.out (by kernel_rfl)) (fun _ _ _ h => h) (Or.inl ⟨by rfl, ?_⟩) ?_ ?_
           rotate_left
           · intro w'
             go_simp
             with_reducible rfl
           rotate_left
           · simp only [Act.put, List.setIfInBounds_toArray, List.set_cons_zero, List.set_cons_succ, i64_w, i32_w]
             rfl
           refine take_ (i := 1) (N := some 10) (v := ?_) (a' := ?_) (mS 25 1597731) rfl rfl (take_ofW HT_.out HW_.out (by kernel_rfl)) (fun _ _ _ h => h) (Or.inl ⟨by rfl, ?_⟩) hHeld ?_ ?_
           rotate_left
           · rintro w' ⟨s0, s1, s2, s3, s4, s5, s6, s7, s8⟩
             go_simp
             with_reducible rfl
           rotate_left
           · simp only [Act.put, List.setIfInBounds_toArray, List.set_cons_zero, List.set_cons_succ, i64_w, i32_w]
             rfl
           refine pure_ (i := 2) (N := some 11) (v := ?_) (a' := ?_) (mS 25 1597735) rfl rfl (any_of HT_.out (by kernel_rfl)) (fun _ _ _ h => h) (Or.inl ⟨by rfl, ?_⟩) ?_ ?_
           rotate_left
           · intro w'
             go_simp
             with_reducible rfl
           rotate_left
           · simp only [Act.put, List.setIfInBounds_toArray, List.set_cons_zero, List.set_cons_succ, i64_w, i32_w]
             rfl
           refine pure_ (i := 3) (N := some 12) (v := ?_) (a' := ?_) (mS 25 1597743) rfl rfl (any_of HT_.out (by kernel_rfl)) (fun _ _ _ h => h) (Or.inl ⟨by rfl, ?_⟩) ?_ ?_
           rotate_left
           · intro w'
             go_simp
             with_reducible rfl
           rotate_left
           · simp only [Act.put, List.setIfInBounds_toArray, List.set_cons_zero, List.set_cons_succ, i64_w, i32_w]
             rfl
           refine pure_ (i := 4) (N := some 13) (v := ?_) (a' := ?_) (mS 25 1597759) rfl rfl (any_of HT_.out (by kernel_rfl)) (fun _ _ _ h => h) (Or.inl ⟨by rfl, ?_⟩) ?_ ?_
           rotate_left
           · intro w'
             go_simp
             with_reducible rfl
           rotate_left
           · simp only [Act.put, List.setIfInBounds_toArray, List.set_cons_zero, List.set_cons_succ, i64_w, i32_w]
             rfl
           refine take_ (i := 6) (N := some 15) (v := ?_) (a' := ?_) (mS 25 1597823) rfl rfl (take_ofW HT_.out HW_.out (by kernel_rfl)) (fun _ _ _ h => h) (Or.inl ⟨by rfl, ?_⟩) hHeld ?_ ?_
           rotate_left
           · rintro w' ⟨s0, s1, s2, s3, s4, s5, s6, s7, s8⟩
             go_simp
             with_reducible rfl
           rotate_left
           · simp only [Act.put, List.setIfInBounds_toArray, List.set_cons_zero, List.set_cons_succ, i64_w, i32_w]
             rfl
           refine take_ (i := 9) (N := some 18) (v := ?_) (a' := ?_) (mS 25 1598335) rfl rfl (take_ofW HT_.out HW_.out (by kernel_rfl)) (fun _ _ _ h => h) (Or.inl ⟨by rfl, ?_⟩) hHeld ?_ ?_
           rotate_left
           · rintro w' ⟨s0, s1, s2, s3, s4, s5, s6, s7, s8⟩
             go_simp
             with_reducible rfl
           rotate_left
           · simp only [Act.put, List.setIfInBounds_toArray, List.set_cons_zero, List.set_cons_succ, i64_w, i32_w]
             rfl
           refine take_ (i := 15) (N := some 24) (v := ?_) (a' := ?_) (mS 25 1631103) rfl rfl (take_ofW HT_.out HW_.out (by kernel_rfl)) (fun _ _ _ h => h) (Or.inl ⟨by rfl, ?_⟩) hHeld ?_ ?_
           rotate_left
           · rintro w' ⟨s0, s1, s2, s3, s4, s5, s6, s7, s8⟩
             go_simp
             with_reducible rfl
           rotate_left
           · simp only [Act.put, List.setIfInBounds_toArray, List.set_cons_zero, List.set_cons_succ, i64_w, i32_w]
             rfl
           refine take_ (i := 21) (N := some 30) (v := ?_) (a' := ?_) (mS 25 3728255) rfl rfl (take_ofW HT_.out HW_.out (by kernel_rfl)) (fun _ _ _ h => h) (Or.inl ⟨by rfl, ?_⟩) hHeld ?_ ?_
           rotate_left
           · rintro w' ⟨s0, s1, s2, s3, s4, s5, s6, s7, s8⟩
             go_simp
             with_reducible rfl
           rotate_left
           · simp only [Act.put, List.setIfInBounds_toArray, List.set_cons_zero, List.set_cons_succ, i64_w, i32_w]
             rfl
           refine one_ (i := 7) (N := some 16) (mS 25 3728383) rfl rfl (one_of HT_.out (by kernel_rfl)) (by decide) (fun K hK => ?_)
           refine goes_ Try.func42 (by kernel_rfl) rfl #[.int .i64 a0_1] (by rfl) rfl rfl (by (try simp only [List.map_toArray, List.map_cons, List.map_nil]); first | done | rfl | (simp only [List.length_drop, List.length_take]; rfl)) ?_
           with_reducible refine (subchannel_number.calls a0_1 t161 _ A4.out).mono ?_
           rintro e w17 ⟨rfl, hb⟩
           refine ⟨_, rfl, ?_⟩
           have n0_ := Aside0.mk (blk_below (g := gb159) (o := .cells #[.int .i64 a0_0, .int .i64 a0_1, .int .i64 a0_2, .int .i64 a0_3, .int .i64 a0_4, .int .i64 a0_5, .int .i64 a0_6, .int .i64 a0_7, .int .i64 a0_8] 27 (0, 0)) (by (with_reducible repeat (first | refine blk_drewN ?_ _ | refine blk_drew ?_ | refine blk_alloc ?_ _)); exact BK159.out) hb)
           have n1_ := Aside0.mk (below_step (by repeat (first | (with_reducible first | exact HB.out | apply below_alloc | apply pw_below_drewN | apply below_drew1 | refine below_set ?_ GE159.out) | exact HB.out)) hb)
           clear BK159
           clear HB
           have BK159 := n0_
           have HB := n1_
           clear n0_ n1_
           (try clear hb)
           (try clear hb2)
           (try clear hk)
           (try clear hi)
           refine hK.out _ _ ⟨(blk_cell BK159.out 0).trans rfl, (blk_cell BK159.out 1).trans rfl, (blk_cell BK159.out 2).trans rfl, (blk_cell BK159.out 3).trans rfl, (blk_cell BK159.out 4).trans rfl, (blk_cell BK159.out 5).trans rfl, (blk_cell BK159.out 6).trans rfl, (blk_cell BK159.out 7).trans rfl, (blk_cell BK159.out 8).trans rfl⟩ (fun hHeld => ?_)
           clear hK K
           refine norm_ (a' := ?_) ?_ ?_
           rotate_left
           · show Act.put _ (some 16) _ = _
             simp only [Act.put, List.setIfInBounds_toArray, List.set_cons_zero, List.set_cons_succ, i64_w, i32_w]
             rfl
           refine one_ (i := 10) (N := some 19) (mS 25 3729407) rfl rfl (one_of HT_.out (by kernel_rfl)) (by decide) (fun K hK => ?_)
           refine goes_ Try.func42 (by kernel_rfl) rfl #[.int .i64 a0_2] (by rfl) rfl rfl (by (try simp only [List.map_toArray, List.map_cons, List.map_nil]); first | done | rfl | (simp only [List.length_drop, List.length_take]; rfl)) ?_
           with_reducible refine (subchannel_number.calls a0_2 t162 _ A5.out).mono ?_
           rintro e w18 ⟨rfl, hb⟩
           refine ⟨_, rfl, ?_⟩
           have n0_ := Aside0.mk (blk_below (g := gb159) (o := .cells #[.int .i64 a0_0, .int .i64 a0_1, .int .i64 a0_2, .int .i64 a0_3, .int .i64 a0_4, .int .i64 a0_5, .int .i64 a0_6, .int .i64 a0_7, .int .i64 a0_8] 27 (0, 0)) (by (with_reducible repeat (first | refine blk_drewN ?_ _ | refine blk_drew ?_ | refine blk_alloc ?_ _)); exact BK159.out) hb)
           have n1_ := Aside0.mk (below_step (by repeat (first | (with_reducible first | exact HB.out | apply below_alloc | apply pw_below_drewN | apply below_drew1 | refine below_set ?_ GE159.out) | exact HB.out)) hb)
           clear BK159
           clear HB
           have BK159 := n0_
           have HB := n1_
           clear n0_ n1_
           (try clear hb)
           (try clear hb2)
           (try clear hk)
           (try clear hi)
           refine hK.out _ _ ⟨(blk_cell BK159.out 0).trans rfl, (blk_cell BK159.out 1).trans rfl, (blk_cell BK159.out 2).trans rfl, (blk_cell BK159.out 3).trans rfl, (blk_cell BK159.out 4).trans rfl, (blk_cell BK159.out 5).trans rfl, (blk_cell BK159.out 6).trans rfl, (blk_cell BK159.out 7).trans rfl, (blk_cell BK159.out 8).trans rfl⟩ (fun hHeld => ?_)
           clear hK K
           refine norm_ (a' := ?_) ?_ ?_
           rotate_left
           · show Act.put _ (some 19) _ = _
             simp only [Act.put, List.setIfInBounds_toArray, List.set_cons_zero, List.set_cons_succ, i64_w, i32_w]
             rfl
           refine join_ (σ := Value) 2 #[true, true, true, true, true, true, true, true, true, true, true, true, true, true, true, true, true, true, true, true, true, true, true, false, false] (fun s_ => [(20, s_), (21, .string (strOfNums y163)), (25, .string t166), (31, .string t167), (26, .string ((strOfNums y163) ++ t166)), (27, .string (((strOfNums y163) ++ t166) ++ (⟨#[0]⟩ : ByteArray)))]) (fun s_ w' => (w'.cell? ⟨gb159, 0, none⟩ = some (.int .i64 a0_0) ∧ w'.cell? ⟨gb159, 1, none⟩ = some (.int .i64 a0_1) ∧ w'.cell? ⟨gb159, 2, none⟩ = some (.int .i64 a0_2) ∧ w'.cell? ⟨gb159, 3, none⟩ = some (.int .i64 a0_3) ∧ w'.cell? ⟨gb159, 4, none⟩ = some (.int .i64 a0_4) ∧ w'.cell? ⟨gb159, 5, none⟩ = some (.int .i64 a0_5) ∧ w'.cell? ⟨gb159, 6, none⟩ = some (.int .i64 a0_6) ∧ w'.cell? ⟨gb159, 7, none⟩ = some (.int .i64 a0_7) ∧ w'.cell? ⟨gb159, 8, none⟩ = some (.int .i64 a0_8)) ∧ (Kd.R (Kd.int .u8) 5 w' w.heap.size (fun _ => True) s_ y163) ∧ (w'.heap[gb159]? = some (.cells #[.int .i64 a0_0, .int .i64 a0_1, .int .i64 a0_2, .int .i64 a0_3, .int .i64 a0_4, .int .i64 a0_5, .int .i64 a0_6, .int .i64 a0_7, .int .i64 a0_8] 27 (0, 0))) ∧ (Below w.heap.size w w')) ?_ ?_
           rotate_left
           · intro hJ11_12_16_22
             refine join_ (σ := Value) 3 #[true, true, true, true, true, true, true, true, true, true, true, true, true, true, true, true, true, true, true, true, true, true, false, false, false] (fun s_ => [(20, s_), (21, .string (strOfNums y163)), (25, .string t166), (26, .string ((strOfNums y163) ++ t166)), (27, .string (((strOfNums y163) ++ t166) ++ (⟨#[0]⟩ : ByteArray)))]) (fun s_ w' => (w'.cell? ⟨gb159, 0, none⟩ = some (.int .i64 a0_0) ∧ w'.cell? ⟨gb159, 1, none⟩ = some (.int .i64 a0_1) ∧ w'.cell? ⟨gb159, 2, none⟩ = some (.int .i64 a0_2) ∧ w'.cell? ⟨gb159, 3, none⟩ = some (.int .i64 a0_3) ∧ w'.cell? ⟨gb159, 4, none⟩ = some (.int .i64 a0_4) ∧ w'.cell? ⟨gb159, 5, none⟩ = some (.int .i64 a0_5) ∧ w'.cell? ⟨gb159, 6, none⟩ = some (.int .i64 a0_6) ∧ w'.cell? ⟨gb159, 7, none⟩ = some (.int .i64 a0_7) ∧ w'.cell? ⟨gb159, 8, none⟩ = some (.int .i64 a0_8)) ∧ (Kd.R (Kd.int .u8) 5 w' w.heap.size (fun _ => True) s_ y163) ∧ (w'.heap[gb159]? = some (.cells #[.int .i64 a0_0, .int .i64 a0_1, .int .i64 a0_2, .int .i64 a0_3, .int .i64 a0_4, .int .i64 a0_5, .int .i64 a0_6, .int .i64 a0_7, .int .i64 a0_8] 27 (0, 0))) ∧ (Below w.heap.size w w')) ?_ ?_
             rotate_left
             · intro hJ11_12_16
               refine join_ (σ := Value) 5 #[true, true, true, true, true, true, true, true, true, true, true, true, false, true, true, true, true, false, false, true, true, true, true, false, false] (fun s_ => [(20, s_), (25, .string t166), (31, .string t167)]) (fun s_ w' => (w'.cell? ⟨gb159, 0, none⟩ = some (.int .i64 a0_0) ∧ w'.cell? ⟨gb159, 1, none⟩ = some (.int .i64 a0_1) ∧ w'.cell? ⟨gb159, 2, none⟩ = some (.int .i64 a0_2) ∧ w'.cell? ⟨gb159, 3, none⟩ = some (.int .i64 a0_3) ∧ w'.cell? ⟨gb159, 4, none⟩ = some (.int .i64 a0_4) ∧ w'.cell? ⟨gb159, 5, none⟩ = some (.int .i64 a0_5) ∧ w'.cell? ⟨gb159, 6, none⟩ = some (.int .i64 a0_6) ∧ w'.cell? ⟨gb159, 7, none⟩ = some (.int .i64 a0_7) ∧ w'.cell? ⟨gb159, 8, none⟩ = some (.int .i64 a0_8)) ∧ (Kd.R (Kd.int .u8) 5 w' w.heap.size (fun _ => True) s_ y163) ∧ (w'.heap[gb159]? = some (.cells #[.int .i64 a0_0, .int .i64 a0_1, .int .i64 a0_2, .int .i64 a0_3, .int .i64 a0_4, .int .i64 a0_5, .int .i64 a0_6, .int .i64 a0_7, .int .i64 a0_8] 27 (0, 0))) ∧ (Below w.heap.size w w')) ?_ ?_
               rotate_left
               · intro hJ11_16_22
                 refine join_ (σ := Value) 6 #[true, true, true, true, true, true, true, true, true, true, true, true, true, true, true, true, false, false, false, true, true, true, false, false, false] (fun s_ => [(20, s_), (21, .string (strOfNums y163))]) (fun s_ w' => (w'.cell? ⟨gb159, 0, none⟩ = some (.int .i64 a0_0) ∧ w'.cell? ⟨gb159, 1, none⟩ = some (.int .i64 a0_1) ∧ w'.cell? ⟨gb159, 2, none⟩ = some (.int .i64 a0_2) ∧ w'.cell? ⟨gb159, 3, none⟩ = some (.int .i64 a0_3) ∧ w'.cell? ⟨gb159, 4, none⟩ = some (.int .i64 a0_4) ∧ w'.cell? ⟨gb159, 5, none⟩ = some (.int .i64 a0_5) ∧ w'.cell? ⟨gb159, 6, none⟩ = some (.int .i64 a0_6) ∧ w'.cell? ⟨gb159, 7, none⟩ = some (.int .i64 a0_7) ∧ w'.cell? ⟨gb159, 8, none⟩ = some (.int .i64 a0_8)) ∧ (Kd.R (Kd.int .u8) 5 w' w.heap.size (fun _ => True) s_ y163) ∧ (w'.heap[gb159]? = some (.cells #[.int .i64 a0_0, .int .i64 a0_1, .int .i64 a0_2, .int .i64 a0_3, .int .i64 a0_4, .int .i64 a0_5, .int .i64 a0_6, .int .i64 a0_7, .int .i64 a0_8] 27 (0, 0))) ∧ (Below w.heap.size w w')) ?_ ?_
                 rotate_left
                 · intro hJ11_12
                   refine join_ (σ := Value) 6 #[true, true, true, true, true, true, true, true, true, true, true, true, false, true, true, true, true, false, false, true, true, true, false, false, false] (fun s_ => [(20, s_), (25, .string t166)]) (fun s_ w' => (w'.cell? ⟨gb159, 0, none⟩ = some (.int .i64 a0_0) ∧ w'.cell? ⟨gb159, 1, none⟩ = some (.int .i64 a0_1) ∧ w'.cell? ⟨gb159, 2, none⟩ = some (.int .i64 a0_2) ∧ w'.cell? ⟨gb159, 3, none⟩ = some (.int .i64 a0_3) ∧ w'.cell? ⟨gb159, 4, none⟩ = some (.int .i64 a0_4) ∧ w'.cell? ⟨gb159, 5, none⟩ = some (.int .i64 a0_5) ∧ w'.cell? ⟨gb159, 6, none⟩ = some (.int .i64 a0_6) ∧ w'.cell? ⟨gb159, 7, none⟩ = some (.int .i64 a0_7) ∧ w'.cell? ⟨gb159, 8, none⟩ = some (.int .i64 a0_8)) ∧ (Kd.R (Kd.int .u8) 5 w' w.heap.size (fun _ => True) s_ y163) ∧ (w'.heap[gb159]? = some (.cells #[.int .i64 a0_0, .int .i64 a0_1, .int .i64 a0_2, .int .i64 a0_3, .int .i64 a0_4, .int .i64 a0_5, .int .i64 a0_6, .int .i64 a0_7, .int .i64 a0_8] 27 (0, 0))) ∧ (Below w.heap.size w w')) ?_ ?_
                   rotate_left
                   · intro hJ11_16
                     refine join_ (σ := Unit) 6 #[true, true, true, true, true, true, true, true, true, true, true, false, false, true, true, true, true, false, false, true, true, true, true, false, false] (fun s_ => [(25, .string t166), (31, .string t167)]) (fun s_ w' => (w'.cell? ⟨gb159, 0, none⟩ = some (.int .i64 a0_0) ∧ w'.cell? ⟨gb159, 1, none⟩ = some (.int .i64 a0_1) ∧ w'.cell? ⟨gb159, 2, none⟩ = some (.int .i64 a0_2) ∧ w'.cell? ⟨gb159, 3, none⟩ = some (.int .i64 a0_3) ∧ w'.cell? ⟨gb159, 4, none⟩ = some (.int .i64 a0_4) ∧ w'.cell? ⟨gb159, 5, none⟩ = some (.int .i64 a0_5) ∧ w'.cell? ⟨gb159, 6, none⟩ = some (.int .i64 a0_6) ∧ w'.cell? ⟨gb159, 7, none⟩ = some (.int .i64 a0_7) ∧ w'.cell? ⟨gb159, 8, none⟩ = some (.int .i64 a0_8)) ∧ (w'.heap[gb159]? = some (.cells #[.int .i64 a0_0, .int .i64 a0_1, .int .i64 a0_2, .int .i64 a0_3, .int .i64 a0_4, .int .i64 a0_5, .int .i64 a0_6, .int .i64 a0_7, .int .i64 a0_8] 27 (0, 0))) ∧ (Below w.heap.size w w')) ?_ ?_
                     rotate_left
                     · intro hJ16_22
                       refine join_ (σ := Value) 7 #[true, true, true, true, true, true, true, true, true, true, true, true, false, true, true, true, false, false, false, true, true, true, false, false, false] (fun s_ => [(20, s_)]) (fun s_ w' => (w'.cell? ⟨gb159, 0, none⟩ = some (.int .i64 a0_0) ∧ w'.cell? ⟨gb159, 1, none⟩ = some (.int .i64 a0_1) ∧ w'.cell? ⟨gb159, 2, none⟩ = some (.int .i64 a0_2) ∧ w'.cell? ⟨gb159, 3, none⟩ = some (.int .i64 a0_3) ∧ w'.cell? ⟨gb159, 4, none⟩ = some (.int .i64 a0_4) ∧ w'.cell? ⟨gb159, 5, none⟩ = some (.int .i64 a0_5) ∧ w'.cell? ⟨gb159, 6, none⟩ = some (.int .i64 a0_6) ∧ w'.cell? ⟨gb159, 7, none⟩ = some (.int .i64 a0_7) ∧ w'.cell? ⟨gb159, 8, none⟩ = some (.int .i64 a0_8)) ∧ (Kd.R (Kd.int .u8) 5 w' w.heap.size (fun _ => True) s_ y163) ∧ (w'.heap[gb159]? = some (.cells #[.int .i64 a0_0, .int .i64 a0_1, .int .i64 a0_2, .int .i64 a0_3, .int .i64 a0_4, .int .i64 a0_5, .int .i64 a0_6, .int .i64 a0_7, .int .i64 a0_8] 27 (0, 0))) ∧ (Below w.heap.size w w')) ?_ ?_
                       rotate_left
                       · intro hJ11
                         refine join_ (σ := Unit) 7 #[true, true, true, true, true, true, true, true, true, true, true, false, false, true, true, true, true, false, false, true, true, true, false, false, false] (fun s_ => [(25, .string t166)]) (fun s_ w' => (w'.cell? ⟨gb159, 0, none⟩ = some (.int .i64 a0_0) ∧ w'.cell? ⟨gb159, 1, none⟩ = some (.int .i64 a0_1) ∧ w'.cell? ⟨gb159, 2, none⟩ = some (.int .i64 a0_2) ∧ w'.cell? ⟨gb159, 3, none⟩ = some (.int .i64 a0_3) ∧ w'.cell? ⟨gb159, 4, none⟩ = some (.int .i64 a0_4) ∧ w'.cell? ⟨gb159, 5, none⟩ = some (.int .i64 a0_5) ∧ w'.cell? ⟨gb159, 6, none⟩ = some (.int .i64 a0_6) ∧ w'.cell? ⟨gb159, 7, none⟩ = some (.int .i64 a0_7) ∧ w'.cell? ⟨gb159, 8, none⟩ = some (.int .i64 a0_8)) ∧ (w'.heap[gb159]? = some (.cells #[.int .i64 a0_0, .int .i64 a0_1, .int .i64 a0_2, .int .i64 a0_3, .int .i64 a0_4, .int .i64 a0_5, .int .i64 a0_6, .int .i64 a0_7, .int .i64 a0_8] 27 (0, 0))) ∧ (Below w.heap.size w w')) ?_ ?_
                         rotate_left
                         · intro hJ16
                           refine two_ (i := 11) (j := 16) (Ni := some 20) (Nj := some 25) #[true, true, true, true, true, true, true, true, true, true, true, true, false, true, true, true, false, false, false, true, true, true, false, false, false] (mS 25 3794943) rfl rfl rfl rfl (two_of HT_.out (by kernel_rfl)) (by decide) (by decide) (fun K hK => ?_) (fun K hK => ?_)
                           · skip
                             refine Kd.R_lit_step (Kd.int .u8) _ 5 ?hg (N := 20) ?hd (xs := ([(Go.bits .or .i64 (wrap64 (a0_0 * 16)) 1) % 256, t161, t162] : List Int)) (inner := [.int .u8 ((Go.bits .or .i64 (wrap64 (a0_0 * 16)) 1) % 256), .int .u8 t161, .int .u8 t162]) (ok := fun _ => True) (okp := fun _ => True) ?hr ?hp (fun _ hk => hk) trivial (Below.refl _ _) (Nat.le_refl _) (by simp) ?_; (case hd => rfl); (case hg => rfl); (case hr => first | (go_simp; done) | (go_simp; rfl)); (case hp => exact (Reps.one (show Kd.M (Kd.int .u8) _ _ _ ((Go.bits .or .i64 (wrap64 (a0_0 * 16)) 1) % 256) [.int .u8 ((Go.bits .or .i64 (wrap64 (a0_0 * 16)) 1) % 256)] from rfl) (Reps.one (show Kd.M (Kd.int .u8) _ _ _ t161 [.int .u8 t161] from rfl) (Reps.one (show Kd.M (Kd.int .u8) _ _ _ t162 [.int .u8 t162] from rfl) (Reps.none _ _)))))
                             intro v164 w19 ho20 hb hg_ hnew_
                             clear hg_ hnew_
                             (first | rw [← Ny163.out] at ho20 | (simp only [Int.reduceToNat] at ho20; rw [← Ny163.out] at ho20))
                             have n0_ := Aside0.mk (Kd.R_lower ho20 (below_size (by repeat (first | (with_reducible first | exact HB.out | apply below_alloc | apply pw_below_drewN | apply below_drew1 | refine below_set ?_ GE159.out) | exact HB.out))))
                             have n1_ := Aside0.mk (blk_below (g := gb159) (o := .cells #[.int .i64 a0_0, .int .i64 a0_1, .int .i64 a0_2, .int .i64 a0_3, .int .i64 a0_4, .int .i64 a0_5, .int .i64 a0_6, .int .i64 a0_7, .int .i64 a0_8] 27 (0, 0)) (by (with_reducible repeat (first | refine blk_drewN ?_ _ | refine blk_drew ?_ | refine blk_alloc ?_ _)); exact BK159.out) hb)
                             have n2_ := Aside0.mk (below_step (by repeat (first | (with_reducible first | exact HB.out | apply below_alloc | apply pw_below_drewN | apply below_drew1 | refine below_set ?_ GE159.out) | exact HB.out)) hb)
                             clear BK159
                             clear HB
                             have HO165 := n0_
                             have BK159 := n1_
                             have HB := n2_
                             clear n0_ n1_ n2_
                             clear hb ho20
                             refine hK.out _ _ ⟨(blk_cell BK159.out 0).trans rfl, (blk_cell BK159.out 1).trans rfl, (blk_cell BK159.out 2).trans rfl, (blk_cell BK159.out 3).trans rfl, (blk_cell BK159.out 4).trans rfl, (blk_cell BK159.out 5).trans rfl, (blk_cell BK159.out 6).trans rfl, (blk_cell BK159.out 7).trans rfl, (blk_cell BK159.out 8).trans rfl⟩ (fun hHeld => ?_)
                             clear hK K
                             refine norm_ (a' := ?_) ?_ ?_
                             rotate_left
                             · show Act.put _ (some 20) _ = _
                               simp only [Act.put, List.setIfInBounds_toArray, List.set_cons_zero, List.set_cons_succ, i64_w, i32_w]
                               rfl
                             exact norm_ (by first | (simp only [putAll, Act.put, List.setIfInBounds_toArray, List.set_cons_zero, List.set_cons_succ]; done) | (simp only [putAll, Act.put, List.setIfInBounds_toArray, List.set_cons_zero, List.set_cons_succ]; rfl)) (hJ11 (v164) _ ⟨hHeld, (by (with_reducible repeat (first | apply Kd.R_alloc | apply Kd.R_drewN | apply Kd.R_drew)); exact HO165.out), (by (with_reducible repeat (first | refine blk_drewN ?_ _ | refine blk_drew ?_ | refine blk_alloc ?_ _)); exact BK159.out), (by repeat (first | (with_reducible first | exact HB.out | apply below_alloc | apply pw_below_drewN | apply below_drew1 | refine below_set ?_ GE159.out) | exact HB.out))⟩)
                           · skip
                             refine goesV_ Try.func40 (by kernel_rfl) rfl #[.agg #[.int .i64 a0_3, .int .i64 a0_4, .int .i64 a0_5]] (by rfl) rfl rfl rfl (by (try simp only [List.map_toArray, List.map_cons, List.map_nil]); first | done | rfl | (simp only [List.length_drop, List.length_take]; rfl)) ?_
                             with_reducible refine (subchannel_Encode_1.calls a0_3 a0_4 a0_5 t166 _ A6.out).mono ?_
                             rintro e w19 ⟨rfl, hb⟩
                             refine ⟨_, rfl, ?_⟩
                             have n0_ := Aside0.mk (blk_below (g := gb159) (o := .cells #[.int .i64 a0_0, .int .i64 a0_1, .int .i64 a0_2, .int .i64 a0_3, .int .i64 a0_4, .int .i64 a0_5, .int .i64 a0_6, .int .i64 a0_7, .int .i64 a0_8] 27 (0, 0)) (by (with_reducible repeat (first | refine blk_drewN ?_ _ | refine blk_drew ?_ | refine blk_alloc ?_ _)); exact BK159.out) hb)
                             have n1_ := Aside0.mk (below_step (by repeat (first | (with_reducible first | exact HB.out | apply below_alloc | apply pw_below_drewN | apply below_drew1 | refine below_set ?_ GE159.out) | exact HB.out)) hb)
                             clear BK159
                             clear HB
                             have BK159 := n0_
                             have HB := n1_
                             clear n0_ n1_
                             (try clear hb)
                             (try clear hb2)
                             (try clear hk)
                             (try clear hi)
                             refine hK.out _ _ ⟨(blk_cell BK159.out 0).trans rfl, (blk_cell BK159.out 1).trans rfl, (blk_cell BK159.out 2).trans rfl, (blk_cell BK159.out 3).trans rfl, (blk_cell BK159.out 4).trans rfl, (blk_cell BK159.out 5).trans rfl, (blk_cell BK159.out 6).trans rfl, (blk_cell BK159.out 7).trans rfl, (blk_cell BK159.out 8).trans rfl⟩ (fun hHeld => ?_)
                             clear hK K
                             refine norm_ (a' := ?_) ?_ ?_
                             rotate_left
                             · show Act.put _ (some 25) _ = _
                               simp only [Act.put, List.setIfInBounds_toArray, List.set_cons_zero, List.set_cons_succ, i64_w, i32_w]
                               rfl
                             exact norm_ (by first | (simp only [putAll, Act.put, List.setIfInBounds_toArray, List.set_cons_zero, List.set_cons_succ]; done) | (simp only [putAll, Act.put, List.setIfInBounds_toArray, List.set_cons_zero, List.set_cons_succ]; rfl)) (hJ16 () _ ⟨hHeld, (by (with_reducible repeat (first | refine blk_drewN ?_ _ | refine blk_drew ?_ | refine blk_alloc ?_ _)); exact BK159.out), (by repeat (first | (with_reducible first | exact HB.out | apply below_alloc | apply pw_below_drewN | apply below_drew1 | refine below_set ?_ GE159.out) | exact HB.out))⟩)
                         · skip
                           rintro _ w20 ⟨hS_, h0_, h1_⟩
                           have n0_ : Aside0 (w20.heap[gb159]? = some (.cells #[.int .i64 a0_0, .int .i64 a0_1, .int .i64 a0_2, .int .i64 a0_3, .int .i64 a0_4, .int .i64 a0_5, .int .i64 a0_6, .int .i64 a0_7, .int .i64 a0_8] 27 (0, 0))) := ⟨h0_⟩
                           have n1_ : Aside0 (Below w.heap.size w w20) := ⟨h1_⟩
                           clear BK159
                           clear HB
                           clear h0_ h1_
                           have BK159 := n0_
                           have HB := n1_
                           clear n0_ n1_
                           have hHeld : w20.cell? ⟨gb159, 0, none⟩ = some (.int .i64 a0_0) ∧ w20.cell? ⟨gb159, 1, none⟩ = some (.int .i64 a0_1) ∧ w20.cell? ⟨gb159, 2, none⟩ = some (.int .i64 a0_2) ∧ w20.cell? ⟨gb159, 3, none⟩ = some (.int .i64 a0_3) ∧ w20.cell? ⟨gb159, 4, none⟩ = some (.int .i64 a0_4) ∧ w20.cell? ⟨gb159, 5, none⟩ = some (.int .i64 a0_5) ∧ w20.cell? ⟨gb159, 6, none⟩ = some (.int .i64 a0_6) ∧ w20.cell? ⟨gb159, 7, none⟩ = some (.int .i64 a0_7) ∧ w20.cell? ⟨gb159, 8, none⟩ = some (.int .i64 a0_8) := hS_
                           refine norm_ (a' := ?_) ?_ ?_
                           rotate_left
                           · simp only [putAll, Act.put, List.setIfInBounds_toArray, List.set_cons_zero, List.set_cons_succ]
                             rfl
                           refine two_ (i := 11) (j := 22) (Ni := some 20) (Nj := some 31) #[true, true, true, true, true, true, true, true, true, true, true, true, false, true, true, true, true, false, false, true, true, true, false, false, false] (mS 25 7989247) rfl rfl rfl rfl (two_of HT_.out (by kernel_rfl)) (by decide) (by decide) (fun K hK => ?_) (fun K hK => ?_)
                           · skip
                             refine Kd.R_lit_step (Kd.int .u8) _ 5 ?hg (N := 20) ?hd (xs := ([(Go.bits .or .i64 (wrap64 (a0_0 * 16)) 1) % 256, t161, t162] : List Int)) (inner := [.int .u8 ((Go.bits .or .i64 (wrap64 (a0_0 * 16)) 1) % 256), .int .u8 t161, .int .u8 t162]) (ok := fun _ => True) (okp := fun _ => True) ?hr ?hp (fun _ hk => hk) trivial (Below.refl _ _) (Nat.le_refl _) (by simp) ?_; (case hd => rfl); (case hg => rfl); (case hr => first | (go_simp; done) | (go_simp; rfl)); (case hp => exact (Reps.one (show Kd.M (Kd.int .u8) _ _ _ ((Go.bits .or .i64 (wrap64 (a0_0 * 16)) 1) % 256) [.int .u8 ((Go.bits .or .i64 (wrap64 (a0_0 * 16)) 1) % 256)] from rfl) (Reps.one (show Kd.M (Kd.int .u8) _ _ _ t161 [.int .u8 t161] from rfl) (Reps.one (show Kd.M (Kd.int .u8) _ _ _ t162 [.int .u8 t162] from rfl) (Reps.none _ _)))))
                             intro v164 w21 ho22 hb hg_ hnew_
                             clear hg_ hnew_
                             (first | rw [← Ny163.out] at ho22 | (simp only [Int.reduceToNat] at ho22; rw [← Ny163.out] at ho22))
                             have n0_ := Aside0.mk (Kd.R_lower ho22 (below_size (by repeat (first | (with_reducible first | exact HB.out | apply below_alloc | apply pw_below_drewN | apply below_drew1 | refine below_set ?_ GE159.out) | exact HB.out))))
                             have n1_ := Aside0.mk (blk_below (g := gb159) (o := .cells #[.int .i64 a0_0, .int .i64 a0_1, .int .i64 a0_2, .int .i64 a0_3, .int .i64 a0_4, .int .i64 a0_5, .int .i64 a0_6, .int .i64 a0_7, .int .i64 a0_8] 27 (0, 0)) (by (with_reducible repeat (first | refine blk_drewN ?_ _ | refine blk_drew ?_ | refine blk_alloc ?_ _)); exact BK159.out) hb)
                             have n2_ := Aside0.mk (below_step (by repeat (first | (with_reducible first | exact HB.out | apply below_alloc | apply pw_below_drewN | apply below_drew1 | refine below_set ?_ GE159.out) | exact HB.out)) hb)
                             clear BK159
                             clear HB
                             have HO165 := n0_
                             have BK159 := n1_
                             have HB := n2_
                             clear n0_ n1_ n2_
                             clear hb ho22
                             refine hK.out _ _ ⟨(blk_cell BK159.out 0).trans rfl, (blk_cell BK159.out 1).trans rfl, (blk_cell BK159.out 2).trans rfl, (blk_cell BK159.out 3).trans rfl, (blk_cell BK159.out 4).trans rfl, (blk_cell BK159.out 5).trans rfl, (blk_cell BK159.out 6).trans rfl, (blk_cell BK159.out 7).trans rfl, (blk_cell BK159.out 8).trans rfl⟩ (fun hHeld => ?_)
                             clear hK K
                             refine norm_ (a' := ?_) ?_ ?_
                             rotate_left
                             · show Act.put _ (some 20) _ = _
                               simp only [Act.put, List.setIfInBounds_toArray, List.set_cons_zero, List.set_cons_succ, i64_w, i32_w]
                               rfl
                             exact norm_ (by first | (simp only [putAll, Act.put, List.setIfInBounds_toArray, List.set_cons_zero, List.set_cons_succ]; done) | (simp only [putAll, Act.put, List.setIfInBounds_toArray, List.set_cons_zero, List.set_cons_succ]; rfl)) (hJ11_16 (v164) _ ⟨hHeld, (by (with_reducible repeat (first | apply Kd.R_alloc | apply Kd.R_drewN | apply Kd.R_drew)); exact HO165.out), (by (with_reducible repeat (first | refine blk_drewN ?_ _ | refine blk_drew ?_ | refine blk_alloc ?_ _)); exact BK159.out), (by repeat (first | (with_reducible first | exact HB.out | apply below_alloc | apply pw_below_drewN | apply below_drew1 | refine below_set ?_ GE159.out) | exact HB.out))⟩)
                           · skip
                             refine goesV_ Try.func40 (by kernel_rfl) rfl #[.agg #[.int .i64 a0_6, .int .i64 a0_7, .int .i64 a0_8]] (by rfl) rfl rfl rfl (by (try simp only [List.map_toArray, List.map_cons, List.map_nil]); first | done | rfl | (simp only [List.length_drop, List.length_take]; rfl)) ?_
                             with_reducible refine (subchannel_Encode_1.calls a0_6 a0_7 a0_8 t167 _ A9.out).mono ?_
                             rintro e w21 ⟨rfl, hb⟩
                             refine ⟨_, rfl, ?_⟩
                             have n0_ := Aside0.mk (blk_below (g := gb159) (o := .cells #[.int .i64 a0_0, .int .i64 a0_1, .int .i64 a0_2, .int .i64 a0_3, .int .i64 a0_4, .int .i64 a0_5, .int .i64 a0_6, .int .i64 a0_7, .int .i64 a0_8] 27 (0, 0)) (by (with_reducible repeat (first | refine blk_drewN ?_ _ | refine blk_drew ?_ | refine blk_alloc ?_ _)); exact BK159.out) hb)
                             have n1_ := Aside0.mk (below_step (by repeat (first | (with_reducible first | exact HB.out | apply below_alloc | apply pw_below_drewN | apply below_drew1 | refine below_set ?_ GE159.out) | exact HB.out)) hb)
                             clear BK159
                             clear HB
                             have BK159 := n0_
                             have HB := n1_
                             clear n0_ n1_
                             (try clear hb)
                             (try clear hb2)
                             (try clear hk)
                             (try clear hi)
                             refine hK.out _ _ ⟨(blk_cell BK159.out 0).trans rfl, (blk_cell BK159.out 1).trans rfl, (blk_cell BK159.out 2).trans rfl, (blk_cell BK159.out 3).trans rfl, (blk_cell BK159.out 4).trans rfl, (blk_cell BK159.out 5).trans rfl, (blk_cell BK159.out 6).trans rfl, (blk_cell BK159.out 7).trans rfl, (blk_cell BK159.out 8).trans rfl⟩ (fun hHeld => ?_)
                             clear hK K
                             refine norm_ (a' := ?_) ?_ ?_
                             rotate_left
                             · show Act.put _ (some 31) _ = _
                               simp only [Act.put, List.setIfInBounds_toArray, List.set_cons_zero, List.set_cons_succ, i64_w, i32_w]
                               rfl
                             exact norm_ (by first | (simp only [putAll, Act.put, List.setIfInBounds_toArray, List.set_cons_zero, List.set_cons_succ]; done) | (simp only [putAll, Act.put, List.setIfInBounds_toArray, List.set_cons_zero, List.set_cons_succ]; rfl)) (hJ16_22 () _ ⟨hHeld, (by (with_reducible repeat (first | refine blk_drewN ?_ _ | refine blk_drew ?_ | refine blk_alloc ?_ _)); exact BK159.out), (by repeat (first | (with_reducible first | exact HB.out | apply below_alloc | apply pw_below_drewN | apply below_drew1 | refine below_set ?_ GE159.out) | exact HB.out))⟩)
                       · skip
                         rintro v164 w21 ⟨hS_, h0_, h1_, h2_⟩
                         have n0_ : Aside0 (Kd.R (Kd.int .u8) 5 w21 w.heap.size (fun _ => True) v164 y163) := ⟨h0_⟩
                         have n1_ : Aside0 (w21.heap[gb159]? = some (.cells #[.int .i64 a0_0, .int .i64 a0_1, .int .i64 a0_2, .int .i64 a0_3, .int .i64 a0_4, .int .i64 a0_5, .int .i64 a0_6, .int .i64 a0_7, .int .i64 a0_8] 27 (0, 0))) := ⟨h1_⟩
                         have n2_ : Aside0 (Below w.heap.size w w21) := ⟨h2_⟩
                         clear BK159
                         clear HB
                         clear h0_ h1_ h2_
                         have HO165 := n0_
                         have BK159 := n1_
                         have HB := n2_
                         clear n0_ n1_ n2_
                         have hHeld : w21.cell? ⟨gb159, 0, none⟩ = some (.int .i64 a0_0) ∧ w21.cell? ⟨gb159, 1, none⟩ = some (.int .i64 a0_1) ∧ w21.cell? ⟨gb159, 2, none⟩ = some (.int .i64 a0_2) ∧ w21.cell? ⟨gb159, 3, none⟩ = some (.int .i64 a0_3) ∧ w21.cell? ⟨gb159, 4, none⟩ = some (.int .i64 a0_4) ∧ w21.cell? ⟨gb159, 5, none⟩ = some (.int .i64 a0_5) ∧ w21.cell? ⟨gb159, 6, none⟩ = some (.int .i64 a0_6) ∧ w21.cell? ⟨gb159, 7, none⟩ = some (.int .i64 a0_7) ∧ w21.cell? ⟨gb159, 8, none⟩ = some (.int .i64 a0_8) := hS_
                         refine norm_ (a' := ?_) ?_ ?_
                         rotate_left
                         · simp only [putAll, Act.put, List.setIfInBounds_toArray, List.set_cons_zero, List.set_cons_succ]
                           rfl
                         refine two_ (i := 12) (j := 16) (Ni := some 21) (Nj := some 25) #[true, true, true, true, true, true, true, true, true, true, true, true, true, true, true, true, false, false, false, true, true, true, false, false, false] (mS 25 3796991) rfl rfl rfl rfl (two_of HT_.out (by kernel_rfl)) (by decide) (by decide) (fun K hK => ?_) (fun K hK => ?_)
                         · skip
                           have hcv22 := own_string (P := Try.prog) Try.underlying49 Try.underlying5 Try.underlying9 (Kd.own_of_R HO165.out)
                           refine value_ (w1 := ?_) (v := ?_) (by rfl) rfl ?_ ?_
                           rotate_left 2
                           · go_simp
                             constructor
                             · rfl
                             · rfl
                           clear hcv22
                           refine hK.out _ _ ⟨(blk_cell BK159.out 0).trans rfl, (blk_cell BK159.out 1).trans rfl, (blk_cell BK159.out 2).trans rfl, (blk_cell BK159.out 3).trans rfl, (blk_cell BK159.out 4).trans rfl, (blk_cell BK159.out 5).trans rfl, (blk_cell BK159.out 6).trans rfl, (blk_cell BK159.out 7).trans rfl, (blk_cell BK159.out 8).trans rfl⟩ (fun hHeld => ?_)
                           clear hK K
                           refine norm_ (a' := ?_) ?_ ?_
                           rotate_left
                           · show Act.put _ (some 21) _ = _
                             simp only [Act.put, List.setIfInBounds_toArray, List.set_cons_zero, List.set_cons_succ, i64_w, i32_w]
                             rfl
                           exact norm_ (by first | (simp only [putAll, Act.put, List.setIfInBounds_toArray, List.set_cons_zero, List.set_cons_succ]; done) | (simp only [putAll, Act.put, List.setIfInBounds_toArray, List.set_cons_zero, List.set_cons_succ]; rfl)) (hJ11_12 (v164) _ ⟨hHeld, (by (with_reducible repeat (first | apply Kd.R_alloc | apply Kd.R_drewN | apply Kd.R_drew)); exact HO165.out), (by (with_reducible repeat (first | refine blk_drewN ?_ _ | refine blk_drew ?_ | refine blk_alloc ?_ _)); exact BK159.out), (by repeat (first | (with_reducible first | exact HB.out | apply below_alloc | apply pw_below_drewN | apply below_drew1 | refine below_set ?_ GE159.out) | exact HB.out))⟩)
                         · skip
                           refine goesV_ Try.func40 (by kernel_rfl) rfl #[.agg #[.int .i64 a0_3, .int .i64 a0_4, .int .i64 a0_5]] (by rfl) rfl rfl rfl (by (try simp only [List.map_toArray, List.map_cons, List.map_nil]); first | done | rfl | (simp only [List.length_drop, List.length_take]; rfl)) ?_
                           with_reducible refine (subchannel_Encode_1.calls a0_3 a0_4 a0_5 t166 _ A6.out).mono ?_
                           rintro e w22 ⟨rfl, hb⟩
                           refine ⟨_, rfl, ?_⟩
                           have n0_ := Aside0.mk (Kd.R_below (by (with_reducible repeat (first | apply Kd.R_alloc | apply Kd.R_drewN | apply Kd.R_drew)); exact HO165.out) hb)
                           have n1_ := Aside0.mk (blk_below (g := gb159) (o := .cells #[.int .i64 a0_0, .int .i64 a0_1, .int .i64 a0_2, .int .i64 a0_3, .int .i64 a0_4, .int .i64 a0_5, .int .i64 a0_6, .int .i64 a0_7, .int .i64 a0_8] 27 (0, 0)) (by (with_reducible repeat (first | refine blk_drewN ?_ _ | refine blk_drew ?_ | refine blk_alloc ?_ _)); exact BK159.out) hb)
                           have n2_ := Aside0.mk (below_step (by repeat (first | (with_reducible first | exact HB.out | apply below_alloc | apply pw_below_drewN | apply below_drew1 | refine below_set ?_ GE159.out) | exact HB.out)) hb)
                           clear HO165
                           clear BK159
                           clear HB
                           have HO165 := n0_
                           have BK159 := n1_
                           have HB := n2_
                           clear n0_ n1_ n2_
                           (try clear hb)
                           (try clear hb2)
                           (try clear hk)
                           (try clear hi)
                           refine hK.out _ _ ⟨(blk_cell BK159.out 0).trans rfl, (blk_cell BK159.out 1).trans rfl, (blk_cell BK159.out 2).trans rfl, (blk_cell BK159.out 3).trans rfl, (blk_cell BK159.out 4).trans rfl, (blk_cell BK159.out 5).trans rfl, (blk_cell BK159.out 6).trans rfl, (blk_cell BK159.out 7).trans rfl, (blk_cell BK159.out 8).trans rfl⟩ (fun hHeld => ?_)
                           clear hK K
                           refine norm_ (a' := ?_) ?_ ?_
                           rotate_left
                           · show Act.put _ (some 25) _ = _
                             simp only [Act.put, List.setIfInBounds_toArray, List.set_cons_zero, List.set_cons_succ, i64_w, i32_w]
                             rfl
                           exact norm_ (by first | (simp only [putAll, Act.put, List.setIfInBounds_toArray, List.set_cons_zero, List.set_cons_succ]; done) | (simp only [putAll, Act.put, List.setIfInBounds_toArray, List.set_cons_zero, List.set_cons_succ]; rfl)) (hJ11_16 (v164) _ ⟨hHeld, (by (with_reducible repeat (first | apply Kd.R_alloc | apply Kd.R_drewN | apply Kd.R_drew)); exact HO165.out), (by (with_reducible repeat (first | refine blk_drewN ?_ _ | refine blk_drew ?_ | refine blk_alloc ?_ _)); exact BK159.out), (by repeat (first | (with_reducible first | exact HB.out | apply below_alloc | apply pw_below_drewN | apply below_drew1 | refine below_set ?_ GE159.out) | exact HB.out))⟩)
                     · skip
                       rintro _ w21 ⟨hS_, h0_, h1_⟩
                       have n0_ : Aside0 (w21.heap[gb159]? = some (.cells #[.int .i64 a0_0, .int .i64 a0_1, .int .i64 a0_2, .int .i64 a0_3, .int .i64 a0_4, .int .i64 a0_5, .int .i64 a0_6, .int .i64 a0_7, .int .i64 a0_8] 27 (0, 0))) := ⟨h0_⟩
                       have n1_ : Aside0 (Below w.heap.size w w21) := ⟨h1_⟩
                       clear BK159
                       clear HB
                       clear h0_ h1_
                       have BK159 := n0_
                       have HB := n1_
                       clear n0_ n1_
                       have hHeld : w21.cell? ⟨gb159, 0, none⟩ = some (.int .i64 a0_0) ∧ w21.cell? ⟨gb159, 1, none⟩ = some (.int .i64 a0_1) ∧ w21.cell? ⟨gb159, 2, none⟩ = some (.int .i64 a0_2) ∧ w21.cell? ⟨gb159, 3, none⟩ = some (.int .i64 a0_3) ∧ w21.cell? ⟨gb159, 4, none⟩ = some (.int .i64 a0_4) ∧ w21.cell? ⟨gb159, 5, none⟩ = some (.int .i64 a0_5) ∧ w21.cell? ⟨gb159, 6, none⟩ = some (.int .i64 a0_6) ∧ w21.cell? ⟨gb159, 7, none⟩ = some (.int .i64 a0_7) ∧ w21.cell? ⟨gb159, 8, none⟩ = some (.int .i64 a0_8) := hS_
                       refine norm_ (a' := ?_) ?_ ?_
                       rotate_left
                       · simp only [putAll, Act.put, List.setIfInBounds_toArray, List.set_cons_zero, List.set_cons_succ]
                         rfl
                       refine one_ (i := 11) (N := some 20) (mS 25 7991295) rfl rfl (one_of HT_.out (by kernel_rfl)) (by decide) (fun K hK => ?_)
                       refine Kd.R_lit_step (Kd.int .u8) _ 5 ?hg (N := 20) ?hd (xs := ([(Go.bits .or .i64 (wrap64 (a0_0 * 16)) 1) % 256, t161, t162] : List Int)) (inner := [.int .u8 ((Go.bits .or .i64 (wrap64 (a0_0 * 16)) 1) % 256), .int .u8 t161, .int .u8 t162]) (ok := fun _ => True) (okp := fun _ => True) ?hr ?hp (fun _ hk => hk) trivial (Below.refl _ _) (Nat.le_refl _) (by simp) ?_; (case hd => rfl); (case hg => rfl); (case hr => first | (go_simp; done) | (go_simp; rfl)); (case hp => exact (Reps.one (show Kd.M (Kd.int .u8) _ _ _ ((Go.bits .or .i64 (wrap64 (a0_0 * 16)) 1) % 256) [.int .u8 ((Go.bits .or .i64 (wrap64 (a0_0 * 16)) 1) % 256)] from rfl) (Reps.one (show Kd.M (Kd.int .u8) _ _ _ t161 [.int .u8 t161] from rfl) (Reps.one (show Kd.M (Kd.int .u8) _ _ _ t162 [.int .u8 t162] from rfl) (Reps.none _ _)))))
                       intro v164 w22 ho23 hb hg_ hnew_
                       clear hg_ hnew_
                       (first | rw [← Ny163.out] at ho23 | (simp only [Int.reduceToNat] at ho23; rw [← Ny163.out] at ho23))
                       have n0_ := Aside0.mk (Kd.R_lower ho23 (below_size (by repeat (first | (with_reducible first | exact HB.out | apply below_alloc | apply pw_below_drewN | apply below_drew1 | refine below_set ?_ GE159.out) | exact HB.out))))
                       have n1_ := Aside0.mk (blk_below (g := gb159) (o := .cells #[.int .i64 a0_0, .int .i64 a0_1, .int .i64 a0_2, .int .i64 a0_3, .int .i64 a0_4, .int .i64 a0_5, .int .i64 a0_6, .int .i64 a0_7, .int .i64 a0_8] 27 (0, 0)) (by (with_reducible repeat (first | refine blk_drewN ?_ _ | refine blk_drew ?_ | refine blk_alloc ?_ _)); exact BK159.out) hb)
                       have n2_ := Aside0.mk (below_step (by repeat (first | (with_reducible first | exact HB.out | apply below_alloc | apply pw_below_drewN | apply below_drew1 | refine below_set ?_ GE159.out) | exact HB.out)) hb)
                       clear BK159
                       clear HB
                       have HO165 := n0_
                       have BK159 := n1_
                       have HB := n2_
                       clear n0_ n1_ n2_
                       clear hb ho23
                       refine hK.out _ _ ⟨(blk_cell BK159.out 0).trans rfl, (blk_cell BK159.out 1).trans rfl, (blk_cell BK159.out 2).trans rfl, (blk_cell BK159.out 3).trans rfl, (blk_cell BK159.out 4).trans rfl, (blk_cell BK159.out 5).trans rfl, (blk_cell BK159.out 6).trans rfl, (blk_cell BK159.out 7).trans rfl, (blk_cell BK159.out 8).trans rfl⟩ (fun hHeld => ?_)
                       clear hK K
                       refine norm_ (a' := ?_) ?_ ?_
                       rotate_left
                       · show Act.put _ (some 20) _ = _
                         simp only [Act.put, List.setIfInBounds_toArray, List.set_cons_zero, List.set_cons_succ, i64_w, i32_w]
                         rfl
                       exact norm_ (by first | (simp only [putAll, Act.put, List.setIfInBounds_toArray, List.set_cons_zero, List.set_cons_succ]; done) | (simp only [putAll, Act.put, List.setIfInBounds_toArray, List.set_cons_zero, List.set_cons_succ]; rfl)) (hJ11_16_22 (v164) _ ⟨hHeld, (by (with_reducible repeat (first | apply Kd.R_alloc | apply Kd.R_drewN | apply Kd.R_drew)); exact HO165.out), (by (with_reducible repeat (first | refine blk_drewN ?_ _ | refine blk_drew ?_ | refine blk_alloc ?_ _)); exact BK159.out), (by repeat (first | (with_reducible first | exact HB.out | apply below_alloc | apply pw_below_drewN | apply below_drew1 | refine below_set ?_ GE159.out) | exact HB.out))⟩)
                   · skip
                     rintro v164 w22 ⟨hS_, h0_, h1_, h2_⟩
                     have n0_ : Aside0 (Kd.R (Kd.int .u8) 5 w22 w.heap.size (fun _ => True) v164 y163) := ⟨h0_⟩
                     have n1_ : Aside0 (w22.heap[gb159]? = some (.cells #[.int .i64 a0_0, .int .i64 a0_1, .int .i64 a0_2, .int .i64 a0_3, .int .i64 a0_4, .int .i64 a0_5, .int .i64 a0_6, .int .i64 a0_7, .int .i64 a0_8] 27 (0, 0))) := ⟨h1_⟩
                     have n2_ : Aside0 (Below w.heap.size w w22) := ⟨h2_⟩
                     clear BK159
                     clear HB
                     clear h0_ h1_ h2_
                     have HO165 := n0_
                     have BK159 := n1_
                     have HB := n2_
                     clear n0_ n1_ n2_
                     have hHeld : w22.cell? ⟨gb159, 0, none⟩ = some (.int .i64 a0_0) ∧ w22.cell? ⟨gb159, 1, none⟩ = some (.int .i64 a0_1) ∧ w22.cell? ⟨gb159, 2, none⟩ = some (.int .i64 a0_2) ∧ w22.cell? ⟨gb159, 3, none⟩ = some (.int .i64 a0_3) ∧ w22.cell? ⟨gb159, 4, none⟩ = some (.int .i64 a0_4) ∧ w22.cell? ⟨gb159, 5, none⟩ = some (.int .i64 a0_5) ∧ w22.cell? ⟨gb159, 6, none⟩ = some (.int .i64 a0_6) ∧ w22.cell? ⟨gb159, 7, none⟩ = some (.int .i64 a0_7) ∧ w22.cell? ⟨gb159, 8, none⟩ = some (.int .i64 a0_8) := hS_
                     refine norm_ (a' := ?_) ?_ ?_
                     rotate_left
                     · simp only [putAll, Act.put, List.setIfInBounds_toArray, List.set_cons_zero, List.set_cons_succ]
                       rfl
                     refine two_ (i := 12) (j := 22) (Ni := some 21) (Nj := some 31) #[true, true, true, true, true, true, true, true, true, true, true, true, true, true, true, true, true, false, false, true, true, true, false, false, false] (mS 25 7991295) rfl rfl rfl rfl (two_of HT_.out (by kernel_rfl)) (by decide) (by decide) (fun K hK => ?_) (fun K hK => ?_)
                     · skip
                       have hcv23 := own_string (P := Try.prog) Try.underlying49 Try.underlying5 Try.underlying9 (Kd.own_of_R HO165.out)
                       refine value_ (w1 := ?_) (v := ?_) (by rfl) rfl ?_ ?_
                       rotate_left 2
                       · go_simp
                         constructor
                         · rfl
                         · rfl
                       clear hcv23
                       refine hK.out _ _ ⟨(blk_cell BK159.out 0).trans rfl, (blk_cell BK159.out 1).trans rfl, (blk_cell BK159.out 2).trans rfl, (blk_cell BK159.out 3).trans rfl, (blk_cell BK159.out 4).trans rfl, (blk_cell BK159.out 5).trans rfl, (blk_cell BK159.out 6).trans rfl, (blk_cell BK159.out 7).trans rfl, (blk_cell BK159.out 8).trans rfl⟩ (fun hHeld => ?_)
                       clear hK K
                       refine norm_ (a' := ?_) ?_ ?_
                       rotate_left
                       · show Act.put _ (some 21) _ = _
                         simp only [Act.put, List.setIfInBounds_toArray, List.set_cons_zero, List.set_cons_succ, i64_w, i32_w]
                         rfl
                       refine pure_ (i := 17) (N := some 26) (v := ?_) (a' := ?_) (mS 25 3932159) rfl rfl (any_of HT_.out (by kernel_rfl)) (fun _ _ _ h => h) (Or.inl ⟨by rfl, ?_⟩) ?_ ?_
                       rotate_left
                       · intro w'
                         go_simp
                         with_reducible rfl
                       rotate_left
                       · simp only [Act.put, List.setIfInBounds_toArray, List.set_cons_zero, List.set_cons_succ, i64_w, i32_w]
                         rfl
                       refine pure_ (i := 18) (N := some 27) (v := ?_) (a' := ?_) (mS 25 4194303) rfl rfl (any_of HT_.out (by kernel_rfl)) (fun _ _ _ h => h) (Or.inl ⟨by rfl, ?_⟩) ?_ ?_
                       rotate_left
                       · intro w'
                         go_simp
                         with_reducible rfl
                       rotate_left
                       · simp only [Act.put, List.setIfInBounds_toArray, List.set_cons_zero, List.set_cons_succ, i64_w, i32_w]
                         rfl
                       exact norm_ (by first | (simp only [putAll, Act.put, List.setIfInBounds_toArray, List.set_cons_zero, List.set_cons_succ]; done) | (simp only [putAll, Act.put, List.setIfInBounds_toArray, List.set_cons_zero, List.set_cons_succ]; rfl)) (hJ11_12_16 (v164) _ ⟨hHeld, (by (with_reducible repeat (first | apply Kd.R_alloc | apply Kd.R_drewN | apply Kd.R_drew)); exact HO165.out), (by (with_reducible repeat (first | refine blk_drewN ?_ _ | refine blk_drew ?_ | refine blk_alloc ?_ _)); exact BK159.out), (by repeat (first | (with_reducible first | exact HB.out | apply below_alloc | apply pw_below_drewN | apply below_drew1 | refine below_set ?_ GE159.out) | exact HB.out))⟩)
                     · skip
                       refine goesV_ Try.func40 (by kernel_rfl) rfl #[.agg #[.int .i64 a0_6, .int .i64 a0_7, .int .i64 a0_8]] (by rfl) rfl rfl rfl (by (try simp only [List.map_toArray, List.map_cons, List.map_nil]); first | done | rfl | (simp only [List.length_drop, List.length_take]; rfl)) ?_
                       with_reducible refine (subchannel_Encode_1.calls a0_6 a0_7 a0_8 t167 _ A9.out).mono ?_
                       rintro e w23 ⟨rfl, hb⟩
                       refine ⟨_, rfl, ?_⟩
                       have n0_ := Aside0.mk (Kd.R_below (by (with_reducible repeat (first | apply Kd.R_alloc | apply Kd.R_drewN | apply Kd.R_drew)); exact HO165.out) hb)
                       have n1_ := Aside0.mk (blk_below (g := gb159) (o := .cells #[.int .i64 a0_0, .int .i64 a0_1, .int .i64 a0_2, .int .i64 a0_3, .int .i64 a0_4, .int .i64 a0_5, .int .i64 a0_6, .int .i64 a0_7, .int .i64 a0_8] 27 (0, 0)) (by (with_reducible repeat (first | refine blk_drewN ?_ _ | refine blk_drew ?_ | refine blk_alloc ?_ _)); exact BK159.out) hb)
                       have n2_ := Aside0.mk (below_step (by repeat (first | (with_reducible first | exact HB.out | apply below_alloc | apply pw_below_drewN | apply below_drew1 | refine below_set ?_ GE159.out) | exact HB.out)) hb)
                       clear HO165
                       clear BK159
                       clear HB
                       have HO165 := n0_
                       have BK159 := n1_
                       have HB := n2_
                       clear n0_ n1_ n2_
                       (try clear hb)
                       (try clear hb2)
                       (try clear hk)
                       (try clear hi)
                       refine hK.out _ _ ⟨(blk_cell BK159.out 0).trans rfl, (blk_cell BK159.out 1).trans rfl, (blk_cell BK159.out 2).trans rfl, (blk_cell BK159.out 3).trans rfl, (blk_cell BK159.out 4).trans rfl, (blk_cell BK159.out 5).trans rfl, (blk_cell BK159.out 6).trans rfl, (blk_cell BK159.out 7).trans rfl, (blk_cell BK159.out 8).trans rfl⟩ (fun hHeld => ?_)
                       clear hK K
                       refine norm_ (a' := ?_) ?_ ?_
                       rotate_left
                       · show Act.put _ (some 31) _ = _
                         simp only [Act.put, List.setIfInBounds_toArray, List.set_cons_zero, List.set_cons_succ, i64_w, i32_w]
                         rfl
                       exact norm_ (by first | (simp only [putAll, Act.put, List.setIfInBounds_toArray, List.set_cons_zero, List.set_cons_succ]; done) | (simp only [putAll, Act.put, List.setIfInBounds_toArray, List.set_cons_zero, List.set_cons_succ]; rfl)) (hJ11_16_22 (v164) _ ⟨hHeld, (by (with_reducible repeat (first | apply Kd.R_alloc | apply Kd.R_drewN | apply Kd.R_drew)); exact HO165.out), (by (with_reducible repeat (first | refine blk_drewN ?_ _ | refine blk_drew ?_ | refine blk_alloc ?_ _)); exact BK159.out), (by repeat (first | (with_reducible first | exact HB.out | apply below_alloc | apply pw_below_drewN | apply below_drew1 | refine below_set ?_ GE159.out) | exact HB.out))⟩)
                 · skip
                   rintro v164 w22 ⟨hS_, h0_, h1_, h2_⟩
                   have n0_ : Aside0 (Kd.R (Kd.int .u8) 5 w22 w.heap.size (fun _ => True) v164 y163) := ⟨h0_⟩
                   have n1_ : Aside0 (w22.heap[gb159]? = some (.cells #[.int .i64 a0_0, .int .i64 a0_1, .int .i64 a0_2, .int .i64 a0_3, .int .i64 a0_4, .int .i64 a0_5, .int .i64 a0_6, .int .i64 a0_7, .int .i64 a0_8] 27 (0, 0))) := ⟨h1_⟩
                   have n2_ : Aside0 (Below w.heap.size w w22) := ⟨h2_⟩
                   clear BK159
                   clear HB
                   clear h0_ h1_ h2_
                   have HO165 := n0_
                   have BK159 := n1_
                   have HB := n2_
                   clear n0_ n1_ n2_
                   have hHeld : w22.cell? ⟨gb159, 0, none⟩ = some (.int .i64 a0_0) ∧ w22.cell? ⟨gb159, 1, none⟩ = some (.int .i64 a0_1) ∧ w22.cell? ⟨gb159, 2, none⟩ = some (.int .i64 a0_2) ∧ w22.cell? ⟨gb159, 3, none⟩ = some (.int .i64 a0_3) ∧ w22.cell? ⟨gb159, 4, none⟩ = some (.int .i64 a0_4) ∧ w22.cell? ⟨gb159, 5, none⟩ = some (.int .i64 a0_5) ∧ w22.cell? ⟨gb159, 6, none⟩ = some (.int .i64 a0_6) ∧ w22.cell? ⟨gb159, 7, none⟩ = some (.int .i64 a0_7) ∧ w22.cell? ⟨gb159, 8, none⟩ = some (.int .i64 a0_8) := hS_
                   refine norm_ (a' := ?_) ?_ ?_
                   rotate_left
                   · simp only [putAll, Act.put, List.setIfInBounds_toArray, List.set_cons_zero, List.set_cons_succ]
                     rfl
                   refine one_ (i := 16) (N := some 25) (mS 25 3801087) rfl rfl (one_of HT_.out (by kernel_rfl)) (by decide) (fun K hK => ?_)
                   refine goesV_ Try.func40 (by kernel_rfl) rfl #[.agg #[.int .i64 a0_3, .int .i64 a0_4, .int .i64 a0_5]] (by rfl) rfl rfl rfl (by (try simp only [List.map_toArray, List.map_cons, List.map_nil]); first | done | rfl | (simp only [List.length_drop, List.length_take]; rfl)) ?_
                   with_reducible refine (subchannel_Encode_1.calls a0_3 a0_4 a0_5 t166 _ A6.out).mono ?_
                   rintro e w23 ⟨rfl, hb⟩
                   refine ⟨_, rfl, ?_⟩
                   have n0_ := Aside0.mk (Kd.R_below (by (with_reducible repeat (first | apply Kd.R_alloc | apply Kd.R_drewN | apply Kd.R_drew)); exact HO165.out) hb)
                   have n1_ := Aside0.mk (blk_below (g := gb159) (o := .cells #[.int .i64 a0_0, .int .i64 a0_1, .int .i64 a0_2, .int .i64 a0_3, .int .i64 a0_4, .int .i64 a0_5, .int .i64 a0_6, .int .i64 a0_7, .int .i64 a0_8] 27 (0, 0)) (by (with_reducible repeat (first | refine blk_drewN ?_ _ | refine blk_drew ?_ | refine blk_alloc ?_ _)); exact BK159.out) hb)
                   have n2_ := Aside0.mk (below_step (by repeat (first | (with_reducible first | exact HB.out | apply below_alloc | apply pw_below_drewN | apply below_drew1 | refine below_set ?_ GE159.out) | exact HB.out)) hb)
                   clear HO165
                   clear BK159
                   clear HB
                   have HO165 := n0_
                   have BK159 := n1_
                   have HB := n2_
                   clear n0_ n1_ n2_
                   (try clear hb)
                   (try clear hb2)
                   (try clear hk)
                   (try clear hi)
                   refine hK.out _ _ ⟨(blk_cell BK159.out 0).trans rfl, (blk_cell BK159.out 1).trans rfl, (blk_cell BK159.out 2).trans rfl, (blk_cell BK159.out 3).trans rfl, (blk_cell BK159.out 4).trans rfl, (blk_cell BK159.out 5).trans rfl, (blk_cell BK159.out 6).trans rfl, (blk_cell BK159.out 7).trans rfl, (blk_cell BK159.out 8).trans rfl⟩ (fun hHeld => ?_)
                   clear hK K
                   refine norm_ (a' := ?_) ?_ ?_
                   rotate_left
                   · show Act.put _ (some 25) _ = _
                     simp only [Act.put, List.setIfInBounds_toArray, List.set_cons_zero, List.set_cons_succ, i64_w, i32_w]
                     rfl
                   refine pure_ (i := 17) (N := some 26) (v := ?_) (a' := ?_) (mS 25 3932159) rfl rfl (any_of HT_.out (by kernel_rfl)) (fun _ _ _ h => h) (Or.inl ⟨by rfl, ?_⟩) ?_ ?_
                   rotate_left
                   · intro w'
                     go_simp
                     with_reducible rfl
                   rotate_left
                   · simp only [Act.put, List.setIfInBounds_toArray, List.set_cons_zero, List.set_cons_succ, i64_w, i32_w]
                     rfl
                   refine pure_ (i := 18) (N := some 27) (v := ?_) (a' := ?_) (mS 25 4194303) rfl rfl (any_of HT_.out (by kernel_rfl)) (fun _ _ _ h => h) (Or.inl ⟨by rfl, ?_⟩) ?_ ?_
                   rotate_left
                   · intro w'
                     go_simp
                     with_reducible rfl
                   rotate_left
                   · simp only [Act.put, List.setIfInBounds_toArray, List.set_cons_zero, List.set_cons_succ, i64_w, i32_w]
                     rfl
                   exact norm_ (by first | (simp only [putAll, Act.put, List.setIfInBounds_toArray, List.set_cons_zero, List.set_cons_succ]; done) | (simp only [putAll, Act.put, List.setIfInBounds_toArray, List.set_cons_zero, List.set_cons_succ]; rfl)) (hJ11_12_16 (v164) _ ⟨hHeld, (by (with_reducible repeat (first | apply Kd.R_alloc | apply Kd.R_drewN | apply Kd.R_drew)); exact HO165.out), (by (with_reducible repeat (first | refine blk_drewN ?_ _ | refine blk_drew ?_ | refine blk_alloc ?_ _)); exact BK159.out), (by repeat (first | (with_reducible first | exact HB.out | apply below_alloc | apply pw_below_drewN | apply below_drew1 | refine below_set ?_ GE159.out) | exact HB.out))⟩)
               · skip
                 rintro v164 w23 ⟨hS_, h0_, h1_, h2_⟩
                 have n0_ : Aside0 (Kd.R (Kd.int .u8) 5 w23 w.heap.size (fun _ => True) v164 y163) := ⟨h0_⟩
                 have n1_ : Aside0 (w23.heap[gb159]? = some (.cells #[.int .i64 a0_0, .int .i64 a0_1, .int .i64 a0_2, .int .i64 a0_3, .int .i64 a0_4, .int .i64 a0_5, .int .i64 a0_6, .int .i64 a0_7, .int .i64 a0_8] 27 (0, 0))) := ⟨h1_⟩
                 have n2_ : Aside0 (Below w.heap.size w w23) := ⟨h2_⟩
                 clear BK159
                 clear HB
                 clear h0_ h1_ h2_
                 have HO165 := n0_
                 have BK159 := n1_
                 have HB := n2_
                 clear n0_ n1_ n2_
                 have hHeld : w23.cell? ⟨gb159, 0, none⟩ = some (.int .i64 a0_0) ∧ w23.cell? ⟨gb159, 1, none⟩ = some (.int .i64 a0_1) ∧ w23.cell? ⟨gb159, 2, none⟩ = some (.int .i64 a0_2) ∧ w23.cell? ⟨gb159, 3, none⟩ = some (.int .i64 a0_3) ∧ w23.cell? ⟨gb159, 4, none⟩ = some (.int .i64 a0_4) ∧ w23.cell? ⟨gb159, 5, none⟩ = some (.int .i64 a0_5) ∧ w23.cell? ⟨gb159, 6, none⟩ = some (.int .i64 a0_6) ∧ w23.cell? ⟨gb159, 7, none⟩ = some (.int .i64 a0_7) ∧ w23.cell? ⟨gb159, 8, none⟩ = some (.int .i64 a0_8) := hS_
                 refine norm_ (a' := ?_) ?_ ?_
                 rotate_left
                 · simp only [putAll, Act.put, List.setIfInBounds_toArray, List.set_cons_zero, List.set_cons_succ]
                   rfl
                 refine one_ (i := 12) (N := some 21) (mS 25 7995391) rfl rfl (one_of HT_.out (by kernel_rfl)) (by decide) (fun K hK => ?_)
                 have hcv24 := own_string (P := Try.prog) Try.underlying49 Try.underlying5 Try.underlying9 (Kd.own_of_R HO165.out)
                 refine value_ (w1 := ?_) (v := ?_) (by rfl) rfl ?_ ?_
                 rotate_left 2
                 · go_simp
                   constructor
                   · rfl
                   · rfl
                 clear hcv24
                 refine hK.out _ _ ⟨(blk_cell BK159.out 0).trans rfl, (blk_cell BK159.out 1).trans rfl, (blk_cell BK159.out 2).trans rfl, (blk_cell BK159.out 3).trans rfl, (blk_cell BK159.out 4).trans rfl, (blk_cell BK159.out 5).trans rfl, (blk_cell BK159.out 6).trans rfl, (blk_cell BK159.out 7).trans rfl, (blk_cell BK159.out 8).trans rfl⟩ (fun hHeld => ?_)
                 clear hK K
                 refine norm_ (a' := ?_) ?_ ?_
                 rotate_left
                 · show Act.put _ (some 21) _ = _
                   simp only [Act.put, List.setIfInBounds_toArray, List.set_cons_zero, List.set_cons_succ, i64_w, i32_w]
                   rfl
                 refine pure_ (i := 17) (N := some 26) (v := ?_) (a' := ?_) (mS 25 8126463) rfl rfl (any_of HT_.out (by kernel_rfl)) (fun _ _ _ h => h) (Or.inl ⟨by rfl, ?_⟩) ?_ ?_
                 rotate_left
                 · intro w'
                   go_simp
                   with_reducible rfl
                 rotate_left
                 · simp only [Act.put, List.setIfInBounds_toArray, List.set_cons_zero, List.set_cons_succ, i64_w, i32_w]
                   rfl
                 refine pure_ (i := 18) (N := some 27) (v := ?_) (a' := ?_) (mS 25 8388607) rfl rfl (any_of HT_.out (by kernel_rfl)) (fun _ _ _ h => h) (Or.inl ⟨by rfl, ?_⟩) ?_ ?_
                 rotate_left
                 · intro w'
                   go_simp
                   with_reducible rfl
                 rotate_left
                 · simp only [Act.put, List.setIfInBounds_toArray, List.set_cons_zero, List.set_cons_succ, i64_w, i32_w]
                   rfl
                 exact norm_ (by first | (simp only [putAll, Act.put, List.setIfInBounds_toArray, List.set_cons_zero, List.set_cons_succ]; done) | (simp only [putAll, Act.put, List.setIfInBounds_toArray, List.set_cons_zero, List.set_cons_succ]; rfl)) (hJ11_12_16_22 (v164) _ ⟨hHeld, (by (with_reducible repeat (first | apply Kd.R_alloc | apply Kd.R_drewN | apply Kd.R_drew)); exact HO165.out), (by (with_reducible repeat (first | refine blk_drewN ?_ _ | refine blk_drew ?_ | refine blk_alloc ?_ _)); exact BK159.out), (by repeat (first | (with_reducible first | exact HB.out | apply below_alloc | apply pw_below_drewN | apply below_drew1 | refine below_set ?_ GE159.out) | exact HB.out))⟩)
             · skip
               rintro v164 w23 ⟨hS_, h0_, h1_, h2_⟩
               have n0_ : Aside0 (Kd.R (Kd.int .u8) 5 w23 w.heap.size (fun _ => True) v164 y163) := ⟨h0_⟩
               have n1_ : Aside0 (w23.heap[gb159]? = some (.cells #[.int .i64 a0_0, .int .i64 a0_1, .int .i64 a0_2, .int .i64 a0_3, .int .i64 a0_4, .int .i64 a0_5, .int .i64 a0_6, .int .i64 a0_7, .int .i64 a0_8] 27 (0, 0))) := ⟨h1_⟩
               have n2_ : Aside0 (Below w.heap.size w w23) := ⟨h2_⟩
               clear BK159
               clear HB
               clear h0_ h1_ h2_
               have HO165 := n0_
               have BK159 := n1_
               have HB := n2_
               clear n0_ n1_ n2_
               have hHeld : w23.cell? ⟨gb159, 0, none⟩ = some (.int .i64 a0_0) ∧ w23.cell? ⟨gb159, 1, none⟩ = some (.int .i64 a0_1) ∧ w23.cell? ⟨gb159, 2, none⟩ = some (.int .i64 a0_2) ∧ w23.cell? ⟨gb159, 3, none⟩ = some (.int .i64 a0_3) ∧ w23.cell? ⟨gb159, 4, none⟩ = some (.int .i64 a0_4) ∧ w23.cell? ⟨gb159, 5, none⟩ = some (.int .i64 a0_5) ∧ w23.cell? ⟨gb159, 6, none⟩ = some (.int .i64 a0_6) ∧ w23.cell? ⟨gb159, 7, none⟩ = some (.int .i64 a0_7) ∧ w23.cell? ⟨gb159, 8, none⟩ = some (.int .i64 a0_8) := hS_
               refine norm_ (a' := ?_) ?_ ?_
               rotate_left
               · simp only [putAll, Act.put, List.setIfInBounds_toArray, List.set_cons_zero, List.set_cons_succ]
                 rfl
               refine one_ (i := 22) (N := some 31) (mS 25 8388607) rfl rfl (one_of HT_.out (by kernel_rfl)) (by decide) (fun K hK => ?_)
               refine goesV_ Try.func40 (by kernel_rfl) rfl #[.agg #[.int .i64 a0_6, .int .i64 a0_7, .int .i64 a0_8]] (by rfl) rfl rfl rfl (by (try simp only [List.map_toArray, List.map_cons, List.map_nil]); first | done | rfl | (simp only [List.length_drop, List.length_take]; rfl)) ?_
               with_reducible refine (subchannel_Encode_1.calls a0_6 a0_7 a0_8 t167 _ A9.out).mono ?_
               rintro e w24 ⟨rfl, hb⟩
               refine ⟨_, rfl, ?_⟩
               have n0_ := Aside0.mk (Kd.R_below (by (with_reducible repeat (first | apply Kd.R_alloc | apply Kd.R_drewN | apply Kd.R_drew)); exact HO165.out) hb)
               have n1_ := Aside0.mk (blk_below (g := gb159) (o := .cells #[.int .i64 a0_0, .int .i64 a0_1, .int .i64 a0_2, .int .i64 a0_3, .int .i64 a0_4, .int .i64 a0_5, .int .i64 a0_6, .int .i64 a0_7, .int .i64 a0_8] 27 (0, 0)) (by (with_reducible repeat (first | refine blk_drewN ?_ _ | refine blk_drew ?_ | refine blk_alloc ?_ _)); exact BK159.out) hb)
               have n2_ := Aside0.mk (below_step (by repeat (first | (with_reducible first | exact HB.out | apply below_alloc | apply pw_below_drewN | apply below_drew1 | refine below_set ?_ GE159.out) | exact HB.out)) hb)
               clear HO165
               clear BK159
               clear HB
               have HO165 := n0_
               have BK159 := n1_
               have HB := n2_
               clear n0_ n1_ n2_
               (try clear hb)
               (try clear hb2)
               (try clear hk)
               (try clear hi)
               refine hK.out _ _ ⟨(blk_cell BK159.out 0).trans rfl, (blk_cell BK159.out 1).trans rfl, (blk_cell BK159.out 2).trans rfl, (blk_cell BK159.out 3).trans rfl, (blk_cell BK159.out 4).trans rfl, (blk_cell BK159.out 5).trans rfl, (blk_cell BK159.out 6).trans rfl, (blk_cell BK159.out 7).trans rfl, (blk_cell BK159.out 8).trans rfl⟩ (fun hHeld => ?_)
               clear hK K
               refine norm_ (a' := ?_) ?_ ?_
               rotate_left
               · show Act.put _ (some 31) _ = _
                 simp only [Act.put, List.setIfInBounds_toArray, List.set_cons_zero, List.set_cons_succ, i64_w, i32_w]
                 rfl
               exact norm_ (by first | (simp only [putAll, Act.put, List.setIfInBounds_toArray, List.set_cons_zero, List.set_cons_succ]; done) | (simp only [putAll, Act.put, List.setIfInBounds_toArray, List.set_cons_zero, List.set_cons_succ]; rfl)) (hJ11_12_16_22 (v164) _ ⟨hHeld, (by (with_reducible repeat (first | apply Kd.R_alloc | apply Kd.R_drewN | apply Kd.R_drew)); exact HO165.out), (by (with_reducible repeat (first | refine blk_drewN ?_ _ | refine blk_drew ?_ | refine blk_alloc ?_ _)); exact BK159.out), (by repeat (first | (with_reducible first | exact HB.out | apply below_alloc | apply pw_below_drewN | apply below_drew1 | refine below_set ?_ GE159.out) | exact HB.out))⟩)
           rintro v164 w24 ⟨hS_, h0_, h1_, h2_⟩
           have n0_ : Aside0 (Kd.R (Kd.int .u8) 5 w24 w.heap.size (fun _ => True) v164 y163) := ⟨h0_⟩
           have n1_ : Aside0 (w24.heap[gb159]? = some (.cells #[.int .i64 a0_0, .int .i64 a0_1, .int .i64 a0_2, .int .i64 a0_3, .int .i64 a0_4, .int .i64 a0_5, .int .i64 a0_6, .int .i64 a0_7, .int .i64 a0_8] 27 (0, 0))) := ⟨h1_⟩
           have n2_ : Aside0 (Below w.heap.size w w24) := ⟨h2_⟩
           clear BK159
           clear HB
           clear h0_ h1_ h2_
           have HO165 := n0_
           have BK159 := n1_
           have HB := n2_
           clear n0_ n1_ n2_
           have hHeld : w24.cell? ⟨gb159, 0, none⟩ = some (.int .i64 a0_0) ∧ w24.cell? ⟨gb159, 1, none⟩ = some (.int .i64 a0_1) ∧ w24.cell? ⟨gb159, 2, none⟩ = some (.int .i64 a0_2) ∧ w24.cell? ⟨gb159, 3, none⟩ = some (.int .i64 a0_3) ∧ w24.cell? ⟨gb159, 4, none⟩ = some (.int .i64 a0_4) ∧ w24.cell? ⟨gb159, 5, none⟩ = some (.int .i64 a0_5) ∧ w24.cell? ⟨gb159, 6, none⟩ = some (.int .i64 a0_6) ∧ w24.cell? ⟨gb159, 7, none⟩ = some (.int .i64 a0_7) ∧ w24.cell? ⟨gb159, 8, none⟩ = some (.int .i64 a0_8) := hS_
           refine norm_ (a' := ?_) ?_ ?_
           rotate_left
           · simp only [putAll, Act.put, List.setIfInBounds_toArray, List.set_cons_zero, List.set_cons_succ]
             rfl
           refine pure_ (i := 23) (N := some 32) (v := ?_) (a' := ?_) (mS 25 16777215) rfl rfl (any_of HT_.out (by kernel_rfl)) (fun _ _ _ h => h) (Or.inl ⟨by rfl, ?_⟩) ?_ ?_
           rotate_left
           · intro w'
             go_simp
             with_reducible rfl
           rotate_left
           · simp only [Act.put, List.setIfInBounds_toArray, List.set_cons_zero, List.set_cons_succ, i64_w, i32_w]
             rfl
           refine pure_ (i := 24) (N := some 5) (v := ?_) (a' := ?_) (mS 25 33554431) rfl rfl (any_of HT_.out (by kernel_rfl)) (fun _ _ _ h => h) (Or.inl ⟨by rfl, ?_⟩) ?_ ?_
           rotate_left
           · intro w'
             go_simp
             with_reducible rfl
           rotate_left
           · simp only [Act.put, List.setIfInBounds_toArray, List.set_cons_zero, List.set_cons_succ, i64_w, i32_w]
             rfl
           refine done_ (done_of HT_.out (by kernel_rfl)) ?_
           try go_wp2_with (first | ((with_reducible refine gate_callee (f := 43) rfl ?_); refine goesL_ (some 35) rfl rfl Try.func43 (by kernel_rfl) rfl #[.string ((((strOfNums y163) ++ t166) ++ (⟨#[0]⟩ : ByteArray)) ++ t167)] rfl (by (try simp only [List.map_toArray, List.map_cons, List.map_nil]); first | done | rfl | (simp only [List.length_drop, List.length_take]; rfl)) ?_; (with_reducible refine (subchannel_check.calls ((((strOfNums y163) ++ t166) ++ (⟨#[0]⟩ : ByteArray)) ++ t167) t168 _ A11.out).mono ?_); rintro e w25 ⟨rfl, hb⟩; refine ⟨_, rfl, ?_⟩; have n0_ := Aside0.mk (Kd.R_below (by (with_reducible repeat (first | apply Kd.R_alloc | apply Kd.R_drewN | apply Kd.R_drew)); exact HO165.out) hb); have n1_ := Aside0.mk (blk_below (g := gb159) (o := .cells #[.int .i64 a0_0, .int .i64 a0_1, .int .i64 a0_2, .int .i64 a0_3, .int .i64 a0_4, .int .i64 a0_5, .int .i64 a0_6, .int .i64 a0_7, .int .i64 a0_8] 27 (0, 0)) (by (with_reducible repeat (first | refine blk_drewN ?_ _ | refine blk_drew ?_ | refine blk_alloc ?_ _)); exact BK159.out) hb); have n2_ := Aside0.mk (below_step (by repeat (first | (with_reducible first | exact HB.out | apply below_alloc | apply pw_below_drewN | apply below_drew1 | refine below_set ?_ GE159.out) | exact HB.out)) hb); clear HO165; clear BK159; clear HB; have HO165 := n0_; have BK159 := n1_; have HB := n2_; clear n0_ n1_ n2_; (try clear hb); (try clear hb2); (try clear hk); (try clear hi)))
           go_ret2
           exact ⟨by first | rfl | (simp [errW_none, errW_some] <;> rfl) | (simp [*, errW_none, errW_some] <;> rfl), by repeat (first | (with_reducible first | exact HB.out | apply below_alloc | apply pw_below_drewN | apply below_drew1 | refine below_set ?_ GE159.out) | exact HB.out)⟩
         · rw [if_neg c12] at H
           exact absurd H (by simp)
       · rw [if_neg c10] at H
         exact absurd H (by simp)
     · rw [if_neg c8] at H
       exact absurd H (by simp)
   · rw [if_neg c7] at H
     exact absurd H (by simp)
 · replace c3 := Bool.eq_false_iff.mpr c3
   subst c3
   have H1 : (some ((⟨#[]⟩ : ByteArray), 1)) = some (r1, r2) := by rw [if_neg (show ¬ (false = true) by decide)] at H; exact H
   clear H
   have H := H1
   clear H1
   simp only [Option.some.injEq, Prod.mk.injEq] at H
   obtain ⟨rfl, rfl⟩ := H
   go_enter Try.func18, Try.ntmps18
   go_wp2_with (first | ((with_reducible refine gate_dst (N := 1) rfl ?_); refine box_event ?hg (N := 1) ?hd (cs := #[.int .i64 a0_0, .int .i64 a0_1, .int .i64 a0_2, .int .i64 a0_3, .int .i64 a0_4, .int .i64 a0_5, .int .i64 a0_6, .int .i64 a0_7, .int .i64 a0_8]) (t := 27) ?hr ?_; (case hd => rfl); (case hg => rfl); (case hr => first | (go_simp; done) | (go_simp; rfl)); intro gb159 hg w26 hbox hb; have n0_ := Aside0.mk (below_step (by repeat (first | (with_reducible first | exact HB.out | apply below_alloc | apply pw_below_drewN | apply below_drew1) | exact HB.out)) hb); have n1_ := Aside0.mk (hbox); have n2_ := Aside0.mk ((by rw [hg]; exact (below_size (by repeat (first | (with_reducible first | exact HB.out | apply below_alloc | apply pw_below_drewN | apply below_drew1) | exact HB.out))) : w.heap.size ≤ gb159)); have n3_ := Aside0.mk ((by rw [hg]; exact (below_size (by repeat (first | (with_reducible first | exact HB.out | apply below_alloc | apply pw_below_drewN | apply below_drew1) | exact HB.out))) : w.heap.size ≤ gb159)); clear HB; have HB := n0_; have BK159 := n1_; have GW159 := n2_; have GE159 := n3_; clear n0_ n1_ n2_ n3_; clear hb hbox hg; have hcz27_0 : w26.cell? ⟨gb159, 0, none⟩ = some (.int .i64 a0_0) := (blk_cell BK159.out 0).trans rfl; have hcz27_1 : w26.cell? ⟨gb159, 1, none⟩ = some (.int .i64 a0_1) := (blk_cell BK159.out 1).trans rfl; have hcz27_2 : w26.cell? ⟨gb159, 2, none⟩ = some (.int .i64 a0_2) := (blk_cell BK159.out 2).trans rfl; have hcz27_3 : w26.cell? ⟨gb159, 3, none⟩ = some (.int .i64 a0_3) := (blk_cell BK159.out 3).trans rfl; have hcz27_4 : w26.cell? ⟨gb159, 4, none⟩ = some (.int .i64 a0_4) := (blk_cell BK159.out 4).trans rfl; have hcz27_5 : w26.cell? ⟨gb159, 5, none⟩ = some (.int .i64 a0_5) := (blk_cell BK159.out 5).trans rfl; have hcz27_6 : w26.cell? ⟨gb159, 6, none⟩ = some (.int .i64 a0_6) := (blk_cell BK159.out 6).trans rfl; have hcz27_7 : w26.cell? ⟨gb159, 7, none⟩ = some (.int .i64 a0_7) := (blk_cell BK159.out 7).trans rfl; have hcz27_8 : w26.cell? ⟨gb159, 8, none⟩ = some (.int .i64 a0_8) := (blk_cell BK159.out 8).trans rfl; have hfz27_0 := blk_frozen BK159.out 0; have hfz27_1 := blk_frozen BK159.out 1; have hfz27_2 := blk_frozen BK159.out 2; have hfz27_3 := blk_frozen BK159.out 3; have hfz27_4 := blk_frozen BK159.out 4; have hfz27_5 := blk_frozen BK159.out 5; have hfz27_6 := blk_frozen BK159.out 6; have hfz27_7 := blk_frozen BK159.out 7; have hfz27_8 := blk_frozen BK159.out 8) | ((with_reducible refine gate_callee (f := 39) rfl ?_); refine goesL_ (some 7) rfl rfl Try.func39 (by kernel_rfl) rfl #[.agg #[.int .i64 a0_0, .int .i64 a0_1, .int .i64 a0_2, .int .i64 a0_3, .int .i64 a0_4, .int .i64 a0_5, .int .i64 a0_6, .int .i64 a0_7, .int .i64 a0_8]] rfl (by (try simp only [List.map_toArray, List.map_cons, List.map_nil]); first | done | rfl | (simp only [List.length_drop, List.length_take]; rfl)) ?_; (with_reducible refine (subchannel_valid.calls a0_0 a0_1 a0_2 a0_3 a0_4 a0_5 a0_6 a0_7 a0_8 false _ A2.out).mono ?_); rintro e w28 ⟨rfl, hb⟩; refine ⟨_, rfl, ?_⟩; have n0_ := Aside0.mk (blk_below (g := gb159) (o := .cells #[.int .i64 a0_0, .int .i64 a0_1, .int .i64 a0_2, .int .i64 a0_3, .int .i64 a0_4, .int .i64 a0_5, .int .i64 a0_6, .int .i64 a0_7, .int .i64 a0_8] 27 (0, 0)) (by (with_reducible repeat (first | refine blk_drewN ?_ _ | refine blk_drew ?_ | refine blk_alloc ?_ _)); exact BK159.out) hb); have n1_ := Aside0.mk (below_step (by repeat (first | (with_reducible first | exact HB.out | apply below_alloc | apply pw_below_drewN | apply below_drew1 | refine below_set ?_ GE159.out) | exact HB.out)) hb); clear BK159; clear HB; have BK159 := n0_; have HB := n1_; clear n0_ n1_; (try clear hb); (try clear hb2); (try clear hk); (try clear hi)))
   go_ret2
   exact ⟨by first | rfl | (simp [errW_none, errW_some] <;> rfl) | (simp [*, errW_none, errW_some] <;> rfl), by repeat (first | (with_reducible first | exact HB.out | apply below_alloc | apply pw_below_drewN | apply below_drew1 | refine below_set ?_ GE159.out) | exact HB.out)⟩
end Go.Proofs.Ytpmkibggmkibeaa.G
namespace Go.Proofs.Ytpmkibggmkibeaa.G
open Go.RowKit Go.Proofs.YtpmkibggmkibeaaW.PrintWords Go.Proofs.YtpmkibggmkibeaaW.PrintLast Go.Proofs.YtpmkibggmkibeaaW.PrintMore
set_option linter.unusedVariables false
theorem msf_ranges {n : Int} (h0 : -150 ≤ n) (h1 : n ≤ 449849) : 0 ≤ msfM n ∧ msfM n ≤ 99 ∧ 0 ≤ msfS n ∧ msfS n ≤ 59 ∧ 0 ≤ msfF n ∧ msfF n ≤ 74 := by
 unfold msfM msfS msfF; omega
theorem msf_valid {n : Int} (h0 : -150 ≤ n) (h1 : n ≤ 449849) : address_Valid.f (msfM n) (msfS n) (msfF n) = some true := by
 have := msf_ranges h0 h1
 unfold address_Valid.f msfB
 rw [decide_eq_true (by omega)]
theorem msf_num {n : Int} : (60 * msfM n + msfS n) * 75 + msfF n = n + 150 := by
 unfold msfM msfS msfF; omega
theorem number_any {m s f : Int} (h0 : 0 ≤ m) (h1 : m ≤ 99) (h2 : 0 ≤ s) (h3 : s ≤ 59) (h4 : 0 ≤ f) (h5 : f ≤ 74) : address_number.f m s f = some ((60 * m + s) * 75 + f) := by
 unfold address_number.f
 have e1 : wrap64 (60 * m) = 60 * m := by unfold wrap64; omega
 rw [e1]
 have e2 : wrap64 (60 * m + s) = 60 * m + s := by unfold wrap64; omega
 rw [e2]
 have e3 : wrap64 ((60 * m + s) * 75) = (60 * m + s) * 75 := by unfold wrap64; omega
 rw [e3]
 have e4 : wrap64 ((60 * m + s) * 75 + f) = (60 * m + s) * 75 + f := by unfold wrap64; omega
 rw [e4]
theorem number_plain {n : Int} (h0 : -150 ≤ n) (h1 : n ≤ 449849) : address_number.f (msfM n) (msfS n) (msfF n) = some (n + 150) := by
 have h := msf_ranges h0 h1
 rw [number_any h.1 h.2.1 h.2.2.1 h.2.2.2.1 h.2.2.2.2.1 h.2.2.2.2.2, msf_num]
theorem toLBA_msf {n : Int} (h0 : -150 ≤ n) (h1 : n ≤ 449849) : address_ToLBA.f (msfM n) (msfS n) (msfF n) = some (n, 0) := by
 unfold address_ToLBA.f
 rw [msf_valid h0 h1]
 simp only [Option.bind_some]
 rw [if_pos trivial, number_plain h0 h1]
 simp only [Option.bind_some]
 rw [show wrap64 (n + 150 - 150) = n by unfold wrap64; omega]
theorem distance_msf {a b : Int} (h0 : -150 ≤ a) (h1 : a ≤ 449849) (h2 : -150 ≤ b) (h3 : b ≤ 449849) (k : Nat) : address_Distance.f (k + 1) (msfM a) (msfS a) (msfF a) (msfM b) (msfS b) (msfF b) = some (b - a, 0) := by
 unfold address_Distance.f
 rw [msf_valid h0 h1]
 simp only [Option.bind_some]
 rw [if_pos trivial, msf_valid h2 h3]
 simp only [Option.bind_some, Bool.not_true]
 simp only [address_Distance.j0]
 rw [if_neg (by decide), number_plain h2 h3, number_plain h0 h1]
 simp only [Option.bind_some]
 rw [show wrap64 (b + 150 - (a + 150)) = b - a by unfold wrap64; omega]
theorem msf_zero : msfM (-150) = 0 ∧ msfS (-150) = 0 ∧ msfF (-150) = 0 := by decide
theorem size_strOfNums (l : List Int) : (strOfNums l).size = l.length := by
 show (List.map (fun n => UInt8.ofNat n.toNat) l).toArray.size = l.length
 simp
theorem bcd_some (n : Int) : ∃ b e, endian_BCD.f n = some (b, e) := by
 unfold endian_BCD.f
 repeat' split
 all_goals exact ⟨_, _, rfl⟩
theorem number_some {n : Int} (h0 : 0 ≤ n) (h1 : n < 200) : ∃ b, subchannel_number.f n = some b := by
 unfold subchannel_number.f
 rw [if_pos ⟨h0, h1⟩]
 split
 · exact ⟨_, rfl⟩
 · obtain ⟨b, e, h⟩ := bcd_some n
   exact ⟨b, by rw [h]; rfl⟩
theorem enc1_some (n : Int) : ∃ s, address_Encode_1.f n = some s ∧ s.size = 1 := by
 unfold address_Encode_1.f
 obtain ⟨b, e, h⟩ := bcd_some n
 exact ⟨_, by rw [h]; rfl, size_strOfNums _⟩
theorem accK_size {r0 r1 r2 : ByteArray} (z0 : r0.size = 1) (z1 : r1.size = 1) (z2 : r2.size = 1) : (⟨(accK r0 r1 r2 3).toArray⟩ : ByteArray).size = 3 := by
 have e0 : r0.data.toList.length = r0.size := Array.length_toList
 have e1 : r1.data.toList.length = r1.size := Array.length_toList
 have e2 : r2.data.toList.length = r2.size := Array.length_toList
 show (accK r0 r1 r2 3).toArray.size = 3
 rw [List.size_toArray]
 show (r0.data.toList ++ r1.data.toList ++ r2.data.toList).length = 3
 simp only [List.length_append]
 omega
theorem encode1_some {m s f : Int} (h : address_Valid.f m s f = some true) : ∃ r, subchannel_Encode_1.f m s f = some r ∧ r.size = 3 := by
 have hb : msfB m s f = true := Option.some.inj h
 obtain ⟨r0, h0, z0⟩ := enc1_some m
 obtain ⟨r1, h1, z1⟩ := enc1_some s
 obtain ⟨r2, h2, z2⟩ := enc1_some f
 refine ⟨_, ?_, accK_size z0 z1 z2⟩
 unfold subchannel_Encode_1.f address_Encode.f
 rw [if_pos hb, h0, h1, h2]
 simp only [Option.bind_some]
 rw [if_pos (by omega)]
 rfl
theorem check_some {s : ByteArray} (h : s.size ≤ 140737488351232) : ∃ r, subchannel_check.f s = some r ∧ r.size = 2 := by
 unfold subchannel_check.f checksum_CRC16.f checksum_ExtendCRC16.f checksum_CRCBytes.f
 rw [if_pos ⟨by decide, by decide, h⟩]
 exact ⟨_, rfl, size_strOfNums _⟩
theorem encode_ok {c t p m1 s1 f1 m2 s2 f2 : Int} (ht : 0 ≤ t) (ht2 : t < 200) (hp : 0 ≤ p) (hp2 : p < 200) (hv : subchannel_valid.f c t p m1 s1 f1 m2 s2 f2 = some true) (h1 : address_Valid.f m1 s1 f1 = some true) (h2 : address_Valid.f m2 s2 f2 = some true) :
 ∃ s, subchannel_Encode.f c t p m1 s1 f1 m2 s2 f2 = some (s, 0) ∧ s.size = 12 := by
 obtain ⟨b1, e1⟩ := number_some ht ht2
 obtain ⟨b2, e2⟩ := number_some hp hp2
 obtain ⟨r1, e3, z3⟩ := encode1_some h1
 obtain ⟨r2, e4, z4⟩ := encode1_some h2
 unfold subchannel_Encode.f
 rw [hv]
 simp only [Option.bind_some]
 rw [if_pos trivial, e1, e2, e3, e4]
 simp only [Option.bind_some]
 generalize hy : strOfNums [(Go.bits .or .i64 (wrap64 (c * 16)) 1) % 256, b1, b2] = y
 have zy : y.size = 3 := by rw [← hy, size_strOfNums]; rfl
 have hz : (y ++ r1 ++ (⟨#[0]⟩ : ByteArray) ++ r2).size = 10 := by
  simp only [ByteArray.size_append, zy, z3, z4]; rfl
 obtain ⟨ck, e5, z5⟩ := check_some (s := y ++ r1 ++ (⟨#[0]⟩ : ByteArray) ++ r2) (by omega)
 rw [if_pos (by omega), if_pos (by simp only [ByteArray.size_append]; omega), if_pos (by simp only [ByteArray.size_append, zy, z3, z4]; decide), e5]
 simp only [Option.bind_some]
 rw [if_pos (by omega)]
 exact ⟨_, rfl, by rw [ByteArray.size_append]; omega⟩
theorem valid_track {c t p m1 s1 f1 m2 s2 f2 : Int} (hc0 : 0 ≤ c) (hc : c ≤ 15) (ht : 0 ≤ t ∧ t ≤ 99 ∨ t = 170) (hp0 : 0 ≤ p) (hp : p ≤ 99) (h1 : address_Valid.f m1 s1 f1 = some true) (h2 : address_Valid.f m2 s2 f2 = some true) :
 subchannel_valid.f c t p m1 s1 f1 m2 s2 f2 = some true := by
 unfold subchannel_valid.f
 rw [between_dec c, decide_eq_true ⟨hc0, hc⟩]
 simp only [Option.bind_some]
 rw [if_pos trivial, between_dec t]
 simp only [Option.bind_some]
 rw [between_dec p 0 99, decide_eq_true (p := 0 ≤ p ∧ p ≤ 99) ⟨hp0, hp⟩, h1, h2]
 simp only [Option.bind_some, if_true]
 rcases ht with ht | ht
 · rw [decide_eq_true ht, if_pos rfl]
 · rw [decide_eq_false (by omega), if_neg (by decide), if_pos ht]
end Go.Proofs.Ytpmkibggmkibeaa.G
namespace Go.Proofs.Ytpmkibggmkibeaa.G
open Go.RowKit Go.Proofs.YtpmkibggmkibeaaW.PrintWords Go.Proofs.YtpmkibggmkibeaaW.PrintLast Go.Proofs.YtpmkibggmkibeaaW.PrintMore
set_option linter.unusedVariables false
def idxP (p : S53 → Bool) (l : List (S53)) : Nat → Nat → Int
 | 0, _ => -1
 | d + 1, i => if p (rd_T53 l (i : Int)) = true then (i : Int) else idxP p l d (i + 1)
def FnAt (p : S53 → Bool) (g : Nat) (lb : Array Value) (w : World) : Prop :=
 (∀ args w, (callFunc g args).run Try.prog w = .ok (.enter g args) w) ∧
  ∀ (x : S53) (W : World), Below w.heap.size w W → Calls Try.prog g (#[.agg #[.int .i64 x.f0, .int .i64 x.f1, .int .i64 x.f2, .int .i64 x.f3, .int .i64 x.f4, .int .i64 x.f5, .int .i64 x.f6]] ++ lb) W fun e w' => e = .returned (.bool (p x)) ∧ Below W.heap.size W w'
set_option maxHeartbeats 1000000 in
set_option maxRecDepth 100000 in
theorem indexFunc_any (p : S53 → Bool) (g : Nat) (lb : Array Value) (A : Option Addr) (c : Nat) (l : List (S53)) (w : World) (hr : Kd.C k53 w A l.length l) (hp : FnAt p g lb w) :
 Calls Try.prog 28 #[.slice A l.length c, .func (.func g) #[] lb] w fun e w' => e = .returned (.int .i64 (idxP p l l.length 0)) ∧ Below w.heap.size w w' := by
 have heg := hp.1
 have HP := Aside0.mk hp.2
 have HM := Kd.C_max hr
 have HR := Aside0.mk hr
 obtain ⟨R, hR⟩ : ∃ R, idxP p l l.length 0 = R := ⟨_, rfl⟩
 rw [hR]
 have HRR := Aside0.mk hR
 clear hp hr hR
 go_enter Try.func28, Try.ntmps28
 go_wp2_with (fail)
 go_loopg [8] l.length (fun gk v8 wr => ∃ i : Nat, i ≤ l.length ∧ l.length - i ≤ gk ∧ v8 = .int .i64 i ∧ Aside0 (idxP p l (l.length - i) i = R) ∧ Aside0 (Below w.heap.size w wr))
 case atStart => exact ⟨0, Nat.zero_le _, by omega, rfl, by rw [Nat.sub_zero]; exact HRR, ⟨Below.refl _ _⟩⟩
 case round =>
  obtain ⟨i, hi, hg, rfl, HV, HB⟩ := hrel
  by_cases hlt : i < l.length
  · have hltz : (i : Int) < (l.length : Int) := by omega
    have hi0 : 0 ≤ (i : Int) := by omega
    obtain ⟨ad, rfl, hx0, hx1, hx2, hx3, hx4, hx5, hx6⟩ := at_T53 (Kd.C_below HR.out HB.out) (i : Int) hi0 hltz
    rw [Int.toNat_natCast] at hx0 hx1 hx2 hx3 hx4 hx5 hx6
    obtain ⟨x, hx⟩ : ∃ x, x = rd_T53 l (i : Int) := ⟨_, rfl⟩
    rw [← hx] at hx0 hx1 hx2 hx3 hx4 hx5 hx6
    have HX := Aside0.mk hx
    have HCALL := Aside0.mk (HP.out x wr HB.out)
    have hv := HV.out
    rw [show l.length - i = (l.length - (i + 1)) + 1 by omega] at hv
    simp only [idxP] at hv
    rw [← hx] at hv
    obtain ⟨b, hb⟩ : ∃ b, b = p x := ⟨_, rfl⟩
    rw [← hb] at HCALL hv
    have HV2 := Aside0.mk hv
    clear hx hv hb HV
    cases b with
    | true =>
     go_wp2_with (fail)
     refine HCALL.out.mono ?_
     rintro e wk ⟨rfl, hbk⟩
     go_wp2_with (fail)
     go_ret
     have := HV2.out
     rw [if_pos trivial] at this
     exact ⟨by rw [← this]; rfl, below_step HB.out hbk⟩
    | false =>
     go_wp2_with (fail)
     refine HCALL.out.mono ?_
     rintro e wk ⟨rfl, hbk⟩
     go_wp2_with (fail)
     go_roundg (l.length - (i + 1))
     case measure => omega
     case rel =>
      have := HV2.out
      rw [if_neg (by decide)] at this
      exact ⟨i + 1, by omega, by omega, by go_num, ⟨this⟩, ⟨below_step HB.out hbk⟩⟩
  · have hltz : ¬ (i : Int) < (l.length : Int) := by omega
    have hv := HV.out
    rw [show l.length - i = 0 by omega] at hv
    have HV2 := Aside0.mk hv
    clear hv HV
    go_wp2_with (fail)
    go_ret
    exact ⟨by rw [← HV2.out]; rfl, HB.out⟩
end Go.Proofs.Ytpmkibggmkibeaa.G
namespace Go.Proofs.Ytpmkibggmkibeaa.G
open Go.RowKit Go.Proofs.YtpmkibggmkibeaaW.PrintWords Go.Proofs.YtpmkibggmkibeaaW.PrintLast Go.Proofs.YtpmkibggmkibeaaW.PrintMore
attribute [local go_sem] max2_int min2_int max_two min_two max_three min_three max_four min_four   -- for this text's walks alone
set_option linter.unusedVariables false
set_option linter.unusedSimpArgs false
def subchannel_relative.f (a0 : Int) : Option (Int × Int × Int) := (subchannel_msf.f (wrap64 (a0 - 150))).bind fun bt180 => (some (bt180.1, bt180.2.1, bt180.2.2))
set_option maxHeartbeats 8000000 in
set_option maxRecDepth 100000 in
theorem subchannel_relative.calls (a0 : Int) (r1 : Int) (r2 : Int) (r3 : Int) (w : World) (h : subchannel_relative.f a0 = some (r1, r2, r3)) :
 Calls Try.prog 31 #[.int .i64 a0] w fun e w' => e = .returned (.agg #[.int .i64 r1, .int .i64 r2, .int .i64 r3]) ∧ Below w.heap.size w w' := by
 have hu25 := Try.underlying25
 have HB := Aside0.mk (Below.refl w.heap.size w)
 have H : ((subchannel_msf.f (wrap64 (a0 - 150))).bind fun bt180 => (some (bt180.1, bt180.2.1, bt180.2.2))) = some (r1, r2, r3) := h
 clear h
 replace H := Option.bind_eq_some_iff.mp H
 obtain ⟨⟨t180, t181, t182⟩, A20, H⟩ := H
 replace H : (some (t180, t181, t182)) = some (r1, r2, r3) := H
 have A2 := Aside0.mk A20
 clear A20
 simp only [Option.some.injEq, Prod.mk.injEq] at H
 obtain ⟨rfl, rfl, rfl⟩ := H
 go_enter Try.func31, Try.ntmps31
 go_wp2_with (first | ((with_reducible refine gate_dst (N := 2) rfl ?_); refine box_event ?hg (N := 2) ?hd (cs := #[.int .i64 0, .int .i64 0, .int .i64 0]) (t := 25) ?hr ?_; (case hd => rfl); (case hg => rfl); (case hr => first | (go_simp; done) | (go_simp; rfl)); intro gb179 hg w3 hbox hb; have n0_ := Aside0.mk (below_step (by repeat (first | (with_reducible first | exact HB.out | apply below_alloc | apply pw_below_drewN | apply below_drew1) | exact HB.out)) hb); have n1_ := Aside0.mk (hbox); have n2_ := Aside0.mk ((by rw [hg]; exact (below_size (by repeat (first | (with_reducible first | exact HB.out | apply below_alloc | apply pw_below_drewN | apply below_drew1) | exact HB.out))) : w.heap.size ≤ gb179)); have n3_ := Aside0.mk ((by rw [hg]; exact (below_size (by repeat (first | (with_reducible first | exact HB.out | apply below_alloc | apply pw_below_drewN | apply below_drew1) | exact HB.out))) : w.heap.size ≤ gb179)); clear HB; have HB := n0_; have BK179 := n1_; have GW179 := n2_; have GE179 := n3_; clear n0_ n1_ n2_ n3_; clear hb hbox hg) | ((with_reducible refine gate_callee (f := 27) rfl ?_); refine goesL_ (some 5) rfl rfl Try.func27 (by kernel_rfl) rfl #[.int .i64 (wrap64 (a0 - 150))] rfl (by (try simp only [List.map_toArray, List.map_cons, List.map_nil]); first | done | rfl | (simp only [List.length_drop, List.length_take]; rfl)) ?_; (with_reducible refine (subchannel_msf.calls (wrap64 (a0 - 150)) t180 t181 t182 _ A2.out).mono ?_); rintro e w4 ⟨rfl, hb⟩; refine ⟨_, rfl, ?_⟩; have n0_ := Aside0.mk (blk_below (g := gb179) (o := .cells #[.int .i64 0, .int .i64 0, .int .i64 0] 25 (0, 0)) (by (with_reducible repeat (first | refine blk_drewN ?_ _ | refine blk_drew ?_ | refine blk_alloc ?_ _)); exact BK179.out) hb); have n1_ := Aside0.mk (below_step (by repeat (first | (with_reducible first | exact HB.out | apply below_alloc | apply pw_below_drewN | apply below_drew1 | refine below_set ?_ GE179.out) | exact HB.out)) hb); clear BK179; clear HB; have BK179 := n0_; have HB := n1_; clear n0_ n1_; (try clear hb); (try clear hb2); (try clear hk); (try clear hi); obtain ⟨hcz5_0, hcz5_1, hcz5_2⟩ := cel3 BK179.out; obtain ⟨hfz5_0, hfz5_1, hfz5_2⟩ := frz3 BK179.out))
 refine bodyPost_ret (results_cell_row rfl _ _ gb179 25 #[.int .i64 t180, .int .i64 t181, .int .i64 t182] (0, 0) _ rfl (by (with_reducible repeat (first | refine blk_drewN ?_ _ | refine blk_drew ?_ | refine blk_alloc ?_ _)); refine blk_put (cs := #[.int .i64 t180, .int .i64 t181, .int .i64 0]) ?_ 2 _ rfl; (with_reducible repeat (first | refine blk_drewN ?_ _ | refine blk_drew ?_ | refine blk_alloc ?_ _)); refine blk_put (cs := #[.int .i64 t180, .int .i64 0, .int .i64 0]) ?_ 1 _ rfl; (with_reducible repeat (first | refine blk_drewN ?_ _ | refine blk_drew ?_ | refine blk_alloc ?_ _)); refine blk_put (cs := #[.int .i64 0, .int .i64 0, .int .i64 0]) ?_ 0 _ rfl; (with_reducible repeat (first | refine blk_drewN ?_ _ | refine blk_drew ?_ | refine blk_alloc ?_ _)); exact BK179.out) Try.underlying25 rfl (by kernel_rfl)) rfl ?_
 exact ⟨by first | rfl | (simp [errW_none, errW_some] <;> rfl) | (simp [*, errW_none, errW_some] <;> rfl), by repeat (first | (with_reducible first | exact HB.out | apply below_alloc | apply pw_below_drewN | apply below_drew1 | refine below_set ?_ GE179.out) | exact HB.out)⟩
end Go.Proofs.Ytpmkibggmkibeaa.G
namespace Go.Proofs.Ytpmkibggmkibeaa.G
open Go.RowKit Go.Proofs.YtpmkibggmkibeaaW.PrintWords Go.Proofs.YtpmkibggmkibeaaW.PrintLast Go.Proofs.YtpmkibggmkibeaaW.PrintMore
set_option linter.unusedVariables false
def headB (lba : Int) (t : S53) : Bool := decide (lba < wrap64 (t.f2 + t.f3))
set_option maxHeartbeats 400000 in
set_option maxRecDepth 100000 in
theorem program1 (lba : Int) (x : S53) (B : Nat) (w : World) (hc : w.heap[B]? = some (.cells #[.int .i64 lba] 3 (0, 0))) :
 Calls Try.prog 29 #[.agg #[.int .i64 x.f0, .int .i64 x.f1, .int .i64 x.f2, .int .i64 x.f3, .int .i64 x.f4, .int .i64 x.f5, .int .i64 x.f6], .pointer (some ⟨B, 0, none⟩)] w fun e w' => e = .returned (.bool (headB lba x)) ∧ Below w.heap.size w w' := by
 have hu := Try.underlying53
 obtain ⟨r, hr⟩ : ∃ r, wrap64 (x.f2 + x.f3) = r := ⟨_, rfl⟩
 have HE := fun W => Aside0.mk (subchannel_end.calls x.f0 x.f1 x.f2 x.f3 x.f4 x.f5 x.f6 r W (congrArg some hr))
 have hh : headB lba x = decide (lba < r) := by unfold headB; rw [hr]
 rw [hh]
 obtain ⟨x0, x1, x2, x3, x4, x5, x6⟩ := x
 clear hh hr
 dsimp only at HE ⊢
 have hB := below_one w (.cells #[.int .i64 x0, .int .i64 x1, .int .i64 x2, .int .i64 x3, .int .i64 x4, .int .i64 x5, .int .i64 x6] 53)
 have HB := Aside0.mk hB
 have hc1 := blk_alloc hc (.cells #[.int .i64 x0, .int .i64 x1, .int .i64 x2, .int .i64 x3, .int .i64 x4, .int .i64 x5, .int .i64 x6] 53)
 have hn1 := blk_new w (.cells #[.int .i64 x0, .int .i64 x1, .int .i64 x2, .int .i64 x3, .int .i64 x4, .int .i64 x5, .int .i64 x6] 53)
 have HC1 := Aside0.mk hc1
 have HN1 := Aside0.mk hn1
 clear hB hc1 hn1 hc
 go_enter Try.func29, Try.ntmps29
 go_wp2_with (fail)
 generalize w.alloc _ = W at HB HC1 HN1 ⊢
 obtain ⟨g, hg⟩ : ∃ g, w.heap.size = g := ⟨_, rfl⟩
 have hn1 := HN1.out
 rw [hg] at hn1 ⊢
 have hc1 : W.cell? ⟨B, 0, none⟩ = some (.int .i64 lba) := (blk_cell HC1.out 0).trans rfl
 have k0 : W.cell? ⟨g, 0, none⟩ = some (.int .i64 x0) := (blk_cell hn1 0).trans rfl
 have k1 : W.cell? ⟨g, 1, none⟩ = some (.int .i64 x1) := (blk_cell hn1 1).trans rfl
 have k2 : W.cell? ⟨g, 2, none⟩ = some (.int .i64 x2) := (blk_cell hn1 2).trans rfl
 have k3 : W.cell? ⟨g, 3, none⟩ = some (.int .i64 x3) := (blk_cell hn1 3).trans rfl
 have k4 : W.cell? ⟨g, 4, none⟩ = some (.int .i64 x4) := (blk_cell hn1 4).trans rfl
 have k5 : W.cell? ⟨g, 5, none⟩ = some (.int .i64 x5) := (blk_cell hn1 5).trans rfl
 have k6 : W.cell? ⟨g, 6, none⟩ = some (.int .i64 x6) := (blk_cell hn1 6).trans rfl
 clear hn1 HN1 hg
 go_region_with (first
  | (go_at_call 30; refine (HE _).out.mono ?_; rintro e w2 ⟨rfl, hb2⟩; have hc2 : w2.cell? ⟨B, 0, none⟩ = some (.int .i64 lba) := (blk_cell (blk_below (blk_drew HC1.out) hb2) 0).trans rfl; have HB2 := Aside0.mk (below_step (below_drew1 HB.out) hb2); clear hb2))
 all_goals go_wp2_with (fail)
 all_goals go_ret
 all_goals exact ⟨rfl, HB2.out⟩
theorem callFunc_29 (args : Array Value) (w : World) : (callFunc 29 args).run Try.prog w = .ok (.enter 29 args) w := by
 have hf := Try.func29
 exact enters_ hf (by kernel_rfl) rfl args w
theorem fnAt_head (lba : Int) (B : Nat) (w : World) (hc : w.heap[B]? = some (.cells #[.int .i64 lba] 3 (0, 0))) : FnAt (headB lba) 29 #[.pointer (some ⟨B, 0, none⟩)] w :=
 ⟨callFunc_29, fun x W hb => program1 lba x B W (blk_below hc hb)⟩
theorem relative_plain {n : Int} (h0 : 0 ≤ n) (h1 : n ≤ 449999) : subchannel_relative.f n = some (msfM (n - 150), msfS (n - 150), msfF (n - 150)) := by
 unfold subchannel_relative.f
 rw [show wrap64 (n - 150) = n - 150 by unfold wrap64; omega, msf_plain (by omega) (by omega)]
 rfl
def progI (l : List (S53)) (lba : Int) : Int := idxP (headB lba) l l.length 0
def lastE (l : List (S53)) : Int := (rd_T53 l ((l.length : Int) - 1)).f2 + (rd_T53 l ((l.length : Int) - 1)).f3
def relOf (c t p n m s f : Int) : Int × Int × Int × Int × Int × Int × Int × Int × Int × Int := (c, t, p, msfM (n - 150), msfS (n - 150), msfF (n - 150), m, s, f, 0)
def subchannel_Program.f (l : List (S53)) (a1 a2 : Int) : Option (Int × Int × Int × Int × Int × Int × Int × Int × Int × Int) :=
 if sesB l = true ∧ 0 ≤ a1 ∧ a1 ≤ 15 then
  if 0 ≤ a2 ∧ a2 ≤ 449849 then
   if progI l a2 < 0 then some (relOf a1 170 1 (a2 - lastE l) (msfM a2) (msfS a2) (msfF a2))
   else if a2 < (rd_T53 l (progI l a2)).f2 then some (relOf a1 (rd_T53 l (progI l a2)).f0 0 ((rd_T53 l (progI l a2)).f2 - a2) (msfM a2) (msfS a2) (msfF a2))
   else some (relOf a1 (rd_T53 l (progI l a2)).f0 1 (a2 - (rd_T53 l (progI l a2)).f2) (msfM a2) (msfS a2) (msfF a2))
  else some (0, 0, 0, 0, 0, 0, 0, 0, 0, 2)
 else some (0, 0, 0, 0, 0, 0, 0, 0, 0, 1)
set_option maxHeartbeats 400000 in
set_option maxRecDepth 100000 in
theorem program_no1 (A : Option Addr) (cp : Nat) (l : List (S53)) (a1 a2 : Int) (w : World) (hr : Kd.C k53 w A l.length l) (hc : l.length ≤ cp) (h : ¬ (sesB l = true ∧ 0 ≤ a1 ∧ a1 ≤ 15)) :
 Calls Try.prog 11 #[.slice A l.length cp, .int .i64 a1, .int .i64 a2] w fun e w' => e = .returned (.tuple #[.agg #[.int .i64 0, .int .i64 0, .int .i64 0, .int .i64 0, .int .i64 0, .int .i64 0, .int .i64 0, .int .i64 0, .int .i64 0], .int .i64 1]) ∧ Below w.heap.size w w' := by
 have hu := Try.underlying27
 cases hs : sesB l with
 | false =>
  have HS := fun W h1 => Aside0.mk (session_any A cp l W h1 hc)
  rw [hs] at HS
  have HR := Aside0.mk hr
  clear hr hc h hs
  go_enter Try.func11, Try.ntmps11
  go_wp2_with (fail)
  generalize hw0 : (w.alloc _).alloc _ = w0
  obtain ⟨hb0, hb1, hB⟩ := two_new hw0
  have HR0 := Aside0.mk (Kd.C_below HR.out hB)
  have HB0 := Aside0.mk hB
  have HQ0 := Aside0.mk hb1
  clear hw0 hb0 hb1 hB
  refine (HS _ HR0.out).out.mono ?_
  rintro e w2 ⟨rfl, hb2⟩
  have HB2 := Aside0.mk (below_step HB0.out hb2)
  have HQ2 := blk_below HQ0.out hb2
  clear hb2
  go_wp2_with (first | (refine wpList_store_row rfl 27 (.tmp 6) (.tmp 19) rfl (w.heap.size + 1) #[.int .i64 0, .int .i64 0, .int .i64 0, .int .i64 0, .int .i64 0, .int .i64 0, .int .i64 0, .int .i64 0, .int .i64 0] rfl rfl _ _ HQ2 (by kernel_rfl) rfl (by kernel_rfl) ?_))
  refine bodyPost_ret (results_ct rfl _ _ (w.heap.size + 1) 27 #[.int .i64 0, .int .i64 0, .int .i64 0, .int .i64 0, .int .i64 0, .int .i64 0, .int .i64 0, .int .i64 0, .int .i64 0] (0, 0) _ rfl (setRow_heap _ _ _ _ _ _ HQ2) hu rfl (by kernel_rfl)) rfl ?_
  exact ⟨rfl, below_setRow HB2.out (by omega) _⟩
 | true =>
  have hn : ¬ (0 ≤ a1 ∧ a1 ≤ 15) := fun h2 => h ⟨hs, h2⟩
  have HS := fun W h1 => Aside0.mk (session_any A cp l W h1 hc)
  rw [hs] at HS
  have HT := fun W => Aside0.mk (subchannel_between.calls a1 0 15 false W (between_no hn))
  have HR := Aside0.mk hr
  clear hr hc h hs hn
  go_enter Try.func11, Try.ntmps11
  go_wp2_with (fail)
  generalize hw0 : (w.alloc _).alloc _ = w0
  obtain ⟨hb0, hb1, hB⟩ := two_new hw0
  have HR0 := Aside0.mk (Kd.C_below HR.out hB)
  have HB0 := Aside0.mk hB
  have HQ0 := Aside0.mk hb1
  clear hw0 hb0 hb1 hB
  refine (HS _ HR0.out).out.mono ?_
  rintro e w2 ⟨rfl, hb2⟩
  have HB2 := Aside0.mk (below_step HB0.out hb2)
  have HQ2 := Aside0.mk (blk_below HQ0.out hb2)
  clear hb2
  go_wp2_with (fail)
  refine (HT _).out.mono ?_
  rintro e w3 ⟨rfl, hd⟩
  have HB3 := Aside0.mk (below_step HB2.out hd.below)
  have HQ3 := blk_below HQ2.out hd.below
  clear hd
  go_wp2_with (first | (refine wpList_store_row rfl 27 (.tmp 6) (.tmp 19) rfl (w.heap.size + 1) #[.int .i64 0, .int .i64 0, .int .i64 0, .int .i64 0, .int .i64 0, .int .i64 0, .int .i64 0, .int .i64 0, .int .i64 0] rfl rfl _ _ HQ3 (by kernel_rfl) rfl (by kernel_rfl) ?_))
  refine bodyPost_ret (results_ct rfl _ _ (w.heap.size + 1) 27 #[.int .i64 0, .int .i64 0, .int .i64 0, .int .i64 0, .int .i64 0, .int .i64 0, .int .i64 0, .int .i64 0, .int .i64 0] (0, 0) _ rfl (setRow_heap _ _ _ _ _ _ HQ3) hu rfl (by kernel_rfl)) rfl ?_
  exact ⟨rfl, below_setRow HB3.out (by omega) _⟩
theorem idxP_range (p : S53 → Bool) (l : List (S53)) (d : Nat) : ∀ i, l.length - i = d → i ≤ l.length → idxP p l d i = -1 ∨ ∃ j : Nat, idxP p l d i = (j : Int) ∧ i ≤ j ∧ j < l.length ∧ p (rd_T53 l (j : Int)) = true ∧ ∀ k : Nat, i ≤ k → k < j → p (rd_T53 l (k : Int)) = false := by
 induction d with
 | zero => intro i _ _; exact Or.inl rfl
 | succ d ih =>
  intro i hd hi
  simp only [idxP]
  cases hp : p (rd_T53 l (i : Int)) with
  | true =>
   rw [if_pos rfl]
   exact Or.inr ⟨i, rfl, Nat.le_refl _, by omega, hp, fun k h1 h2 => by omega⟩
  | false =>
   rw [if_neg (by decide)]
   rcases ih (i + 1) (by omega) (by omega) with h | ⟨j, h1, h2, h3, h4, h5⟩
   · exact Or.inl h
   · refine Or.inr ⟨j, h1, by omega, h3, h4, fun k k1 k2 => ?_⟩
     by_cases e : k = i
     · rw [e]; exact hp
     · exact h5 k (by omega) k2
theorem pg_keep {w W w2 : World} {b q r : Nat} {lba q0 q1 q2 q3 q4 q5 q6 q7 q8 : Int} (hb : Below W.heap.size W w2) (h1 : W.heap[b]? = some (.cells #[.int .i64 lba] 3 (0, 0))) (h2 : W.heap[q]? = some (.cells #[.int .i64 q0, .int .i64 q1, .int .i64 q2, .int .i64 q3, .int .i64 q4, .int .i64 q5, .int .i64 q6, .int .i64 q7, .int .i64 q8] 27 (0, 0))) (h3 : W.heap[r]? = some (.cells #[.int .i64 0, .int .i64 0, .int .i64 0, .int .i64 0, .int .i64 0, .int .i64 0, .int .i64 0, .int .i64 0, .int .i64 0] 27 (0, 0))) (h4 : Below w.heap.size w W) :
 w2.cell? ⟨b, 0, none⟩ = some (.int .i64 lba) ∧ (w2.cell? ⟨q, 0, none⟩ = some (.int .i64 q0) ∧ w2.cell? ⟨q, 1, none⟩ = some (.int .i64 q1) ∧ w2.cell? ⟨q, 2, none⟩ = some (.int .i64 q2) ∧ w2.cell? ⟨q, 3, none⟩ = some (.int .i64 q3) ∧ w2.cell? ⟨q, 4, none⟩ = some (.int .i64 q4) ∧ w2.cell? ⟨q, 5, none⟩ = some (.int .i64 q5) ∧ w2.cell? ⟨q, 6, none⟩ = some (.int .i64 q6) ∧ w2.cell? ⟨q, 7, none⟩ = some (.int .i64 q7) ∧ w2.cell? ⟨q, 8, none⟩ = some (.int .i64 q8)) ∧ (w2.frozen? ⟨q, 1, none⟩ = false ∧ w2.frozen? ⟨q, 2, none⟩ = false ∧ w2.frozen? ⟨q, 3, none⟩ = false ∧ w2.frozen? ⟨q, 4, none⟩ = false ∧ w2.frozen? ⟨q, 5, none⟩ = false) ∧ w2.heap[b]? = some (.cells #[.int .i64 lba] 3 (0, 0)) ∧ w2.heap[q]? = some (.cells #[.int .i64 q0, .int .i64 q1, .int .i64 q2, .int .i64 q3, .int .i64 q4, .int .i64 q5, .int .i64 q6, .int .i64 q7, .int .i64 q8] 27 (0, 0)) ∧ w2.heap[r]? = some (.cells #[.int .i64 0, .int .i64 0, .int .i64 0, .int .i64 0, .int .i64 0, .int .i64 0, .int .i64 0, .int .i64 0, .int .i64 0] 27 (0, 0)) ∧ Below w.heap.size w w2 :=
 ⟨(blk_cell (blk_below h1 hb) 0).trans rfl, ⟨(blk_cell (blk_below h2 hb) 0).trans rfl, (blk_cell (blk_below h2 hb) 1).trans rfl, (blk_cell (blk_below h2 hb) 2).trans rfl, (blk_cell (blk_below h2 hb) 3).trans rfl, (blk_cell (blk_below h2 hb) 4).trans rfl, (blk_cell (blk_below h2 hb) 5).trans rfl, (blk_cell (blk_below h2 hb) 6).trans rfl, (blk_cell (blk_below h2 hb) 7).trans rfl, (blk_cell (blk_below h2 hb) 8).trans rfl⟩, ⟨blk_frozen (blk_below h2 hb) 1, blk_frozen (blk_below h2 hb) 2, blk_frozen (blk_below h2 hb) 3, blk_frozen (blk_below h2 hb) 4, blk_frozen (blk_below h2 hb) 5⟩, blk_below h1 hb, blk_below h2 hb, blk_below h3 hb, below_step h4 hb⟩
set_option maxHeartbeats 400000 in
set_option maxRecDepth 100000 in
theorem program_no2 (A : Option Addr) (cp : Nat) (l : List (S53)) (a1 a2 : Int) (w : World) (hr : Kd.C k53 w A l.length l) (hc : l.length ≤ cp) (hs : sesB l = true) (h0 : 0 ≤ a1) (h15 : a1 ≤ 15) (hn : ¬ (0 ≤ a2 ∧ a2 ≤ 449849)) :
 Calls Try.prog 11 #[.slice A l.length cp, .int .i64 a1, .int .i64 a2] w fun e w' => e = .returned (.tuple #[.agg #[.int .i64 0, .int .i64 0, .int .i64 0, .int .i64 0, .int .i64 0, .int .i64 0, .int .i64 0, .int .i64 0, .int .i64 0], .int .i64 2]) ∧ Below w.heap.size w w' := by
 have hu := Try.underlying27
 have hu3 := Try.underlying25
 have hmf : ∀ (fn : Fn) (first cap : Array Value) (w : World), (Instr.makeFunc fn first cap).run Try.prog w = .ok (.func fn first cap) w := fun _ _ _ _ => rfl
 have HR := Aside0.mk hr
 have HS := fun W h1 => Aside0.mk (session_any A cp l W h1 hc)
 rw [hs] at HS
 have HT := fun W => Aside0.mk (subchannel_between.calls a1 0 15 true W (between_yes h0 h15))
 have HU := fun W => Aside0.mk (subchannel_between.calls a2 0 449849 false W (between_no hn))
 clear hr hc hs h0 h15 hn
 go_enter Try.func11, Try.ntmps11
 go_wp2_with (fail)
 generalize hw0 : (w.alloc _).alloc _ = w0
 obtain ⟨hb0, hb1, hB⟩ := two_new hw0
 have HR0 := Aside0.mk (Kd.C_below HR.out hB)
 have HB0 := Aside0.mk hB
 have HL0 := Aside0.mk hb0
 have HQ0 := Aside0.mk hb1
 clear hw0 hb0 hb1 hB
 refine (HS _ HR0.out).out.mono ?_
 rintro e w2 ⟨rfl, hb2⟩
 have HB2 := Aside0.mk (below_step HB0.out hb2)
 have HQ2 := Aside0.mk (blk_below HQ0.out hb2)
 have HL2 := Aside0.mk (blk_below HL0.out hb2)
 clear hb2 HB0 HQ0 HL0 HR0 HS
 go_wp2_with (fail)
 refine (HT _).out.mono ?_
 rintro e w3 ⟨rfl, hd⟩
 have HB3 := Aside0.mk (below_step HB2.out hd.below)
 have HQ3 := Aside0.mk (blk_below HQ2.out hd.below)
 have HL3 := Aside0.mk (blk_below HL2.out hd.below)
 have k0 : w3.cell? ⟨w.heap.size, 0, none⟩ = some (.int .i64 a2) := (blk_cell HL3.out 0).trans rfl
 clear hd HB2 HQ2 HL2 HT
 go_wp2_with (fail)
 refine (HU _).out.mono ?_
 rintro e w4 ⟨rfl, hd⟩
 have HB4 := Aside0.mk (below_step HB3.out hd.below)
 have HQ4 := Aside0.mk (blk_below HQ3.out hd.below)
 have HL4 := Aside0.mk (blk_below HL3.out hd.below)
 have k1 : w4.cell? ⟨w.heap.size, 0, none⟩ = some (.int .i64 a2) := (blk_cell HL4.out 0).trans rfl
 clear hd HB3 HQ3 HL3 HU k0
 have HQ5 := HQ4.out
 go_wp2_with (first | (refine wpList_store_row rfl 27 (.tmp 6) (.tmp 24) rfl (w.heap.size + 1) #[.int .i64 0, .int .i64 0, .int .i64 0, .int .i64 0, .int .i64 0, .int .i64 0, .int .i64 0, .int .i64 0, .int .i64 0] rfl rfl _ _ HQ5 (by kernel_rfl) rfl (by kernel_rfl) ?_))
 refine bodyPost_ret (results_ct rfl _ _ (w.heap.size + 1) 27 #[.int .i64 0, .int .i64 0, .int .i64 0, .int .i64 0, .int .i64 0, .int .i64 0, .int .i64 0, .int .i64 0, .int .i64 0] (0, 0) _ rfl (setRow_heap _ _ _ _ _ _ HQ5) hu rfl (by kernel_rfl)) rfl ?_
 exact ⟨rfl, below_setRow HB4.out (by omega) _⟩
set_option maxHeartbeats 1000000 in
set_option maxRecDepth 100000 in
theorem program_out (A : Option Addr) (cp : Nat) (l : List (S53)) (a1 a2 m s f m2 s2 u2 : Int) (w : World) (hr : Kd.C k53 w A l.length l) (hc : l.length ≤ cp) (hs : sesB l = true) (h0 : 0 ≤ a1) (h15 : a1 ≤ 15) (h2 : 0 ≤ a2) (h4 : a2 ≤ 449849) (hi : progI l a2 < 0) (hge : lastE l ≤ a2)
 (hm : subchannel_msf.f a2 = some (m, s, f)) (hm2 : subchannel_relative.f (a2 - lastE l) = some (m2, s2, u2)) :
 Calls Try.prog 11 #[.slice A l.length cp, .int .i64 a1, .int .i64 a2] w fun e w' => e = .returned (.tuple #[.agg #[.int .i64 a1, .int .i64 170, .int .i64 1, .int .i64 m2, .int .i64 s2, .int .i64 u2, .int .i64 m, .int .i64 s, .int .i64 f], .int .i64 0]) ∧ Below w.heap.size w w' := by
 have hu := Try.underlying27
 have hu3 := Try.underlying25
 have hmf : ∀ (fn : Fn) (first cap : Array Value) (w : World), (Instr.makeFunc fn first cap).run Try.prog w = .ok (.func fn first cap) w := fun _ _ _ _ => rfl
 have HR := Aside0.mk hr
 have HS := fun W h1 => Aside0.mk (session_any A cp l W h1 hc)
 rw [hs] at HS
 have HT := fun W => Aside0.mk (subchannel_between.calls a1 0 15 true W (between_yes h0 h15))
 have HU := fun W => Aside0.mk (subchannel_between.calls a2 0 449849 true W (between_yes h2 h4))
 have HM := fun W => Aside0.mk (subchannel_msf.calls a2 m s f W hm)
 have HM2 := fun W => Aside0.mk (subchannel_relative.calls (a2 - lastE l) m2 s2 u2 W hm2)
 obtain ⟨idx, hidx⟩ : ∃ idx, progI l a2 = idx := ⟨_, rfl⟩
 rw [hidx] at hi
 have HIDX := Aside0.mk hidx
 have HSES := Aside0.mk (ses_of hs)
 have hl1 : 1 ≤ l.length := HSES.out.one
 have hl9 : l.length ≤ 99 := HSES.out.most
 have HGE := Aside0.mk hge
 clear hr hc hs h0 h15 hm hm2 hidx hge
 go_enter Try.func11, Try.ntmps11
 go_wp2_with (fail)
 generalize hw0 : (w.alloc _).alloc _ = w0
 obtain ⟨hb0, hb1, hB⟩ := two_new hw0
 have HR0 := Aside0.mk (Kd.C_below HR.out hB)
 have HB0 := Aside0.mk hB
 have HL0 := Aside0.mk hb0
 have HQ0 := Aside0.mk hb1
 clear hw0 hb0 hb1 hB
 refine (HS _ HR0.out).out.mono ?_
 rintro e w2 ⟨rfl, hb2⟩
 have HB2 := Aside0.mk (below_step HB0.out hb2)
 have HQ2 := Aside0.mk (blk_below HQ0.out hb2)
 have HL2 := Aside0.mk (blk_below HL0.out hb2)
 clear hb2 HB0 HQ0 HL0 HR0 HS
 go_wp2_with (fail)
 refine (HT _).out.mono ?_
 rintro e w3 ⟨rfl, hd⟩
 have HB3 := Aside0.mk (below_step HB2.out hd.below)
 have HQ3 := Aside0.mk (blk_below HQ2.out hd.below)
 have HL3 := Aside0.mk (blk_below HL2.out hd.below)
 have k0 : w3.cell? ⟨w.heap.size, 0, none⟩ = some (.int .i64 a2) := (blk_cell HL3.out 0).trans rfl
 clear hd HB2 HQ2 HL2 HT
 go_wp2_with (fail)
 refine (HU _).out.mono ?_
 rintro e w4 ⟨rfl, hd⟩
 have HB4 := Aside0.mk (below_step HB3.out hd.below)
 have HQ4 := Aside0.mk (blk_below HQ3.out hd.below)
 have HL4 := Aside0.mk (blk_below HL3.out hd.below)
 have k1 : w4.cell? ⟨w.heap.size, 0, none⟩ = some (.int .i64 a2) := (blk_cell HL4.out 0).trans rfl
 clear hd HB3 HQ3 HL3 HU k0
 go_wp2_with (fail)
 refine (HM _).out.mono ?_
 rintro e w5 ⟨rfl, hb5⟩
 have HB5 := Aside0.mk (below_step HB4.out hb5)
 have HQ5 := Aside0.mk (blk_below HQ4.out hb5)
 have HL5 := Aside0.mk (blk_below HL4.out hb5)
 clear hb5 HB4 HQ4 HL4 HM k1
 go_wp2_with (fail)
 generalize hw6 : w5.alloc _ = w6
 have hB6 : Below w5.heap.size w5 w6 := by rw [← hw6]; exact below_one _ _
 obtain ⟨q, hq⟩ : ∃ q, w5.heap.size = q := ⟨_, rfl⟩
 have hbq : w6.heap[q]? = some (.cells #[.int .i64 a1, .int .i64 170, .int .i64 1, .int .i64 0, .int .i64 0, .int .i64 0, .int .i64 m, .int .i64 s, .int .i64 f] 27 (0, 0)) := by rw [← hw6, ← hq]; exact blk_new _ _
 rw [hq]
 have HGQ := Aside0.mk (show w.heap.size ≤ q by rw [← hq]; exact HB5.out.size)
 have HNQ := Aside0.mk (show w.heap.size + 1 ≠ q by have := blk_lt HQ5.out; omega)
 have HB6 := Aside0.mk (below_step HB5.out hB6)
 have HQ6 := Aside0.mk hbq
 have HZ6 := Aside0.mk (blk_below HQ5.out hB6)
 have HL6 := Aside0.mk (blk_below HL5.out hB6)
 clear hw6 hB6 hq hbq HB5 HQ5 HL5
 refine (indexFunc_any (headB a2) 29 #[.pointer (some ⟨w.heap.size, 0, none⟩)] A cp l w6 (Kd.C_below HR.out HB6.out) (fnAt_head a2 w.heap.size w6 HL6.out)).mono ?_
 rintro e w7 ⟨rfl, hb7⟩
 rw [show idxP (headB a2) l l.length 0 = idx from HIDX.out]
 obtain ⟨k0, ⟨c0, c1, c2, c3, c4, c5, c6, c7, c8⟩, ⟨f1, f2, f3, f4, f5⟩, hl7, hq7, hz7, hb77⟩ := pg_keep hb7 HL6.out HQ6.out HZ6.out HB6.out
 have HB7 := Aside0.mk hb77
 have HQ7 := Aside0.mk hq7
 have HZ7 := Aside0.mk hz7
 have HL7 := Aside0.mk hl7
 clear hb7 hb77 hq7 hz7 hl7 HB6 HQ6 HZ6 HL6
 have hz1 : (1 : Int) ≤ (l.length : Int) := by omega
 have hz2 : 0 ≤ (l.length : Int) - 1 := by omega
 have hz3 : (l.length : Int) - 1 < (l.length : Int) := by omega
 have hz4 : ((l.length : Int) - 1).toNat = l.length - 1 := by omega
 obtain ⟨ad, rfl, hx0, hx1, hx2, hx3, hx4, hx5, hx6⟩ := at_T53 (Kd.C_below HR.out HB7.out) ((l.length : Int) - 1) hz2 hz3
 rw [hz4] at hx0 hx1 hx2 hx3 hx4 hx5 hx6
 have hst := HSES.out.start (l.length - 1) (by omega)
 have hle := HSES.out.len (l.length - 1) (by omega)
 rw [show ((l.length - 1 : Nat) : Int) = (l.length : Int) - 1 by omega] at hst hle
 obtain ⟨eL, heL⟩ : ∃ e, lastE l = e := ⟨_, rfl⟩
 have he2 : (rd_T53 l ((l.length : Int) - 1)).f2 + (rd_T53 l ((l.length : Int) - 1)).f3 = eL := heL
 rw [heL] at HM2
 generalize rd_T53 l ((l.length : Int) - 1) = x at hx0 hx1 hx2 hx3 hx4 hx5 hx6 hst hle he2
 obtain ⟨x0, x1, x2, x3, x4, x5, x6⟩ := x
 dsimp only at hx0 hx1 hx2 hx3 hx4 hx5 hx6 hst hle he2
 have HE := fun W => Aside0.mk (subchannel_end.calls x0 x1 x2 x3 x4 x5 x6 eL W (by rw [end_plain hst.1 hst.2 (by have := hle.1; omega) hle.2.1, he2]))
 have hge0 : eL ≤ a2 := by rw [← heL]; exact HGE.out
 have hel0 : 0 ≤ eL := by have := hle.1; have := hst.1; omega
 have hzi5 : 1 ≤ l.length := hl1
 have hidb : decide (idx < 0) = true := decide_eq_true hi
 clear hst hle he2 heL
 go_wp2_with (fail)
 have hw1 : IntKind.i64.wrap ((l.length : Int) - 1) = (l.length : Int) - 1 := IntWalk.i64_in _ (by omega)
 have hw2 : IntKind.i64.wrap (a2 - eL) = a2 - eL := IntWalk.i64_in _ (by omega)
 go_region_with (first
  | (go_at_call 30; refine (HE _).out.mono ?_; rintro e v8 ⟨rfl, hb8⟩; obtain ⟨kk8, ⟨c80, c81, c82, c83, c84, c85, c86, c87, c88⟩, ⟨f81, f82, f83, f84, f85⟩, hl8, hq8, hz8, hbb8⟩ := pg_keep hb8 (blk_drew HL7.out) (blk_drew HQ7.out) (blk_drew HZ7.out) (below_drew1 HB7.out); have JL8 := Aside0.mk hl8; have JQ8 := Aside0.mk hq8; have JZ8 := Aside0.mk hz8; have JB8 := Aside0.mk hbb8; clear hb8 hl8 hq8 hz8 hbb8)
  | (go_at_call 31; refine (HM2 _).out.mono ?_; rintro e v9 ⟨rfl, hb9⟩; obtain ⟨kk9, ⟨c90, c91, c92, c93, c94, c95, c96, c97, c98⟩, ⟨f91, f92, f93, f94, f95⟩, hl9, hq9, hz9, hbb9⟩ := pg_keep hb9 JL8.out JQ8.out JZ8.out JB8.out; have JL9 := Aside0.mk hl9; have JQ9 := Aside0.mk hq9; have JZ9 := Aside0.mk hz9; have JB9 := Aside0.mk hbb9; clear hb9 hl9 hq9 hz9 hbb9))
 all_goals
  have HQF := Aside0.mk (blk_put (cs := #[.int .i64 a1, .int .i64 170, .int .i64 1, .int .i64 m2, .int .i64 s2, .int .i64 0, .int .i64 m, .int .i64 s, .int .i64 f]) (blk_put (cs := #[.int .i64 a1, .int .i64 170, .int .i64 1, .int .i64 m2, .int .i64 0, .int .i64 0, .int .i64 m, .int .i64 s, .int .i64 f]) (blk_put (cs := #[.int .i64 a1, .int .i64 170, .int .i64 1, .int .i64 0, .int .i64 0, .int .i64 0, .int .i64 m, .int .i64 s, .int .i64 f]) JQ9.out 3 (.int .i64 m2) rfl) 4 (.int .i64 s2) rfl) 5 (.int .i64 u2) rfl)
  have HZF := Aside0.mk (blk_far (p := ⟨q, 5, none⟩) (blk_far (p := ⟨q, 4, none⟩) (blk_far (p := ⟨q, 3, none⟩) JZ9.out HNQ.out (.int .i64 m2)) HNQ.out (.int .i64 s2)) HNQ.out (.int .i64 u2))
  go_wp2_with (first | (refine wpList_load_row rfl 27 (.tmp 8) rfl q rfl _ #[.int .i64 a1, .int .i64 170, .int .i64 1, .int .i64 m2, .int .i64 s2, .int .i64 u2, .int .i64 m, .int .i64 s, .int .i64 f] (0, 0) _ HQF.out hu rfl (by kernel_rfl) ?_) | (refine wpList_store_row rfl 27 (.tmp 6) (.tmp 85) rfl (w.heap.size + 1) #[.int .i64 a1, .int .i64 170, .int .i64 1, .int .i64 m2, .int .i64 s2, .int .i64 u2, .int .i64 m, .int .i64 s, .int .i64 f] rfl rfl _ _ HZF.out (by kernel_rfl) rfl (by kernel_rfl) ?_))
  refine bodyPost_ret (results_ct rfl _ _ (w.heap.size + 1) 27 #[.int .i64 a1, .int .i64 170, .int .i64 1, .int .i64 m2, .int .i64 s2, .int .i64 u2, .int .i64 m, .int .i64 s, .int .i64 f] (0, 0) _ rfl (setRow_heap _ _ _ _ _ _ HZF.out) hu rfl (by kernel_rfl)) rfl ?_
  exact ⟨rfl, below_setRow (below_set (j := 5) (v := .int .i64 u2) (below_set (j := 4) (v := .int .i64 s2) (below_set (j := 3) (v := .int .i64 m2) JB9.out HGQ.out) HGQ.out) HGQ.out) (by omega) _⟩
set_option maxHeartbeats 2000000 in
set_option maxRecDepth 100000 in
theorem program_gap (A : Option Addr) (cp : Nat) (l : List (S53)) (a1 a2 m s f m2 s2 u2 : Int) (j : Nat) (w : World) (hr : Kd.C k53 w A l.length l) (hc : l.length ≤ cp) (hs : sesB l = true) (h0 : 0 ≤ a1) (h15 : a1 ≤ 15) (h2 : 0 ≤ a2) (h4 : a2 ≤ 449849) (hi : progI l a2 = (j : Int)) (hj : j < l.length) (hcmp : a2 < (rd_T53 l (j : Int)).f2)
 (hm : subchannel_msf.f a2 = some (m, s, f)) (hm2 : subchannel_relative.f ((rd_T53 l (j : Int)).f2 - a2) = some (m2, s2, u2)) :
 Calls Try.prog 11 #[.slice A l.length cp, .int .i64 a1, .int .i64 a2] w fun e w' => e = .returned (.tuple #[.agg #[.int .i64 a1, .int .i64 (rd_T53 l (j : Int)).f0, .int .i64 0, .int .i64 m2, .int .i64 s2, .int .i64 u2, .int .i64 m, .int .i64 s, .int .i64 f], .int .i64 0]) ∧ Below w.heap.size w w' := by
 have hu := Try.underlying27
 have hu3 := Try.underlying25
 have hmf : ∀ (fn : Fn) (first cap : Array Value) (w : World), (Instr.makeFunc fn first cap).run Try.prog w = .ok (.func fn first cap) w := fun _ _ _ _ => rfl
 have HR := Aside0.mk hr
 have HS := fun W h1 => Aside0.mk (session_any A cp l W h1 hc)
 rw [hs] at HS
 have HT := fun W => Aside0.mk (subchannel_between.calls a1 0 15 true W (between_yes h0 h15))
 have HU := fun W => Aside0.mk (subchannel_between.calls a2 0 449849 true W (between_yes h2 h4))
 have HM := fun W => Aside0.mk (subchannel_msf.calls a2 m s f W hm)
 have HM2 := fun W => Aside0.mk (subchannel_relative.calls ((rd_T53 l (j : Int)).f2 - a2) m2 s2 u2 W hm2)
 obtain ⟨idx, hidx⟩ : ∃ idx : Int, (j : Int) = idx := ⟨_, rfl⟩
 have HIDX := Aside0.mk (show progI l a2 = (j : Int) from hi)
 have HSES := Aside0.mk (ses_of hs)
 have hst := HSES.out.start j hj
 have hl9 : l.length ≤ 99 := HSES.out.most
 obtain ⟨x, hx⟩ : ∃ x, x = rd_T53 l (j : Int) := ⟨_, rfl⟩
 rw [← hx] at hst hcmp HM2 ⊢
 obtain ⟨x0, x1, x2, x3, x4, x5, x6⟩ := x
 dsimp only at hst hcmp HM2 ⊢
 have HX := Aside0.mk hx
 clear hr hc hs h0 h15 hm hm2 hidx hi hx
 go_enter Try.func11, Try.ntmps11
 go_wp2_with (fail)
 generalize hw0 : (w.alloc _).alloc _ = w0
 obtain ⟨hb0, hb1, hB⟩ := two_new hw0
 have HR0 := Aside0.mk (Kd.C_below HR.out hB)
 have HB0 := Aside0.mk hB
 have HL0 := Aside0.mk hb0
 have HQ0 := Aside0.mk hb1
 clear hw0 hb0 hb1 hB
 refine (HS _ HR0.out).out.mono ?_
 rintro e w2 ⟨rfl, hb2⟩
 have HB2 := Aside0.mk (below_step HB0.out hb2)
 have HQ2 := Aside0.mk (blk_below HQ0.out hb2)
 have HL2 := Aside0.mk (blk_below HL0.out hb2)
 clear hb2 HB0 HQ0 HL0 HR0 HS
 go_wp2_with (fail)
 refine (HT _).out.mono ?_
 rintro e w3 ⟨rfl, hd⟩
 have HB3 := Aside0.mk (below_step HB2.out hd.below)
 have HQ3 := Aside0.mk (blk_below HQ2.out hd.below)
 have HL3 := Aside0.mk (blk_below HL2.out hd.below)
 have k0 : w3.cell? ⟨w.heap.size, 0, none⟩ = some (.int .i64 a2) := (blk_cell HL3.out 0).trans rfl
 clear hd HB2 HQ2 HL2 HT
 go_wp2_with (fail)
 refine (HU _).out.mono ?_
 rintro e w4 ⟨rfl, hd⟩
 have HB4 := Aside0.mk (below_step HB3.out hd.below)
 have HQ4 := Aside0.mk (blk_below HQ3.out hd.below)
 have HL4 := Aside0.mk (blk_below HL3.out hd.below)
 have k1 : w4.cell? ⟨w.heap.size, 0, none⟩ = some (.int .i64 a2) := (blk_cell HL4.out 0).trans rfl
 clear hd HB3 HQ3 HL3 HU k0
 go_wp2_with (fail)
 refine (HM _).out.mono ?_
 rintro e w5 ⟨rfl, hb5⟩
 have HB5 := Aside0.mk (below_step HB4.out hb5)
 have HQ5 := Aside0.mk (blk_below HQ4.out hb5)
 have HL5 := Aside0.mk (blk_below HL4.out hb5)
 clear hb5 HB4 HQ4 HL4 HM k1
 go_wp2_with (fail)
 generalize hw6 : w5.alloc _ = w6
 have hB6 : Below w5.heap.size w5 w6 := by rw [← hw6]; exact below_one _ _
 obtain ⟨q, hq⟩ : ∃ q, w5.heap.size = q := ⟨_, rfl⟩
 have hbq : w6.heap[q]? = some (.cells #[.int .i64 a1, .int .i64 170, .int .i64 1, .int .i64 0, .int .i64 0, .int .i64 0, .int .i64 m, .int .i64 s, .int .i64 f] 27 (0, 0)) := by rw [← hw6, ← hq]; exact blk_new _ _
 rw [hq]
 have HGQ := Aside0.mk (show w.heap.size ≤ q by rw [← hq]; exact HB5.out.size)
 have HNQ := Aside0.mk (show w.heap.size + 1 ≠ q by have := blk_lt HQ5.out; omega)
 have HB6 := Aside0.mk (below_step HB5.out hB6)
 have HQ6 := Aside0.mk hbq
 have HZ6 := Aside0.mk (blk_below HQ5.out hB6)
 have HL6 := Aside0.mk (blk_below HL5.out hB6)
 clear hw6 hB6 hq hbq HB5 HQ5 HL5
 refine (indexFunc_any (headB a2) 29 #[.pointer (some ⟨w.heap.size, 0, none⟩)] A cp l w6 (Kd.C_below HR.out HB6.out) (fnAt_head a2 w.heap.size w6 HL6.out)).mono ?_
 rintro e w7 ⟨rfl, hb7⟩
 rw [show idxP (headB a2) l l.length 0 = (j : Int) from HIDX.out]
 obtain ⟨k0, ⟨c0, c1, c2, c3, c4, c5, c6, c7, c8⟩, ⟨f1, f2, f3, f4, f5⟩, hl7, hq7, hz7, hb77⟩ := pg_keep hb7 HL6.out HQ6.out HZ6.out HB6.out
 have HB7 := Aside0.mk hb77
 have HQ7 := Aside0.mk hq7
 have HZ7 := Aside0.mk hz7
 have HL7 := Aside0.mk hl7
 clear hb7 hb77 hq7 hz7 hl7 HB6 HQ6 HZ6 HL6
 have hz1 : (j : Int) < (l.length : Int) := by omega
 have hz2 : 0 ≤ (j : Int) := by omega
 obtain ⟨ad, rfl, hx0, -, hx2, -⟩ := at_T53 (Kd.C_below HR.out HB7.out) (j : Int) hz2 hz1
 rw [Int.toNat_natCast, ← HX.out] at hx0 hx2
 dsimp only at hx0 hx2
 have hs0 := hst.1
 have hs1 := hst.2
 have hidb : decide ((j : Int) < 0) = false := decide_eq_false (by omega)
 have hcb : decide (a2 < x2) = true := decide_eq_true hcmp
 clear hst
 go_wp2_with (fail)
 go_quiet (fail)
 go_wp2_with (fail)
 have hw2 : IntKind.i64.wrap (x2 - a2) = x2 - a2 := IntWalk.i64_in _ (by omega)
 go_region_with (first
  | (go_at_call 31; refine (HM2 _).out.mono ?_; rintro e v9 ⟨rfl, hb9⟩; obtain ⟨kk9, ⟨c90, c91, c92, c93, c94, c95, c96, c97, c98⟩, ⟨f91, f92, f93, f94, f95⟩, hl9, hq9, hz9, hbb9⟩ := pg_keep hb9 (blk_drewN HL7.out _) (blk_drewN HQ7.out _) (blk_drewN HZ7.out _) (pw_below_drewN HB7.out _); have hx0n := cell_below_ (show (w7.drewN (nq + 1)).cell? (ad.add (j * 7)) = some (.int .i64 x0) from hx0) hb9; have JL9 := Aside0.mk hl9; have JQ9 := Aside0.mk hq9; have JZ9 := Aside0.mk hz9; have JB9 := Aside0.mk hbb9; clear hb9 hl9 hq9 hz9 hbb9))
 all_goals
  have HQF := Aside0.mk (blk_put (cs := #[.int .i64 a1, .int .i64 x0, .int .i64 0, .int .i64 m2, .int .i64 s2, .int .i64 0, .int .i64 m, .int .i64 s, .int .i64 f]) (blk_put (cs := #[.int .i64 a1, .int .i64 x0, .int .i64 0, .int .i64 m2, .int .i64 0, .int .i64 0, .int .i64 m, .int .i64 s, .int .i64 f]) (blk_put (cs := #[.int .i64 a1, .int .i64 x0, .int .i64 0, .int .i64 0, .int .i64 0, .int .i64 0, .int .i64 m, .int .i64 s, .int .i64 f]) (blk_put (cs := #[.int .i64 a1, .int .i64 x0, .int .i64 1, .int .i64 0, .int .i64 0, .int .i64 0, .int .i64 m, .int .i64 s, .int .i64 f]) (blk_put (cs := #[.int .i64 a1, .int .i64 170, .int .i64 1, .int .i64 0, .int .i64 0, .int .i64 0, .int .i64 m, .int .i64 s, .int .i64 f]) JQ9.out 1 (.int .i64 x0) rfl) 2 (.int .i64 0) rfl) 3 (.int .i64 m2) rfl) 4 (.int .i64 s2) rfl) 5 (.int .i64 u2) rfl)
  have HZF := Aside0.mk (blk_far (p := ⟨q, 5, none⟩) (blk_far (p := ⟨q, 4, none⟩) (blk_far (p := ⟨q, 3, none⟩) (blk_far (p := ⟨q, 2, none⟩) (blk_far (p := ⟨q, 1, none⟩) JZ9.out HNQ.out (.int .i64 x0)) HNQ.out (.int .i64 0)) HNQ.out (.int .i64 m2)) HNQ.out (.int .i64 s2)) HNQ.out (.int .i64 u2))
  go_wp2_with (first | (refine wpList_load_row rfl 27 (.tmp 8) rfl q rfl _ #[.int .i64 a1, .int .i64 x0, .int .i64 0, .int .i64 m2, .int .i64 s2, .int .i64 u2, .int .i64 m, .int .i64 s, .int .i64 f] (0, 0) _ HQF.out hu rfl (by kernel_rfl) ?_) | (refine wpList_store_row rfl 27 (.tmp 6) (.tmp 85) rfl (w.heap.size + 1) #[.int .i64 a1, .int .i64 x0, .int .i64 0, .int .i64 m2, .int .i64 s2, .int .i64 u2, .int .i64 m, .int .i64 s, .int .i64 f] rfl rfl _ _ HZF.out (by kernel_rfl) rfl (by kernel_rfl) ?_))
  refine bodyPost_ret (results_ct rfl _ _ (w.heap.size + 1) 27 #[.int .i64 a1, .int .i64 x0, .int .i64 0, .int .i64 m2, .int .i64 s2, .int .i64 u2, .int .i64 m, .int .i64 s, .int .i64 f] (0, 0) _ rfl (setRow_heap _ _ _ _ _ _ HZF.out) hu rfl (by kernel_rfl)) rfl ?_
  exact ⟨rfl, below_setRow (below_set (j := 5) (v := .int .i64 u2) (below_set (j := 4) (v := .int .i64 s2) (below_set (j := 3) (v := .int .i64 m2) (below_set (j := 2) (v := .int .i64 0) (below_set (j := 1) (v := .int .i64 x0) JB9.out HGQ.out) HGQ.out) HGQ.out) HGQ.out) HGQ.out) (by omega) _⟩
set_option maxHeartbeats 2000000 in
set_option maxRecDepth 100000 in
theorem program_in (A : Option Addr) (cp : Nat) (l : List (S53)) (a1 a2 m s f m2 s2 u2 : Int) (j : Nat) (w : World) (hr : Kd.C k53 w A l.length l) (hc : l.length ≤ cp) (hs : sesB l = true) (h0 : 0 ≤ a1) (h15 : a1 ≤ 15) (h2 : 0 ≤ a2) (h4 : a2 ≤ 449849) (hi : progI l a2 = (j : Int)) (hj : j < l.length) (hcmp : (rd_T53 l (j : Int)).f2 ≤ a2)
 (hm : subchannel_msf.f a2 = some (m, s, f)) (hm2 : subchannel_relative.f (a2 - (rd_T53 l (j : Int)).f2) = some (m2, s2, u2)) :
 Calls Try.prog 11 #[.slice A l.length cp, .int .i64 a1, .int .i64 a2] w fun e w' => e = .returned (.tuple #[.agg #[.int .i64 a1, .int .i64 (rd_T53 l (j : Int)).f0, .int .i64 1, .int .i64 m2, .int .i64 s2, .int .i64 u2, .int .i64 m, .int .i64 s, .int .i64 f], .int .i64 0]) ∧ Below w.heap.size w w' := by
 have hu := Try.underlying27
 have hu3 := Try.underlying25
 have hmf : ∀ (fn : Fn) (first cap : Array Value) (w : World), (Instr.makeFunc fn first cap).run Try.prog w = .ok (.func fn first cap) w := fun _ _ _ _ => rfl
 have HR := Aside0.mk hr
 have HS := fun W h1 => Aside0.mk (session_any A cp l W h1 hc)
 rw [hs] at HS
 have HT := fun W => Aside0.mk (subchannel_between.calls a1 0 15 true W (between_yes h0 h15))
 have HU := fun W => Aside0.mk (subchannel_between.calls a2 0 449849 true W (between_yes h2 h4))
 have HM := fun W => Aside0.mk (subchannel_msf.calls a2 m s f W hm)
 have HM2 := fun W => Aside0.mk (subchannel_relative.calls (a2 - (rd_T53 l (j : Int)).f2) m2 s2 u2 W hm2)
 obtain ⟨idx, hidx⟩ : ∃ idx : Int, (j : Int) = idx := ⟨_, rfl⟩
 have HIDX := Aside0.mk (show progI l a2 = (j : Int) from hi)
 have HSES := Aside0.mk (ses_of hs)
 have hst := HSES.out.start j hj
 have hl9 : l.length ≤ 99 := HSES.out.most
 obtain ⟨x, hx⟩ : ∃ x, x = rd_T53 l (j : Int) := ⟨_, rfl⟩
 rw [← hx] at hst hcmp HM2 ⊢
 obtain ⟨x0, x1, x2, x3, x4, x5, x6⟩ := x
 dsimp only at hst hcmp HM2 ⊢
 have HX := Aside0.mk hx
 clear hr hc hs h0 h15 hm hm2 hidx hi hx
 go_enter Try.func11, Try.ntmps11
 go_wp2_with (fail)
 generalize hw0 : (w.alloc _).alloc _ = w0
 obtain ⟨hb0, hb1, hB⟩ := two_new hw0
 have HR0 := Aside0.mk (Kd.C_below HR.out hB)
 have HB0 := Aside0.mk hB
 have HL0 := Aside0.mk hb0
 have HQ0 := Aside0.mk hb1
 clear hw0 hb0 hb1 hB
 refine (HS _ HR0.out).out.mono ?_
 rintro e w2 ⟨rfl, hb2⟩
 have HB2 := Aside0.mk (below_step HB0.out hb2)
 have HQ2 := Aside0.mk (blk_below HQ0.out hb2)
 have HL2 := Aside0.mk (blk_below HL0.out hb2)
 clear hb2 HB0 HQ0 HL0 HR0 HS
 go_wp2_with (fail)
 refine (HT _).out.mono ?_
 rintro e w3 ⟨rfl, hd⟩
 have HB3 := Aside0.mk (below_step HB2.out hd.below)
 have HQ3 := Aside0.mk (blk_below HQ2.out hd.below)
 have HL3 := Aside0.mk (blk_below HL2.out hd.below)
 have k0 : w3.cell? ⟨w.heap.size, 0, none⟩ = some (.int .i64 a2) := (blk_cell HL3.out 0).trans rfl
 clear hd HB2 HQ2 HL2 HT
 go_wp2_with (fail)
 refine (HU _).out.mono ?_
 rintro e w4 ⟨rfl, hd⟩
 have HB4 := Aside0.mk (below_step HB3.out hd.below)
 have HQ4 := Aside0.mk (blk_below HQ3.out hd.below)
 have HL4 := Aside0.mk (blk_below HL3.out hd.below)
 have k1 : w4.cell? ⟨w.heap.size, 0, none⟩ = some (.int .i64 a2) := (blk_cell HL4.out 0).trans rfl
 clear hd HB3 HQ3 HL3 HU k0
 go_wp2_with (fail)
 refine (HM _).out.mono ?_
 rintro e w5 ⟨rfl, hb5⟩
 have HB5 := Aside0.mk (below_step HB4.out hb5)
 have HQ5 := Aside0.mk (blk_below HQ4.out hb5)
 have HL5 := Aside0.mk (blk_below HL4.out hb5)
 clear hb5 HB4 HQ4 HL4 HM k1
 go_wp2_with (fail)
 generalize hw6 : w5.alloc _ = w6
 have hB6 : Below w5.heap.size w5 w6 := by rw [← hw6]; exact below_one _ _
 obtain ⟨q, hq⟩ : ∃ q, w5.heap.size = q := ⟨_, rfl⟩
 have hbq : w6.heap[q]? = some (.cells #[.int .i64 a1, .int .i64 170, .int .i64 1, .int .i64 0, .int .i64 0, .int .i64 0, .int .i64 m, .int .i64 s, .int .i64 f] 27 (0, 0)) := by rw [← hw6, ← hq]; exact blk_new _ _
 rw [hq]
 have HGQ := Aside0.mk (show w.heap.size ≤ q by rw [← hq]; exact HB5.out.size)
 have HNQ := Aside0.mk (show w.heap.size + 1 ≠ q by have := blk_lt HQ5.out; omega)
 have HB6 := Aside0.mk (below_step HB5.out hB6)
 have HQ6 := Aside0.mk hbq
 have HZ6 := Aside0.mk (blk_below HQ5.out hB6)
 have HL6 := Aside0.mk (blk_below HL5.out hB6)
 clear hw6 hB6 hq hbq HB5 HQ5 HL5
 refine (indexFunc_any (headB a2) 29 #[.pointer (some ⟨w.heap.size, 0, none⟩)] A cp l w6 (Kd.C_below HR.out HB6.out) (fnAt_head a2 w.heap.size w6 HL6.out)).mono ?_
 rintro e w7 ⟨rfl, hb7⟩
 rw [show idxP (headB a2) l l.length 0 = (j : Int) from HIDX.out]
 obtain ⟨k0, ⟨c0, c1, c2, c3, c4, c5, c6, c7, c8⟩, ⟨f1, f2, f3, f4, f5⟩, hl7, hq7, hz7, hb77⟩ := pg_keep hb7 HL6.out HQ6.out HZ6.out HB6.out
 have HB7 := Aside0.mk hb77
 have HQ7 := Aside0.mk hq7
 have HZ7 := Aside0.mk hz7
 have HL7 := Aside0.mk hl7
 clear hb7 hb77 hq7 hz7 hl7 HB6 HQ6 HZ6 HL6
 have hz1 : (j : Int) < (l.length : Int) := by omega
 have hz2 : 0 ≤ (j : Int) := by omega
 obtain ⟨ad, rfl, hx0, -, hx2, -⟩ := at_T53 (Kd.C_below HR.out HB7.out) (j : Int) hz2 hz1
 rw [Int.toNat_natCast, ← HX.out] at hx0 hx2
 dsimp only at hx0 hx2
 have hs0 := hst.1
 have hs1 := hst.2
 have hidb : decide ((j : Int) < 0) = false := decide_eq_false (by omega)
 have hcb : decide (a2 < x2) = false := decide_eq_false (by omega)
 clear hst
 go_wp2_with (fail)
 go_quiet (fail)
 go_wp2_with (fail)
 have hw2 : IntKind.i64.wrap (a2 - x2) = a2 - x2 := IntWalk.i64_in _ (by omega)
 go_region_with (first
  | (go_at_call 31; refine (HM2 _).out.mono ?_; rintro e v9 ⟨rfl, hb9⟩; obtain ⟨kk9, ⟨c90, c91, c92, c93, c94, c95, c96, c97, c98⟩, ⟨f91, f92, f93, f94, f95⟩, hl9, hq9, hz9, hbb9⟩ := pg_keep hb9 (blk_drewN HL7.out _) (blk_drewN HQ7.out _) (blk_drewN HZ7.out _) (pw_below_drewN HB7.out _); have hx0n := cell_below_ (show (w7.drewN (nq + 1)).cell? (ad.add (j * 7)) = some (.int .i64 x0) from hx0) hb9; have JL9 := Aside0.mk hl9; have JQ9 := Aside0.mk hq9; have JZ9 := Aside0.mk hz9; have JB9 := Aside0.mk hbb9; clear hb9 hl9 hq9 hz9 hbb9))
 all_goals
  have HQF := Aside0.mk (blk_put (cs := #[.int .i64 a1, .int .i64 x0, .int .i64 1, .int .i64 m2, .int .i64 s2, .int .i64 0, .int .i64 m, .int .i64 s, .int .i64 f]) (blk_put (cs := #[.int .i64 a1, .int .i64 x0, .int .i64 1, .int .i64 m2, .int .i64 0, .int .i64 0, .int .i64 m, .int .i64 s, .int .i64 f]) (blk_put (cs := #[.int .i64 a1, .int .i64 x0, .int .i64 1, .int .i64 0, .int .i64 0, .int .i64 0, .int .i64 m, .int .i64 s, .int .i64 f]) (blk_put (cs := #[.int .i64 a1, .int .i64 170, .int .i64 1, .int .i64 0, .int .i64 0, .int .i64 0, .int .i64 m, .int .i64 s, .int .i64 f]) JQ9.out 1 (.int .i64 x0) rfl) 3 (.int .i64 m2) rfl) 4 (.int .i64 s2) rfl) 5 (.int .i64 u2) rfl)
  have HZF := Aside0.mk (blk_far (p := ⟨q, 5, none⟩) (blk_far (p := ⟨q, 4, none⟩) (blk_far (p := ⟨q, 3, none⟩) (blk_far (p := ⟨q, 1, none⟩) JZ9.out HNQ.out (.int .i64 x0)) HNQ.out (.int .i64 m2)) HNQ.out (.int .i64 s2)) HNQ.out (.int .i64 u2))
  go_wp2_with (first | (refine wpList_load_row rfl 27 (.tmp 8) rfl q rfl _ #[.int .i64 a1, .int .i64 x0, .int .i64 1, .int .i64 m2, .int .i64 s2, .int .i64 u2, .int .i64 m, .int .i64 s, .int .i64 f] (0, 0) _ HQF.out hu rfl (by kernel_rfl) ?_) | (refine wpList_store_row rfl 27 (.tmp 6) (.tmp 85) rfl (w.heap.size + 1) #[.int .i64 a1, .int .i64 x0, .int .i64 1, .int .i64 m2, .int .i64 s2, .int .i64 u2, .int .i64 m, .int .i64 s, .int .i64 f] rfl rfl _ _ HZF.out (by kernel_rfl) rfl (by kernel_rfl) ?_))
  refine bodyPost_ret (results_ct rfl _ _ (w.heap.size + 1) 27 #[.int .i64 a1, .int .i64 x0, .int .i64 1, .int .i64 m2, .int .i64 s2, .int .i64 u2, .int .i64 m, .int .i64 s, .int .i64 f] (0, 0) _ rfl (setRow_heap _ _ _ _ _ _ HZF.out) hu rfl (by kernel_rfl)) rfl ?_
  exact ⟨rfl, below_setRow (below_set (j := 5) (v := .int .i64 u2) (below_set (j := 4) (v := .int .i64 s2) (below_set (j := 3) (v := .int .i64 m2) (below_set (j := 1) (v := .int .i64 x0) JB9.out HGQ.out) HGQ.out) HGQ.out) HGQ.out) (by omega) _⟩
end Go.Proofs.Ytpmkibggmkibeaa.G
namespace Go.Proofs.Ytpmkibggmkibeaa.G
open Go.RowKit Go.Proofs.YtpmkibggmkibeaaW.PrintWords Go.Proofs.YtpmkibggmkibeaaW.PrintLast Go.Proofs.YtpmkibggmkibeaaW.PrintMore
set_option linter.unusedVariables false
theorem idxP_none (p : S53 → Bool) (l : List (S53)) (d : Nat) : ∀ i, l.length - i = d → idxP p l d i = -1 → ∀ k : Nat, i ≤ k → k < l.length → p (rd_T53 l (k : Int)) = false := by
 induction d with
 | zero => intro i hd _ k h1 h2; omega
 | succ d ih =>
  intro i hd h k h1 h2
  simp only [idxP] at h
  cases hp : p (rd_T53 l (i : Int)) with
  | true => rw [hp, if_pos rfl] at h; omega
  | false =>
   rw [hp, if_neg (by decide)] at h
   by_cases e : k = i
   · rw [e]; exact hp
   · exact ih (i + 1) (by omega) h k (by omega) h2
theorem headB_plain {l : List (S53)} (hs : Ses l) (lba : Int) (k : Nat) (hk : k < l.length) : headB lba (rd_T53 l (k : Int)) = decide (lba < (rd_T53 l (k : Int)).f2 + (rd_T53 l (k : Int)).f3) := by
 have h1 := hs.start k hk
 have h2 := hs.len k hk
 unfold headB
 rw [show wrap64 ((rd_T53 l (k : Int)).f2 + (rd_T53 l (k : Int)).f3) = (rd_T53 l (k : Int)).f2 + (rd_T53 l (k : Int)).f3 by unfold wrap64; omega]
theorem progI_cases {l : List (S53)} (hs : Ses l) (lba : Int) :
 (progI l lba = -1 ∧ lastE l ≤ lba) ∨ ∃ j : Nat, progI l lba = (j : Int) ∧ j < l.length ∧ lba < (rd_T53 l (j : Int)).f2 + (rd_T53 l (j : Int)).f3 ∧ ∀ k : Nat, k < j → (rd_T53 l (k : Int)).f2 + (rd_T53 l (k : Int)).f3 ≤ lba := by
 rcases idxP_range (headB lba) l l.length 0 (by omega) (by omega) with h | ⟨j, h1, h2, h3, h4, h5⟩
 · refine Or.inl ⟨h, ?_⟩
   have h1 := hs.one
   have := idxP_none (headB lba) l l.length 0 (by omega) h (l.length - 1) (by omega) (by omega)
   rw [headB_plain hs lba _ (by omega)] at this
   have h2 := of_decide_eq_false this
   rw [show ((l.length - 1 : Nat) : Int) = (l.length : Int) - 1 by omega] at h2
   unfold lastE
   omega
 · refine Or.inr ⟨j, h1, h3, ?_, fun k hk => ?_⟩
   · rw [headB_plain hs lba j h3] at h4; exact of_decide_eq_true h4
   · have := h5 k (by omega) hk
     rw [headB_plain hs lba k (by omega)] at this
     have := of_decide_eq_false this
     omega
theorem subchannel_Program.calls (A0 : Option Addr) (c0 : Nat) (l0 : List (S53)) (a1 : Int) (a2 : Int) (r1 : Int) (r2 : Int) (r3 : Int) (r4 : Int) (r5 : Int) (r6 : Int) (r7 : Int) (r8 : Int) (r9 : Int) (r10 : Int) (w : World) (hr0 : Kd.C k53 w A0 l0.length l0) (hc0 : l0.length ≤ c0) (h : subchannel_Program.f l0 a1 a2 = some (r1, r2, r3, r4, r5, r6, r7, r8, r9, r10)) :
 Calls Try.prog 11 #[.slice A0 l0.length c0, .int .i64 a1, .int .i64 a2] w fun e w' => e = .returned (.tuple #[.agg #[.int .i64 r1, .int .i64 r2, .int .i64 r3, .int .i64 r4, .int .i64 r5, .int .i64 r6, .int .i64 r7, .int .i64 r8, .int .i64 r9], .int .i64 r10]) ∧ Below w.heap.size w w' := by
 unfold subchannel_Program.f at h
 by_cases hs : sesB l0 = true ∧ 0 ≤ a1 ∧ a1 ≤ 15
 case neg =>
  rw [if_neg hs] at h
  cases h
  exact program_no1 A0 c0 l0 a1 a2 w hr0 hc0 hs
 rw [if_pos hs] at h
 by_cases h2 : 0 ≤ a2 ∧ a2 ≤ 449849
 case neg =>
  rw [if_neg h2] at h
  cases h
  exact program_no2 A0 c0 l0 a1 a2 w hr0 hc0 hs.1 hs.2.1 hs.2.2 h2
 rw [if_pos h2] at h
 have hses := ses_of hs.1
 rcases progI_cases hses a2 with ⟨hi, hge⟩ | ⟨j, hi, hj, hlt, -⟩
 · have hst := hses.start (l0.length - 1) (by have := hses.one; omega)
   have hle := hses.len (l0.length - 1) (by have := hses.one; omega)
   rw [show ((l0.length - 1 : Nat) : Int) = (l0.length : Int) - 1 by have := hses.one; omega] at hst hle
   rw [if_pos (by omega)] at h
   simp only [relOf, Option.some.injEq, Prod.mk.injEq] at h
   obtain ⟨rfl, rfl, rfl, rfl, rfl, rfl, rfl, rfl, rfl, rfl⟩ := h
   exact program_out A0 c0 l0 a1 a2 _ _ _ _ _ _ w hr0 hc0 hs.1 hs.2.1 hs.2.2 h2.1 h2.2 (by omega) hge (msf_plain (by omega) h2.2) (relative_plain (by omega) (by have : lastE l0 = (rd_T53 l0 ((l0.length : Int) - 1)).f2 + (rd_T53 l0 ((l0.length : Int) - 1)).f3 := rfl; omega))
 · rw [if_neg (by omega), hi] at h
   have hst := hses.start j hj
   have hle := hses.len j hj
   by_cases hcmp : a2 < (rd_T53 l0 (j : Int)).f2
   · rw [if_pos hcmp] at h
     simp only [relOf, Option.some.injEq, Prod.mk.injEq] at h
     obtain ⟨rfl, rfl, rfl, rfl, rfl, rfl, rfl, rfl, rfl, rfl⟩ := h
     exact program_gap A0 c0 l0 a1 a2 _ _ _ _ _ _ j w hr0 hc0 hs.1 hs.2.1 hs.2.2 h2.1 h2.2 hi hj hcmp (msf_plain (by omega) h2.2) (relative_plain (by omega) (by omega))
   · rw [if_neg hcmp] at h
     simp only [relOf, Option.some.injEq, Prod.mk.injEq] at h
     obtain ⟨rfl, rfl, rfl, rfl, rfl, rfl, rfl, rfl, rfl, rfl⟩ := h
     exact program_in A0 c0 l0 a1 a2 _ _ _ _ _ _ j w hr0 hc0 hs.1 hs.2.1 hs.2.2 h2.1 h2.2 hi hj (by omega) (msf_plain (by omega) h2.2) (relative_plain (by omega) (by omega))
end Go.Proofs.Ytpmkibggmkibeaa.G
namespace Go.Proofs.Ytpmkibggmkibeaa.G
open Go.RowKit Go.Proofs.YtpmkibggmkibeaaW.PrintWords Go.Proofs.YtpmkibggmkibeaaW.PrintLast Go.Proofs.YtpmkibggmkibeaaW.PrintMore
set_option linter.unusedVariables false
def frameQ (c p m s f : Int) : S27 := ⟨c, 0, p, ⟨0, 0, 0⟩, ⟨m, s, f⟩⟩
set_option maxHeartbeats 400000 in
set_option maxRecDepth 100000 in
theorem entries1 (p m s f c : Int) (Bo Bc : Nat) (v : Value) (l : List (S27)) (w0 w : World)
 (ho : w.heap[Bo]? = some (.cells #[v] 31 (0, 0))) (hc : w.heap[Bc]? = some (.cells #[.int .i64 c] 3 (0, 0)))
 (hr : Kd.R k27 27 w w0.heap.size (fun _ => True) v l) (hb : Below w0.heap.size w0 w) (hB : w0.heap.size ≤ Bo) (hl : l.length < 200) :
 Calls Try.prog 36 #[.int .i64 p, .agg #[.int .i64 m, .int .i64 s, .int .i64 f], .pointer (some ⟨Bo, 0, none⟩), .pointer (some ⟨Bc, 0, none⟩)] w fun e w' => e = .returned (.tuple #[]) ∧
  ∃ v', w'.heap[Bo]? = some (.cells #[v'] 31 (0, 0)) ∧ Kd.R k27 27 w' w0.heap.size (fun _ => True) v' (l ++ [frameQ c p m s f]) ∧ Below w0.heap.size w0 w' ∧
   ∀ (k : Nat) (cs : Array Value) (t : TypeId), 27 ≠ t → k ≠ Bo → w.heap[k]? = some (.cells cs t (0, 0)) → w'.heap[k]? = some (.cells cs t (0, 0)) := by
 have hu := Try.underlying25
 have hu2 := Try.underlying27
 have ho1 := blk_alloc ho (.cells #[.int .i64 m, .int .i64 s, .int .i64 f] 25)
 have hc1 := blk_alloc hc (.cells #[.int .i64 m, .int .i64 s, .int .i64 f] 25)
 have k0 : (w.alloc (.cells #[.int .i64 m, .int .i64 s, .int .i64 f] 25)).cell? ⟨Bo, 0, none⟩ = some v := (blk_cell ho1 0).trans rfl
 have k1 : (w.alloc (.cells #[.int .i64 m, .int .i64 s, .int .i64 f] 25)).cell? ⟨Bc, 0, none⟩ = some (.int .i64 c) := (blk_cell hc1 0).trans rfl
 have HR := Aside0.mk (Kd.R_alloc hr (.cells #[.int .i64 m, .int .i64 s, .int .i64 f] 25))
 have HO := Aside0.mk ho1
 have HB := Aside0.mk (Below.alloc hb hb.size (.cells #[.int .i64 m, .int .i64 s, .int .i64 f] 25))
 have HGE := Aside0.mk hB
 have HL := Aside0.mk hl
 have HOO := Aside0.mk (fun (k : Nat) (cs : Array Value) (t : TypeId) (hk : w.heap[k]? = some (.cells cs t (0, 0))) => blk_alloc hk (.cells #[.int .i64 m, .int .i64 s, .int .i64 f] 25))
 have hP : Kd.M k27 (w.alloc (.cells #[.int .i64 m, .int .i64 s, .int .i64 f] 25)) w0.heap.size (fun _ => False) (frameQ c p m s f) [.int .i64 c, .int .i64 0, .int .i64 p, .int .i64 0, .int .i64 0, .int .i64 0, .int .i64 m, .int .i64 s, .int .i64 f] := k27_mkM _ _ _ (frameQ c p m s f)
 have HP := Aside0.mk hP
 obtain ⟨q, hq⟩ : ∃ q, q = frameQ c p m s f := ⟨_, rfl⟩
 rw [← hq] at HP ⊢
 clear ho1 hc1 hr ho hc hb hB hl hP hq
 go_enter Try.func36, Try.ntmps36
 go_wp2_with (first | (at_builtin; refine Kd.R_append k27 (w0 := w0) w0.heap.size rfl (.tmp 6) (.tmp 11) 31 27 (.agg #[.int .i64 0, .int .i64 0, .int .i64 0, .int .i64 0, .int .i64 0, .int .i64 0, .int .i64 0, .int .i64 0, .int .i64 0]) 72 rfl Try.underlying31 info27 rfl (by decide) (by omega) v l q [.int .i64 c, .int .i64 0, .int .i64 p, .int .i64 0, .int .i64 0, .int .i64 0, .int .i64 m, .int .i64 s, .int .i64 f] (fun _ => True) (fun _ => False) rfl (show Value.slice (some ⟨w.heap.size + 1, 0, none⟩) 1 1 = _ from by simp) HP.out (fun _ hk => hk.elim) (fun _ _ => trivial) HR.out HB.out HB.out.size (by have := HL.out; omega) ?_; intro v1 w1 ho1 hb1 hg1 hat1; obtain ⟨A1, c1, rfl⟩ := Kd.R_slice ho1; rw [show (l ++ [q]).length = l.length + 1 by simp] at ho1; have HO1 := Aside0.mk (blk_grown HO.out hg1 (Kd.R_ne HR.out HO.out (by decide))); have k2 := blk_cell HO1.out 0; have k3 := blk_frozen HO1.out 0; have HG1 := Aside0.mk hg1; have HR1 := Aside0.mk ho1; have HB1 := Aside0.mk hb1; clear ho1 hb1 hg1 hat1 k0 k1))
 go_end0
 refine ⟨rfl, _, blk_put HO1.out 0 _ rfl, Kd.R_set HR1.out HO1.out (by decide) 0 _, HB1.out.setCell HGE.out _, fun k cs t hne hk h => ?_⟩
 have h2 := HOO.out k cs t h
 exact blk_far (blk_grown h2 HG1.out (Kd.R_ne HR.out h2 hne)) hk _
def entL (l : List (S53)) (c : Int) (n : Nat) : List (S27) :=
 [frameQ c 160 (rd_T53 l 0).f0 0 0, frameQ c 161 (rd_T53 l ((l.length : Int) - 1)).f0 0 0,
  frameQ c 162 (msfM ((rd_T53 l ((l.length : Int) - 1)).f2 + (rd_T53 l ((l.length : Int) - 1)).f3)) (msfS ((rd_T53 l ((l.length : Int) - 1)).f2 + (rd_T53 l ((l.length : Int) - 1)).f3)) (msfF ((rd_T53 l ((l.length : Int) - 1)).f2 + (rd_T53 l ((l.length : Int) - 1)).f3))] ++
 (List.range n).map fun (i : Nat) => frameQ c (rd_T53 l (i : Int)).f0 (msfM (rd_T53 l (i : Int)).f2) (msfS (rd_T53 l (i : Int)).f2) (msfF (rd_T53 l (i : Int)).f2)
theorem entL_succ (l : List (S53)) (c : Int) (n : Nat) : entL l c (n + 1) = entL l c n ++ [frameQ c (rd_T53 l (n : Int)).f0 (msfM (rd_T53 l (n : Int)).f2) (msfS (rd_T53 l (n : Int)).f2) (msfF (rd_T53 l (n : Int)).f2)] := by
 simp [entL, List.range_succ]
theorem entL_length (l : List (S53)) (c : Int) (n : Nat) : (entL l c n).length = n + 3 := by simp [entL]
def subchannel_Entries.f (l : List (S53)) (a1 : Int) : Option (List (S27) × Int) := if sesB l = true ∧ 0 ≤ a1 ∧ a1 ≤ 15 then some (entL l a1 l.length, 0) else some ([], 1)
set_option maxHeartbeats 400000 in
set_option maxRecDepth 100000 in
theorem entries_no (A : Option Addr) (cp : Nat) (l : List (S53)) (a1 : Int) (w : World) (hr : Kd.C k53 w A l.length l) (hc : l.length ≤ cp) (h : ¬ (sesB l = true ∧ 0 ≤ a1 ∧ a1 ≤ 15)) :
 Calls Try.prog 13 #[.slice A l.length cp, .int .i64 a1] w fun e w' => e = .returned (.tuple #[.slice none 0 0, .int .i64 1]) ∧ Below w.heap.size w w' := by
 have HR := Aside0.mk (Kd.C_alloc hr (.cells #[.int .i64 a1] 3))
 have HC := Aside0.mk hc
 have HB0 := Aside0.mk (below_one w (.cells #[.int .i64 a1] 3))
 have hbk := blk_new w (.cells #[.int .i64 a1] 3)
 have HBK := Aside0.mk hbk
 clear hbk
 cases hs : sesB l with
 | false =>
  have HS := fun W h1 => Aside0.mk (session_any A cp l W h1 hc)
  rw [hs] at HS
  clear hr hc h hs
  go_enter Try.func13, Try.ntmps13
  go_wp2_with (fail)
  refine (HS _ HR.out).out.mono ?_
  rintro e w2 ⟨rfl, hb2⟩
  have HB2 := Aside0.mk (below_step HB0.out hb2)
  clear hb2
  go_wp2_with (fail)
  go_ret2
  exact ⟨rfl, HB2.out⟩
 | true =>
  have hn : ¬ (0 ≤ a1 ∧ a1 ≤ 15) := fun h2 => h ⟨hs, h2⟩
  have HS := fun W h1 => Aside0.mk (session_any A cp l W h1 hc)
  rw [hs] at HS
  have HT := fun W => Aside0.mk (subchannel_between.calls a1 0 15 false W (between_no hn))
  clear hr hc h hs hn
  go_enter Try.func13, Try.ntmps13
  go_wp2_with (fail)
  refine (HS _ HR.out).out.mono ?_
  rintro e w2 ⟨rfl, hb2⟩
  have HB2 := Aside0.mk (below_step HB0.out hb2)
  have hk := blk_below HBK.out hb2
  have k0 : w2.cell? ⟨w.heap.size, 0, none⟩ = some (.int .i64 a1) := (blk_cell hk 0).trans rfl
  clear hb2 hk
  go_wp2_with (fail)
  refine (HT _).out.mono ?_
  rintro e w3 ⟨rfl, hd⟩
  have HB3 := Aside0.mk (below_step HB2.out hd.below)
  clear hd k0
  go_wp2_with (fail)
  go_ret2
  exact ⟨rfl, HB3.out⟩
set_option maxHeartbeats 1000000 in
set_option maxRecDepth 100000 in
theorem entries_yes (A : Option Addr) (cp : Nat) (l : List (S53)) (a1 : Int) (w : World) (hr : Kd.C k53 w A l.length l) (hc : l.length ≤ cp) (hs : sesB l = true) (h0 : 0 ≤ a1) (h15 : a1 ≤ 15) :
 Calls Try.prog 13 #[.slice A l.length cp, .int .i64 a1] w fun e w' => ∃ v, e = .returned (.tuple #[v, .int .i64 0]) ∧ Kd.R k27 27 w' w.heap.size (fun _ => True) v (entL l a1 l.length) ∧ Below w.heap.size w w' := by
 have hmf : ∀ (fn : Fn) (first cap : Array Value) (w : World), (Instr.makeFunc fn first cap).run Try.prog w = .ok (.func fn first cap) w := fun _ _ _ _ => rfl
 have hses := ses_of hs
 have hl1 : 1 ≤ l.length := hses.one
 have hl9 : l.length ≤ 99 := hses.most
 have HSES := Aside0.mk hses
 have HR0 := Aside0.mk hr
 have HR := Aside0.mk (Kd.C_alloc hr (.cells #[.int .i64 a1] 3))
 have HB0 := Aside0.mk (below_one w (.cells #[.int .i64 a1] 3))
 have HBK := Aside0.mk (blk_new w (.cells #[.int .i64 a1] 3))
 have HS := fun W h1 => Aside0.mk (session_any A cp l W h1 hc)
 rw [hs] at HS
 have HT := fun W => Aside0.mk (subchannel_between.calls a1 0 15 true W (between_yes h0 h15))
 clear hr hc hs hses
 go_enter Try.func13, Try.ntmps13
 go_wp2_with (fail)
 refine (HS _ HR.out).out.mono ?_
 rintro e w2 ⟨rfl, hb2⟩
 have HR2 := Aside0.mk (Kd.C_below HR.out hb2)
 have HB2 := Aside0.mk (below_step HB0.out hb2)
 have hk := blk_below HBK.out hb2
 have HK2 := Aside0.mk hk
 have k0 : w2.cell? ⟨w.heap.size, 0, none⟩ = some (.int .i64 a1) := (blk_cell hk 0).trans rfl
 clear hb2 hk HR HB0 HBK HS
 go_wp2_with (fail)
 refine (HT _).out.mono ?_
 rintro e w3 ⟨rfl, hd⟩
 have HR3 := Aside0.mk (Kd.C_below HR2.out hd.below)
 have HB3 := Aside0.mk (below_step HB2.out hd.below)
 have HK3 := Aside0.mk (blk_below HK2.out hd.below)
 clear hd k0 HR2 HB2 HK2 HT
 have hz1 : (1 : Int) ≤ (l.length : Int) := by omega
 have hz2 : 0 ≤ (l.length : Int) - 1 := by omega
 have hz3 : (l.length : Int) - 1 < (l.length : Int) := by omega
 have hz4 : ((l.length : Int) - 1).toNat = l.length - 1 := by omega
 have hz5 : (0 : Int) < (l.length : Int) := by omega
 obtain ⟨ad, rfl, hx0, hx1, hx2, hx3, hx4, hx5, hx6⟩ := at_T53 HR3.out ((l.length : Int) - 1) hz2 hz3
 obtain ⟨ad2, hA, hy0, -⟩ := at_T53 HR3.out 0 (by omega) hz5
 cases hA
 rw [hz4] at hx0 hx1 hx2 hx3 hx4 hx5 hx6
 obtain ⟨x, hx⟩ : ∃ x, x = rd_T53 l ((l.length : Int) - 1) := ⟨_, rfl⟩
 obtain ⟨y, hy⟩ : ∃ y, y = (rd_T53 l 0).f0 := ⟨_, rfl⟩
 rw [← hx] at hx0 hx1 hx2 hx3 hx4 hx5 hx6
 rw [← hy] at hy0
 obtain ⟨x0, x1, x2, x3, x4, x5, x6⟩ := x
 dsimp only at hx0 hx1 hx2 hx3 hx4 hx5 hx6
 have e0 : ad.add (Int.toNat 0 * 7) = ad := by
  show ad.add 0 = ad
  unfold Addr.add
  split <;> simp_all
 rw [e0] at hy0
 clear e0
 have hy0' : ∀ o1 o2, ((w3.alloc o1).alloc o2).cell? ad = some (.int .i64 y) := fun o1 o2 => by
  have h1 : (w3.alloc o1).cell? ad = some (.int .i64 y) := cell_below_ hy0 (below_one _ _)
  exact cell_below_ h1 (below_one _ _)
 have HX := Aside0.mk hx
 have HY := Aside0.mk hy
 clear hx hy hy0
 go_wp2_with (fail)
 generalize hw4 : (w3.alloc _).alloc _ = w4
 obtain ⟨hb1, hb2, hB4⟩ := two_new hw4
 obtain ⟨gl, hgl⟩ : ∃ g, w3.heap.size = g := ⟨_, rfl⟩
 obtain ⟨go, hgo⟩ : ∃ g, gl + 1 = g := ⟨_, rfl⟩
 rw [hgl] at hb1 hb2 ⊢
 rw [hgo] at hb2 ⊢
 have hge : w.heap.size ≤ go := by have := HB3.out.size; omega
 have hne1 : w.heap.size ≠ go := by
  have := blk_lt HK3.out; omega
 have hne2 : gl ≠ go := by omega
 have HGE := Aside0.mk hge
 have HNE1 := Aside0.mk hne1
 have HNE2 := Aside0.mk hne2
 have HB4 := Aside0.mk (below_step HB3.out hB4)
 have HK4 := Aside0.mk (blk_below HK3.out hB4)
 have HL4 := Aside0.mk hb1
 have HO4 := Aside0.mk hb2
 have HR4 := Aside0.mk (Kd.C_below HR3.out hB4)
 clear hb1 hb2 hB4 hw4 hgl hgo hge hne1 hne2 HB3 HK3 HR3 hy0' hx0 hx1 hx2 hx3 hx4 hx5 hx6
 refine (entries1 160 y 0 0 a1 go w.heap.size (.slice none 0 0) [] w w4 HO4.out HK4.out (Kd.R_nil _ _ _ _ _) HB4.out HGE.out (by simp)).mono ?_
 rintro e w5 ⟨rfl, v5, ho5, hr5, hb5, hk5⟩
 have HK5 := Aside0.mk (hk5 _ _ _ (by decide) HNE1.out HK4.out)
 have hl5 := hk5 _ _ _ (by decide) HNE2.out HL4.out
 have HO5 := Aside0.mk ho5
 have HRR5 := Aside0.mk hr5
 have HB5 := Aside0.mk hb5
 have HL5 := Aside0.mk hl5
 have k0 : w5.cell? ⟨gl, 0, none⟩ = some (.int .i64 x0) := (blk_cell hl5 0).trans rfl
 clear ho5 hr5 hb5 hk5 hl5 HK4 HL4 HO4 HB4
 go_wp2_with (fail)
 refine (entries1 161 x0 0 0 a1 go w.heap.size v5 _ w w5 HO5.out HK5.out HRR5.out HB5.out HGE.out (by simp)).mono ?_
 rintro e w6 ⟨rfl, v6, ho6, hr6, hb6, hk6⟩
 have HK6 := Aside0.mk (hk6 _ _ _ (by decide) HNE1.out HK5.out)
 have hl6 := hk6 _ _ _ (by decide) HNE2.out HL5.out
 have HO6 := Aside0.mk ho6
 have HRR6 := Aside0.mk hr6
 have HB6 := Aside0.mk hb6
 have HL6 := Aside0.mk hl6
 have k0 : w6.cell? ⟨gl, 0, none⟩ = some (.int .i64 x0) := (blk_cell hl6 0).trans rfl
 have k1 : w6.cell? ⟨gl, 1, none⟩ = some (.int .i64 x1) := (blk_cell hl6 1).trans rfl
 have k2 : w6.cell? ⟨gl, 2, none⟩ = some (.int .i64 x2) := (blk_cell hl6 2).trans rfl
 have k3 : w6.cell? ⟨gl, 3, none⟩ = some (.int .i64 x3) := (blk_cell hl6 3).trans rfl
 have k4 : w6.cell? ⟨gl, 4, none⟩ = some (.int .i64 x4) := (blk_cell hl6 4).trans rfl
 have k5 : w6.cell? ⟨gl, 5, none⟩ = some (.int .i64 x5) := (blk_cell hl6 5).trans rfl
 have k6 : w6.cell? ⟨gl, 6, none⟩ = some (.int .i64 x6) := (blk_cell hl6 6).trans rfl
 clear ho6 hr6 hb6 hk6 hl6 HK5 HL5 HO5 HB5 HRR5
 have hst := HSES.out.start (l.length - 1) (by omega)
 have hle := HSES.out.len (l.length - 1) (by omega)
 rw [show ((l.length - 1 : Nat) : Int) = (l.length : Int) - 1 by omega, ← HX.out] at hst hle
 dsimp only at hst hle
 have HE := fun W => Aside0.mk (subchannel_end.calls x0 x1 x2 x3 x4 x5 x6 (x2 + x3) W (end_plain hst.1 hst.2 (by have := hle.1; omega) hle.2.1))
 have HM := fun W => Aside0.mk (subchannel_msf.calls (x2 + x3) _ _ _ W (msf_plain (by have := hle.1; have := hst.1; omega) hle.2.2))
 clear hst hle
 go_wp2_with (fail)
 clear k0 k1 k2 k3 k4 k5 k6
 refine (HE _).out.mono ?_
 rintro e w7 ⟨rfl, hd7⟩
 have HK7 := Aside0.mk (blk_below HK6.out hd7)
 have HO7 := Aside0.mk (blk_below HO6.out hd7)
 have HRR7 := Aside0.mk (Kd.R_below HRR6.out hd7)
 have HB7 := Aside0.mk (below_step HB6.out hd7)
 clear hd7 HK6 HO6 HRR6 HB6 HE
 go_wp2_with (fail)
 refine (HM _).out.mono ?_
 rintro e w8 ⟨rfl, hd8⟩
 have HK8 := Aside0.mk (blk_below HK7.out hd8)
 have HO8 := Aside0.mk (blk_below HO7.out hd8)
 have HRR8 := Aside0.mk (Kd.R_below HRR7.out hd8)
 have HB8 := Aside0.mk (below_step HB7.out hd8)
 clear hd8 HK7 HO7 HRR7 HB7 HM
 go_wp2_with (fail)
 refine (entries1 162 _ _ _ a1 go w.heap.size v6 _ w w8 HO8.out HK8.out HRR8.out HB8.out HGE.out (by simp)).mono ?_
 rintro e w9 ⟨rfl, v9, ho9, hr9, hb9, hk9⟩
 have HK9 := Aside0.mk (hk9 _ _ _ (by decide) HNE1.out HK8.out)
 have HO9 := Aside0.mk ho9
 have HRR9 := Aside0.mk (show Kd.R k27 27 w9 w.heap.size (fun _ => True) v9 (entL l a1 0) from by
  have e1 : entL l a1 0 = _ := rfl
  rw [e1]
  unfold entL
  rw [← HX.out, ← HY.out]
  exact hr9)
 have HB9 := Aside0.mk hb9
 clear ho9 hr9 hb9 hk9 HO8 HK8 HRR8 HB8 HX HY
 go_wp2_with (fail)
 go_loopg [45] l.length (fun gk v45 wr => ∃ (i : Nat) (v : Value), i ≤ l.length ∧ l.length - i ≤ gk ∧ v45 = .int .i64 i ∧ Aside0 (wr.heap[go]? = some (.cells #[v] 31 (0, 0))) ∧ Aside0 (wr.heap[w.heap.size]? = some (.cells #[.int .i64 a1] 3 (0, 0))) ∧ Aside0 (Kd.R k27 27 wr w.heap.size (fun _ => True) v (entL l a1 i)) ∧ Aside0 (Below w.heap.size w wr))
 case atStart => exact ⟨0, v9, by omega, by omega, rfl, HO9, HK9, HRR9, HB9⟩
 case round =>
  obtain ⟨i, v, hi, hg, rfl, HO, HK, HRR, HB⟩ := hrel
  by_cases hlt : i < l.length
  · have hltz : (i : Int) < (l.length : Int) := by omega
    have hi0 : 0 ≤ (i : Int) := by omega
    obtain ⟨ad2, hA, hx0, hx1, hx2, hx3, hx4, hx5, hx6⟩ := at_T53 (Kd.C_below HR0.out HB.out) (i : Int) hi0 hltz
    cases hA
    rw [Int.toNat_natCast] at hx0 hx1 hx2 hx3 hx4 hx5 hx6
    have hE := entL_succ l a1 i
    have hst := HSES.out.start i hlt
    obtain ⟨x, hx⟩ : ∃ x, x = rd_T53 l (i : Int) := ⟨_, rfl⟩
    rw [← hx] at hx0 hx1 hx2 hx3 hx4 hx5 hx6 hE hst
    obtain ⟨z0, z1, z2, z3, z4, z5, z6⟩ := x
    dsimp only at hx0 hx1 hx2 hx3 hx4 hx5 hx6 hE hst
    have HM := fun W => Aside0.mk (subchannel_msf.calls z2 _ _ _ W (msf_plain (by omega) (by omega)))
    have HEE := Aside0.mk hE
    clear hx hE hst
    go_wp2_with (fail)
    generalize hW : wr.alloc _ = W1
    obtain ⟨g, hg1⟩ : ∃ g, wr.heap.size = g := ⟨_, rfl⟩
    have hb : W1.heap[g]? = some (.cells #[.int .i64 z0, .int .i64 z1, .int .i64 z2, .int .i64 z3, .int .i64 z4, .int .i64 z5, .int .i64 z6] 53 (0, 0)) := by rw [← hW, ← hg1]; exact blk_new wr _
    have hbl : Below wr.heap.size wr W1 := by rw [← hW]; exact below_one _ _
    have HO1 := Aside0.mk (blk_below HO.out hbl)
    have HK1 := Aside0.mk (blk_below HK.out hbl)
    have HRR1 := Aside0.mk (Kd.R_below HRR.out hbl)
    have HB1 := Aside0.mk (below_step HB.out hbl)
    rw [hg1]
    have k0 : W1.cell? ⟨g, 0, none⟩ = some (.int .i64 z0) := (blk_cell hb 0).trans rfl
    have k2 : W1.cell? ⟨g, 2, none⟩ = some (.int .i64 z2) := (blk_cell hb 2).trans rfl
    clear hW hg1 hbl hb HO HK HRR HB hx0 hx1 hx2 hx3 hx4 hx5 hx6
    have HLEN := Aside0.mk (show (entL l a1 i).length < 200 by rw [entL_length]; omega)
    go_region_with (first
     | (go_at_call 27; refine (HM _).out.mono ?_; rintro e wm ⟨rfl, hdm⟩; have k0m := cell_below_ (show W1.drew.cell? ⟨g, 0, none⟩ = some (.int .i64 z0) from k0) hdm; have HOm := Aside0.mk (blk_below (blk_drew HO1.out) hdm); have HKm := Aside0.mk (blk_below (blk_drew HK1.out) hdm); have HRRm := Aside0.mk (Kd.R_below (Kd.R_drew HRR1.out) hdm); have HBm := Aside0.mk (below_step (below_drew1 HB1.out) hdm); clear hdm)
     | (go_at_call 36; refine (entries1 z0 _ _ _ a1 go w.heap.size v _ w _ HOm.out HKm.out HRRm.out HBm.out HGE.out HLEN.out).mono ?_; rintro e wn ⟨rfl, vn, hon, hrn, hbn, hkn⟩; have HOn := Aside0.mk hon; have HKn := Aside0.mk (hkn _ _ _ (by decide) HNE1.out HKm.out); have HRRn := Aside0.mk hrn; have HBn := Aside0.mk hbn; clear hon hrn hbn hkn))
    all_goals
     go_wp2_with (fail)
     go_roundg (l.length - (i + 1))
     case measure => omega
     case rel => exact ⟨i + 1, vn, by omega, by omega, by go_num, HOn, HKn, ⟨by rw [HEE.out]; exact HRRn.out⟩, HBn⟩
  · have hltz : ¬ (i : Int) < (l.length : Int) := by omega
    obtain rfl : i = l.length := by omega
    have k0 : wr.cell? ⟨go, 0, none⟩ = some v := (blk_cell HO.out 0).trans rfl
    clear hlt
    go_wp2_with (fail)
    go_ret2
    exact ⟨_, rfl, HRR.out, HB.out⟩
theorem subchannel_Entries.calls (A0 : Option Addr) (c0 : Nat) (l0 : List (S53)) (a1 : Int) (r1 : List (S27)) (r2 : Int) (w : World) (hr0 : Kd.C k53 w A0 l0.length l0) (hc0 : l0.length ≤ c0) (h : subchannel_Entries.f l0 a1 = some (r1, r2)) :
 Calls Try.prog 13 #[.slice A0 l0.length c0, .int .i64 a1] w fun e w' => ∃ v0_ : Value, e = .returned (.tuple #[v0_, .int .i64 r2]) ∧ Kd.R k27 27 w' w.heap.size (fun _ => True) v0_ r1 ∧ Below w.heap.size w w' := by
 unfold subchannel_Entries.f at h
 split at h
 · rename_i hs
   cases h
   exact entries_yes A0 c0 l0 a1 w hr0 hc0 hs.1 hs.2.1 hs.2.2
 · rename_i hs
   cases h
   exact (entries_no A0 c0 l0 a1 w hr0 hc0 hs).mono fun e w' ⟨he, hb⟩ => ⟨_, he, Kd.R_nil _ _ _ _ _, hb⟩
end Go.Proofs.Ytpmkibggmkibeaa.G
namespace Go.Proofs.Ytpmkibggmkibeaa.G
open Go.RowKit Go.Proofs.YtpmkibggmkibeaaW.PrintWords Go.Proofs.YtpmkibggmkibeaaW.PrintLast Go.Proofs.YtpmkibggmkibeaaW.PrintMore
attribute [local go_sem] max2_int min2_int max_two min_two max_three min_three max_four min_four   -- for this text's walks alone
set_option linter.unusedVariables false
set_option linter.unusedSimpArgs false
theorem eqA25 (d : Nat) (w : World) (x0 y0 : Int) (x1 y1 : Int) (x2 y2 : Int) :
 (Op.equalIn (d + 2) 25 (.agg #[.int .i64 x0, .int .i64 x1, .int .i64 x2]) (.agg #[.int .i64 y0, .int .i64 y1, .int .i64 y2])).run Try.prog w = .ok (x0 == y0 && (x1 == y1 && (x2 == y2))) w := by
 refine eqA_of Try.underlying25 (by kernel_rfl) ?_
 refine eqf_cons (by rfl) (by go_simp; rfl) (by go_simp; rfl) (by go_simp) ?_
 refine eqf_cons (by rfl) (by go_simp; rfl) (by go_simp; rfl) (by go_simp) ?_
 exact eqf_last (by rfl) (by go_simp; rfl) (by go_simp; rfl) (by go_simp)
end Go.Proofs.Ytpmkibggmkibeaa.G
namespace Go.Proofs.Ytpmkibggmkibeaa.G
open Go.RowKit Go.Proofs.YtpmkibggmkibeaaW.PrintWords Go.Proofs.YtpmkibggmkibeaaW.PrintLast Go.Proofs.YtpmkibggmkibeaaW.PrintMore
attribute [local go_sem] max2_int min2_int max_two min_two max_three min_three max_four min_four   -- for this text's walks alone
set_option linter.unusedVariables false
set_option linter.unusedSimpArgs false
theorem eqA27 (d : Nat) (w : World) (x0 y0 : Int) (x1 y1 : Int) (x2 y2 : Int) (x3 y3 : Int) (x4 y4 : Int) (x5 y5 : Int) (x6 y6 : Int) (x7 y7 : Int) (x8 y8 : Int) :
 (Op.equalIn (d + 3) 27 (.agg #[.int .i64 x0, .int .i64 x1, .int .i64 x2, .int .i64 x3, .int .i64 x4, .int .i64 x5, .int .i64 x6, .int .i64 x7, .int .i64 x8]) (.agg #[.int .i64 y0, .int .i64 y1, .int .i64 y2, .int .i64 y3, .int .i64 y4, .int .i64 y5, .int .i64 y6, .int .i64 y7, .int .i64 y8])).run Try.prog w = .ok (x0 == y0 && (x1 == y1 && (x2 == y2 && ((x3 == y3 && (x4 == y4 && (x5 == y5))) && ((x6 == y6 && (x7 == y7 && (x8 == y8)))))))) w := by
 refine eqA_of Try.underlying27 (by kernel_rfl) ?_
 refine eqf_cons (by rfl) (by go_simp; rfl) (by go_simp; rfl) (by go_simp) ?_
 refine eqf_cons (by rfl) (by go_simp; rfl) (by go_simp; rfl) (by go_simp) ?_
 refine eqf_cons (by rfl) (by go_simp; rfl) (by go_simp; rfl) (by go_simp) ?_
 refine eqf_cons (by rfl) (by go_simp) (by go_simp) (eqA25 (d + 0) w _ _ _ _ _ _) ?_
 exact eqf_last (by rfl) (by go_simp) (by go_simp) (eqA25 (d + 0) w _ _ _ _ _ _)
end Go.Proofs.Ytpmkibggmkibeaa.G
namespace Go.Proofs.Ytpmkibggmkibeaa.G
open Go.RowKit Go.Proofs.YtpmkibggmkibeaaW.PrintWords Go.Proofs.YtpmkibggmkibeaaW.PrintLast Go.Proofs.YtpmkibggmkibeaaW.PrintMore
attribute [local go_sem] max2_int min2_int max_two min_two max_three min_three max_four min_four   -- for this text's walks alone
set_option linter.unusedVariables false
set_option linter.unusedSimpArgs false
attribute [local go_sem high] eqA27
def masterdisclaw10_awake.f  : Option (Bool) := (subchannel_Encode.f 4 1 1 0 0 0 0 2 0).bind fun bt169 => ((subchannel_Entries.f (([(⟨1, 0, 0, 300, 0, 0, 0⟩ : S53)] : List (S53))) 4).bind fun bt174 => (if bt169.2 = 0 then (if (bt169.1.size : Int) = 12 then (if 0 ≤ 10 then (if 10 ≤ (bt169.1.size : Int) then (if (bt169.1.extract 0 10).toList = ([65, 1, 1, 0, 0, 0, 0, 0, 2, 0] : List UInt8) then (if bt174.2 = 0 then (if (bt174.1.length : Int) = 4 then (if 2 < (bt174.1.length : Int) then (some (((rd_T27 bt174.1 2).f0) == 4 && (((rd_T27 bt174.1 2).f1) == 0 && (((rd_T27 bt174.1 2).f2) == 162 && ((((rd_T27 bt174.1 2).f3.f0) == 0 && (((rd_T27 bt174.1 2).f3.f1) == 0 && (((rd_T27 bt174.1 2).f3.f2) == 0))) && ((((rd_T27 bt174.1 2).f4.f0) == 0 && (((rd_T27 bt174.1 2).f4.f1) == 6 && (((rd_T27 bt174.1 2).f4.f2) == 0))))))))) else (none)) else (none)) else (none)) else (none)) else (none)) else (none)) else (none)) else (none)))
set_option maxHeartbeats 8000000 in
set_option maxRecDepth 100000 in
theorem masterdisclaw10_awake.calls  (r : Bool) (w : World) (h : masterdisclaw10_awake.f  = some r) :
 Calls Try.prog 10 #[] w fun e w' => e = .returned (.bool r) ∧ Below w.heap.size w w' := by
 have hu25 := Try.underlying25
 have hu27 := Try.underlying27
 have hu53 := Try.underlying53
 have HB := Aside0.mk (Below.refl w.heap.size w)
 have H : ((subchannel_Encode.f 4 1 1 0 0 0 0 2 0).bind fun bt169 => ((subchannel_Entries.f (([(⟨1, 0, 0, 300, 0, 0, 0⟩ : S53)] : List (S53))) 4).bind fun bt174 => (if bt169.2 = 0 then (if (bt169.1.size : Int) = 12 then (if 0 ≤ 10 then (if 10 ≤ (bt169.1.size : Int) then (if (bt169.1.extract 0 10).toList = ([65, 1, 1, 0, 0, 0, 0, 0, 2, 0] : List UInt8) then (if bt174.2 = 0 then (if (bt174.1.length : Int) = 4 then (if 2 < (bt174.1.length : Int) then (some (((rd_T27 bt174.1 2).f0) == 4 && (((rd_T27 bt174.1 2).f1) == 0 && (((rd_T27 bt174.1 2).f2) == 162 && ((((rd_T27 bt174.1 2).f3.f0) == 0 && (((rd_T27 bt174.1 2).f3.f1) == 0 && (((rd_T27 bt174.1 2).f3.f2) == 0))) && ((((rd_T27 bt174.1 2).f4.f0) == 0 && (((rd_T27 bt174.1 2).f4.f1) == 6 && (((rd_T27 bt174.1 2).f4.f2) == 0))))))))) else (none)) else (none)) else (none)) else (none)) else (none)) else (none)) else (none)) else (none)))) = some r := h
 clear h
 replace H := Option.bind_eq_some_iff.mp H
 obtain ⟨⟨t169, t170⟩, A10, H⟩ := H
 replace H : ((subchannel_Entries.f (([(⟨1, 0, 0, 300, 0, 0, 0⟩ : S53)] : List (S53))) 4).bind fun bt174 => (if t170 = 0 then (if (t169.size : Int) = 12 then (if 0 ≤ 10 then (if 10 ≤ (t169.size : Int) then (if (t169.extract 0 10).toList = ([65, 1, 1, 0, 0, 0, 0, 0, 2, 0] : List UInt8) then (if bt174.2 = 0 then (if (bt174.1.length : Int) = 4 then (if 2 < (bt174.1.length : Int) then (some (((rd_T27 bt174.1 2).f0) == 4 && (((rd_T27 bt174.1 2).f1) == 0 && (((rd_T27 bt174.1 2).f2) == 162 && ((((rd_T27 bt174.1 2).f3.f0) == 0 && (((rd_T27 bt174.1 2).f3.f1) == 0 && (((rd_T27 bt174.1 2).f3.f2) == 0))) && ((((rd_T27 bt174.1 2).f4.f0) == 0 && (((rd_T27 bt174.1 2).f4.f1) == 6 && (((rd_T27 bt174.1 2).f4.f2) == 0))))))))) else (none)) else (none)) else (none)) else (none)) else (none)) else (none)) else (none)) else (none))) = some r := H
 have A1 := Aside0.mk A10
 clear A10
 obtain ⟨y171, hy171⟩ : ∃ y_ : List (S53), y_ = (([(⟨1, 0, 0, 300, 0, 0, 0⟩ : S53)] : List (S53))) := ⟨_, rfl⟩
 replace H : ((subchannel_Entries.f y171 4).bind fun bt174 => (if t170 = 0 then (if (t169.size : Int) = 12 then (if 0 ≤ 10 then (if 10 ≤ (t169.size : Int) then (if (t169.extract 0 10).toList = ([65, 1, 1, 0, 0, 0, 0, 0, 2, 0] : List UInt8) then (if bt174.2 = 0 then (if (bt174.1.length : Int) = 4 then (if 2 < (bt174.1.length : Int) then (some (((rd_T27 bt174.1 2).f0) == 4 && (((rd_T27 bt174.1 2).f1) == 0 && (((rd_T27 bt174.1 2).f2) == 162 && ((((rd_T27 bt174.1 2).f3.f0) == 0 && (((rd_T27 bt174.1 2).f3.f1) == 0 && (((rd_T27 bt174.1 2).f3.f2) == 0))) && ((((rd_T27 bt174.1 2).f4.f0) == 0 && (((rd_T27 bt174.1 2).f4.f1) == 6 && (((rd_T27 bt174.1 2).f4.f2) == 0))))))))) else (none)) else (none)) else (none)) else (none)) else (none)) else (none)) else (none)) else (none))) = some r := by first | (rw [hy171]; with_reducible exact H) | (have H2_ := (Option.bind_some _ _).symm.trans H; rw [hy171]; with_reducible exact H2_) | (have H2_ := (Option.bind_some _ _).symm.trans H; with_reducible exact H2_) | with_reducible exact H | (rw [hy171]; exact H) | exact H
 have Ny171 := Aside0.mk hy171
 clear hy171
 replace H := Option.bind_eq_some_iff.mp H
 obtain ⟨⟨t174, t175⟩, A20, H⟩ := H
 replace H : (if t170 = 0 then (if (t169.size : Int) = 12 then (if 0 ≤ 10 then (if 10 ≤ (t169.size : Int) then (if (t169.extract 0 10).toList = ([65, 1, 1, 0, 0, 0, 0, 0, 2, 0] : List UInt8) then (if t175 = 0 then (if (t174.length : Int) = 4 then (if 2 < (t174.length : Int) then (some (((rd_T27 t174 2).f0) == 4 && (((rd_T27 t174 2).f1) == 0 && (((rd_T27 t174 2).f2) == 162 && ((((rd_T27 t174 2).f3.f0) == 0 && (((rd_T27 t174 2).f3.f1) == 0 && (((rd_T27 t174 2).f3.f2) == 0))) && ((((rd_T27 t174 2).f4.f0) == 0 && (((rd_T27 t174 2).f4.f1) == 6 && (((rd_T27 t174 2).f4.f2) == 0))))))))) else (none)) else (none)) else (none)) else (none)) else (none)) else (none)) else (none)) else (none)) = some r := H
 have A2 := Aside0.mk A20
 clear A20
 by_cases c3 : t170 = 0
 · rw [if_pos c3] at H
   have c3b0 : (t170 == 0) = true := beq_iff_eq.mpr c3
   have c3b1 : (t170 != 0) = false := bne_eq_false_iff_eq.mpr c3
   clear c3
   by_cases c4 : (t169.size : Int) = 12
   · rw [if_pos c4] at H
     have c4b0 : ((t169.size : Int) == 12) = true := beq_iff_eq.mpr c4
     have c4b1 : ((t169.size : Int) != 12) = false := bne_eq_false_iff_eq.mpr c4
     clear c4
     by_cases c5 : 0 ≤ 10
     · rw [if_pos c5] at H
       have c5b0 := eq_true c5
       have c5b1 : decide (0 ≤ 10) = true := decide_eq_true c5
       clear c5
       by_cases c6 : 10 ≤ (t169.size : Int)
       · rw [if_pos c6] at H
         have c6b0 := eq_true c6
         have c6b1 : decide (10 ≤ (t169.size : Int)) = true := decide_eq_true c6
         clear c6
         by_cases c7 : (t169.extract 0 10).toList = ([65, 1, 1, 0, 0, 0, 0, 0, 2, 0] : List UInt8)
         · rw [if_pos c7] at H
           have c7b0 : ((t169.extract 0 10).toList == ([65, 1, 1, 0, 0, 0, 0, 0, 2, 0] : List UInt8)) = true := beq_iff_eq.mpr c7
           have c7b1 : ((t169.extract 0 10).toList != ([65, 1, 1, 0, 0, 0, 0, 0, 2, 0] : List UInt8)) = false := bne_eq_false_iff_eq.mpr c7
           clear c7
           by_cases c8 : t175 = 0
           · rw [if_pos c8] at H
             have c8b0 : (t175 == 0) = true := beq_iff_eq.mpr c8
             have c8b1 : (t175 != 0) = false := bne_eq_false_iff_eq.mpr c8
             clear c8
             by_cases c9 : (t174.length : Int) = 4
             · rw [if_pos c9] at H
               have c9b0 : ((t174.length : Int) == 4) = true := beq_iff_eq.mpr c9
               have c9b1 : ((t174.length : Int) != 4) = false := bne_eq_false_iff_eq.mpr c9
               clear c9
               by_cases c10 : 2 < (t174.length : Int)
               · rw [if_pos c10] at H
                 have c10b0 : decide (2 < (t174.length : Int)) = true := decide_eq_true c10
                 have c10b1 : decide (2 < t174.length) = true := decide_eq_true (by omega)
                 clear c10
                 obtain rfl := Option.some.inj H
                 go_enter Try.func10, Try.ntmps10
                 go_wp2_with (first | ((with_reducible refine gate_callee (f := 18) rfl ?_); refine goesL_ (some 8) rfl rfl Try.func18 (by kernel_rfl) rfl #[.agg #[.int .i64 4, .int .i64 1, .int .i64 1, .int .i64 0, .int .i64 0, .int .i64 0, .int .i64 0, .int .i64 2, .int .i64 0]] rfl (by (try simp only [List.map_toArray, List.map_cons, List.map_nil]); first | done | rfl | (simp only [List.length_drop, List.length_take]; rfl)) ?_; (with_reducible refine (subchannel_Encode.calls 4 1 1 0 0 0 0 2 0 t169 t170 _ A1.out).mono ?_); rintro e w11 ⟨rfl, hb⟩; refine ⟨_, rfl, ?_⟩; have n0_ := Aside0.mk (below_step (by repeat (first | (with_reducible first | exact HB.out | apply below_alloc | apply pw_below_drewN | apply below_drew1) | exact HB.out)) hb); clear HB; have HB := n0_; clear n0_; (try clear hb); (try clear hb2); (try clear hk); (try clear hi)) | ((with_reducible refine gate_dst (N := 13) rfl ?_); (try (refine gate_guard (by rfl) ?_; dsimp only)); refine Kd.R_lit k53 _ 53 ?hg (N := 13) ?hd (xs := ([(⟨1, 0, 0, 300, 0, 0, 0⟩ : S53)] : List (S53))) (inner := [.int .i64 1, .int .i64 0, .int .i64 0, .int .i64 300, .int .i64 0, .int .i64 0, .int .i64 0]) (ok := fun _ => True) (okp := fun _ => True) ?hr ?hp (fun _ hk => hk) trivial (Below.refl _ _) (Nat.le_refl _) (by simp) ?_; (case hd => rfl); (case hg => rfl); (case hr => first | (go_simp; done) | (go_simp; rfl)); (case hp => exact (Reps.c7 (show Kd.M k53 _ _ _ (⟨1, 0, 0, 300, 0, 0, 0⟩ : S53) [.int .i64 1, .int .i64 0, .int .i64 0, .int .i64 300, .int .i64 0, .int .i64 0, .int .i64 0] from (k53_mkM _ _ _ (⟨1, 0, 0, 300, 0, 0, 0⟩ : S53) )) (Reps.none _ _))); intro v172 w12 ho13 hb hg_ hnew_; clear hg_ hnew_; (first | rw [← Ny171.out] at ho13 | (simp only [Int.reduceToNat] at ho13; rw [← Ny171.out] at ho13)); have n0_ := Aside0.mk (Kd.R_lower ho13 (below_size (by repeat (first | (with_reducible first | exact HB.out | apply below_alloc | apply pw_below_drewN | apply below_drew1) | exact HB.out)))); have n1_ := Aside0.mk (below_step (by repeat (first | (with_reducible first | exact HB.out | apply below_alloc | apply pw_below_drewN | apply below_drew1) | exact HB.out)) hb); clear HB; have HO173 := n0_; have HB := n1_; clear n0_ n1_; clear hb ho13; obtain ⟨Ao14, co14, eo14⟩ := Kd.R_slice HO173.out; subst eo14) | ((with_reducible refine gate_callee (f := 13) rfl ?_); refine goesL_ (some 14) rfl rfl Try.func13 (by kernel_rfl) rfl #[.slice Ao14 y171.length co14, .int .i64 4] rfl (by (try simp only [List.map_toArray, List.map_cons, List.map_nil]); first | done | rfl | (simp only [List.length_drop, List.length_take]; rfl)) ?_; (with_reducible refine (subchannel_Entries.calls _ _ y171 4 t174 t175 _ ?side1 ?side2 A2.out).mono ?_); (case side1 => repeat (first | exact (Kd.R_reads' HO173.out).2.2 | (with_reducible refine Kd.C_alloc ?_ _) | (with_reducible refine Kd.C_drewN ?_ _) | (with_reducible refine Kd.C_drew ?_))); (case side2 => exact (Kd.R_reads' HO173.out).2.1); rintro e w15 ⟨v176, rfl, ho0, hb⟩; refine ⟨_, rfl, ?_⟩; have n0_ := Aside0.mk (Kd.R_below (by (with_reducible repeat (first | apply Kd.R_alloc | apply Kd.R_drewN | apply Kd.R_drew)); exact HO173.out) hb); have n1_ := Aside0.mk (Kd.R_lower ho0 (below_size (by repeat (first | (with_reducible first | exact HB.out | apply below_alloc | apply pw_below_drewN | apply below_drew1) | exact HB.out)))); have n2_ := Aside0.mk (below_step (by repeat (first | (with_reducible first | exact HB.out | apply below_alloc | apply pw_below_drewN | apply below_drew1) | exact HB.out)) hb); clear HO173; clear HB; have HO173 := n0_; have HO177 := n1_; have HB := n2_; clear n0_ n1_ n2_; (try clear hb); (try clear hb2); (try clear hk); (try clear hi); (try clear ho0); obtain ⟨Ao16, co16, eo16⟩ := Kd.R_slice HO177.out; subst eo16; have p178 : 0 ≤ (2 : Int) := (by omega); have q178 : 2 < (t174.length : Int) := of_decide_eq_true (by first | (with_reducible assumption) | assumption); obtain ⟨ad178, e178, hx178_0, hx178_1, hx178_2, hx178_3, hx178_4, hx178_5, hx178_6, hx178_7, hx178_8⟩ := at_T27 (Kd.R_reads' HO177.out).2.2 2 p178 q178; cases e178; (try simp only [show (2 : Int).toNat = 2 from rfl, Nat.reduceMul, Nat.reduceEqDiff, Go.Addr.add, ↓reduceIte] at hx178_0); (try simp only [show (2 : Int).toNat = 2 from rfl, Nat.reduceMul, Nat.reduceEqDiff, Go.Addr.add, ↓reduceIte] at hx178_1); (try simp only [show (2 : Int).toNat = 2 from rfl, Nat.reduceMul, Nat.reduceEqDiff, Go.Addr.add, ↓reduceIte] at hx178_2); (try simp only [show (2 : Int).toNat = 2 from rfl, Nat.reduceMul, Nat.reduceEqDiff, Go.Addr.add, ↓reduceIte] at hx178_3); (try simp only [show (2 : Int).toNat = 2 from rfl, Nat.reduceMul, Nat.reduceEqDiff, Go.Addr.add, ↓reduceIte] at hx178_4); (try simp only [show (2 : Int).toNat = 2 from rfl, Nat.reduceMul, Nat.reduceEqDiff, Go.Addr.add, ↓reduceIte] at hx178_5); (try simp only [show (2 : Int).toNat = 2 from rfl, Nat.reduceMul, Nat.reduceEqDiff, Go.Addr.add, ↓reduceIte] at hx178_6); (try simp only [show (2 : Int).toNat = 2 from rfl, Nat.reduceMul, Nat.reduceEqDiff, Go.Addr.add, ↓reduceIte] at hx178_7); (try simp only [show (2 : Int).toNat = 2 from rfl, Nat.reduceMul, Nat.reduceEqDiff, Go.Addr.add, ↓reduceIte] at hx178_8); have qi178 : (2 < t174.length) = True := eq_true (by omega); (try rw [show ((2 : Int)).toNat = 2 from rfl] at hx178_0); (try rw [show 2 * 9 = 18 from rfl] at hx178_0); (try rw [show ((2 : Int)).toNat = 2 from rfl] at hx178_1); (try rw [show 2 * 9 = 18 from rfl] at hx178_1); (try rw [show ((2 : Int)).toNat = 2 from rfl] at hx178_2); (try rw [show 2 * 9 = 18 from rfl] at hx178_2); (try rw [show ((2 : Int)).toNat = 2 from rfl] at hx178_3); (try rw [show 2 * 9 = 18 from rfl] at hx178_3); (try rw [show ((2 : Int)).toNat = 2 from rfl] at hx178_4); (try rw [show 2 * 9 = 18 from rfl] at hx178_4); (try rw [show ((2 : Int)).toNat = 2 from rfl] at hx178_5); (try rw [show 2 * 9 = 18 from rfl] at hx178_5); (try rw [show ((2 : Int)).toNat = 2 from rfl] at hx178_6); (try rw [show 2 * 9 = 18 from rfl] at hx178_6); (try rw [show ((2 : Int)).toNat = 2 from rfl] at hx178_7); (try rw [show 2 * 9 = 18 from rfl] at hx178_7); (try rw [show ((2 : Int)).toNat = 2 from rfl] at hx178_8); (try rw [show 2 * 9 = 18 from rfl] at hx178_8); replace p178 := eq_true p178; replace q178 := eq_true q178))
                 go_ret
                 exact ⟨by first | rfl | (simp [errW_none, errW_some] <;> rfl) | (simp [*, errW_none, errW_some] <;> rfl), by repeat (first | (with_reducible first | exact HB.out | apply below_alloc | apply pw_below_drewN | apply below_drew1) | exact HB.out)⟩
               · rw [if_neg c10] at H
                 exact absurd H (by simp)
             · rw [if_neg c9] at H
               exact absurd H (by simp)
           · rw [if_neg c8] at H
             exact absurd H (by simp)
         · rw [if_neg c7] at H
           exact absurd H (by simp)
       · rw [if_neg c6] at H
         exact absurd H (by simp)
     · rw [if_neg c5] at H
       exact absurd H (by simp)
   · rw [if_neg c4] at H
     exact absurd H (by simp)
 · rw [if_neg c3] at H
   exact absurd H (by simp)
end Go.Proofs.Ytpmkibggmkibeaa.G
namespace Go.Proofs.Ytpmkibggmkibeaa.G
open Go.RowKit
set_option maxRecDepth 100000 in
theorem awake_plain : masterdisclaw10_awake.f = some true := by decide +kernel
end Go.Proofs.Ytpmkibggmkibeaa.G
