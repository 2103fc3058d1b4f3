/- Texts of one claim, merged by a program of this session; what is proved stands in the last of them. -/
import Derived.ChangeArms
import Derived.Deep.Slices
import Derived.Lib.SmallJoins
import Derived.Test.YtpmkibggmkibeaaKc1
import Derived.Test.YtpmkibggmkibeaaKc4
import Derived.Test.YtpmkibggmkibeaaKc5
namespace Go.Proofs.Ytpmkibggmkibeaa.G
open Go.RowKit Go.Proofs.YtpmkibggmkibeaaW.PrintWords Go.Proofs.YtpmkibggmkibeaaW.PrintLast Go.Proofs.YtpmkibggmkibeaaW.PrintMore
attribute [local go_sem] max2_int min2_int max_two min_two max_three min_three max_four min_four   -- for this text's walks alone
set_option linter.unusedVariables false
set_option linter.unusedSimpArgs false
def masterdisclaw10_SubchannelCollects.f (k : Nat) (l0 : List (S27)) : Option (Bool) := (masterdisclaw10_awake.f).bind fun t372 => (if t372 = true then (if (l0.length : Int) > 120 then (some true) else ((subchannel_Collect.f k l0).bind fun bt373 => ((masterdiscref10_Collect.f k l0).bind fun bt378 => ((slices_Equal_int_int.f k bt373.1 bt378.1).bind fun t383 => (if t383 = true then (if bt373.2.1 = bt378.2.1 then (some (bt373.2.2 == bt378.2.2)) else (none)) else (none)))))) else (none))
theorem masterdisclaw10_SubchannelCollects.mono : ∀ a0 k, LeO (masterdisclaw10_SubchannelCollects.f k a0) (masterdisclaw10_SubchannelCollects.f (k + 1) a0) := by
 intro a0 k
 unfold masterdisclaw10_SubchannelCollects.f
 repeat' first
  | (with_reducible exact masterdiscref10_Collect.mono _ _)
  | (with_reducible exact slices_Equal_int_int.mono _ _ _)
  | (with_reducible exact subchannel_Collect.mono _ _)
  | (with_reducible exact LeO.refl _)
  | (with_reducible exact LeO.none _)
  | (with_reducible refine LeO.ite ?_ ?_)
  | (with_reducible refine LeO.bind ?_ (fun _ => ?_))
  | exact masterdiscref10_Collect.mono _ _
  | exact slices_Equal_int_int.mono _ _ _
  | exact subchannel_Collect.mono _ _
  | exact LeO.none _
  | refine LeO.ite ?_ ?_
  | refine LeO.bind ?_ (fun _ => ?_)
set_option maxHeartbeats 8000000 in
set_option maxRecDepth 100000 in
theorem masterdisclaw10_SubchannelCollects.calls (k : Nat) (A0 : Option Addr) (c0 : Nat) (l0 : List (S27)) (r : Bool) (w : World) (hr0 : Kd.C k27 w A0 l0.length l0) (hc0 : l0.length ≤ c0) (h : masterdisclaw10_SubchannelCollects.f k l0 = some r) :
 Calls Try.prog 5 #[.slice A0 l0.length c0] w fun e w' => e = .returned (.bool r) ∧ Below w.heap.size w w' := by
 have HR0 := Aside0.mk hr0
 have HC0 := Aside0.mk hc0
 clear hr0 hc0
 have HB := Aside0.mk (Below.refl w.heap.size w)
 have H : ((masterdisclaw10_awake.f).bind fun t372 => (if t372 = true then (if (l0.length : Int) > 120 then (some true) else ((subchannel_Collect.f k l0).bind fun bt373 => ((masterdiscref10_Collect.f k l0).bind fun bt378 => ((slices_Equal_int_int.f k bt373.1 bt378.1).bind fun t383 => (if t383 = true then (if bt373.2.1 = bt378.2.1 then (some (bt373.2.2 == bt378.2.2)) else (none)) else (none)))))) else (none))) = some r := h
 clear h
 replace H := Option.bind_eq_some_iff.mp H
 obtain ⟨t372, A20, H⟩ := H
 replace H : (if t372 = true then (if (l0.length : Int) > 120 then (some true) else ((subchannel_Collect.f k l0).bind fun bt373 => ((masterdiscref10_Collect.f k l0).bind fun bt378 => ((slices_Equal_int_int.f k bt373.1 bt378.1).bind fun t383 => (if t383 = true then (if bt373.2.1 = bt378.2.1 then (some (bt373.2.2 == bt378.2.2)) else (none)) else (none)))))) else (none)) = some r := H
 have A2 := Aside0.mk A20
 clear A20
 by_cases c3 : t372 = true
 · subst c3
   have H1 : (if (l0.length : Int) > 120 then (some true) else ((subchannel_Collect.f k l0).bind fun bt373 => ((masterdiscref10_Collect.f k l0).bind fun bt378 => ((slices_Equal_int_int.f k bt373.1 bt378.1).bind fun t383 => (if t383 = true then (if bt373.2.1 = bt378.2.1 then (some (bt373.2.2 == bt378.2.2)) else (none)) else (none)))))) = some r := by rw [if_pos rfl] at H; exact H
   clear H
   have H := H1
   clear H1
   by_cases c4 : (l0.length : Int) > 120
   · rw [if_pos c4] at H
     have c4b0 : decide (120 < (l0.length : Int)) = true := decide_eq_true c4
     have c4b1 : decide (120 < l0.length) = true := decide_eq_true (by omega)
     clear c4
     obtain rfl := Option.some.inj H
     go_enter Try.func5, Try.ntmps5
     go_wp2_with (first | ((with_reducible refine gate_callee (f := 10) rfl ?_); refine goesL_ (some 9) rfl rfl Try.func10 (by kernel_rfl) rfl #[] rfl (by (try simp only [List.map_toArray, List.map_cons, List.map_nil]); first | done | rfl | (simp only [List.length_drop, List.length_take]; rfl)) ?_; (with_reducible refine (masterdisclaw10_awake.calls  true _ A2.out).mono ?_); rintro e w5 ⟨rfl, hb⟩; refine ⟨_, rfl, ?_⟩; have n0_ := Aside0.mk (below_step (by repeat (first | (with_reducible first | exact HB.out | apply below_alloc | apply pw_below_drewN | apply below_drew1) | exact HB.out)) hb); clear HB; have HB := n0_; clear n0_; (try clear hb); (try clear hb2); (try clear hk); (try clear hi)))
     go_ret
     exact ⟨by first | rfl | (simp [errW_none, errW_some] <;> rfl) | (simp [*, errW_none, errW_some] <;> rfl), by repeat (first | (with_reducible first | exact HB.out | apply below_alloc | apply pw_below_drewN | apply below_drew1) | exact HB.out)⟩
   · rw [if_neg c4] at H
     have c4b0 : decide (120 < (l0.length : Int)) = false := decide_eq_false c4
     have c4b1 : decide (120 < l0.length) = false := decide_eq_false (by omega)
     clear c4
     replace H := Option.bind_eq_some_iff.mp H
     obtain ⟨⟨t373, t374, t375⟩, A60, H⟩ := H
     replace H : ((masterdiscref10_Collect.f k l0).bind fun bt378 => ((slices_Equal_int_int.f k t373 bt378.1).bind fun t383 => (if t383 = true then (if t374 = bt378.2.1 then (some (t375 == bt378.2.2)) else (none)) else (none)))) = some r := H
     have A6 := Aside0.mk A60
     clear A60
     replace H := Option.bind_eq_some_iff.mp H
     obtain ⟨⟨t378, t379, t380⟩, A70, H⟩ := H
     replace H : ((slices_Equal_int_int.f k t373 t378).bind fun t383 => (if t383 = true then (if t374 = t379 then (some (t375 == t380)) else (none)) else (none))) = some r := H
     have A7 := Aside0.mk A70
     clear A70
     replace H := Option.bind_eq_some_iff.mp H
     obtain ⟨t383, A80, H⟩ := H
     replace H : (if t383 = true then (if t374 = t379 then (some (t375 == t380)) else (none)) else (none)) = some r := H
     have A8 := Aside0.mk A80
     clear A80
     by_cases c9 : t383 = true
     · subst c9
       have H1 : (if t374 = t379 then (some (t375 == t380)) else (none)) = some r := by rw [if_pos rfl] at H; exact H
       clear H
       have H := H1
       clear H1
       by_cases c10 : t374 = t379
       · rw [if_pos c10] at H
         have c10b0 : (t374 == t379) = true := beq_iff_eq.mpr c10
         have c10b1 : (t374 != t379) = false := bne_eq_false_iff_eq.mpr c10
         clear c10
         obtain rfl := Option.some.inj H
         go_enter Try.func5, Try.ntmps5
         go_wp2_with (first | ((with_reducible refine gate_callee (f := 10) rfl ?_); refine goesL_ (some 9) rfl rfl Try.func10 (by kernel_rfl) rfl #[] rfl (by (try simp only [List.map_toArray, List.map_cons, List.map_nil]); first | done | rfl | (simp only [List.length_drop, List.length_take]; rfl)) ?_; (with_reducible refine (masterdisclaw10_awake.calls  true _ A2.out).mono ?_); rintro e w11 ⟨rfl, hb⟩; refine ⟨_, rfl, ?_⟩; have n0_ := Aside0.mk (below_step (by repeat (first | (with_reducible first | exact HB.out | apply below_alloc | apply pw_below_drewN | apply below_drew1) | exact HB.out)) hb); clear HB; have HB := n0_; clear n0_; (try clear hb); (try clear hb2); (try clear hk); (try clear hi)) | ((with_reducible refine gate_callee (f := 19) rfl ?_); refine goesL_ (some 16) rfl rfl Try.func19 (by kernel_rfl) rfl #[.slice A0 l0.length c0] rfl (by (try simp only [List.map_toArray, List.map_cons, List.map_nil]); first | done | rfl | (simp only [List.length_drop, List.length_take]; rfl)) ?_; (with_reducible refine (subchannel_Collect.calls k _ _ l0 t373 t374 t375 _ ?side1 ?side2 A6.out).mono ?_); (case side1 => repeat (first | exact (Kd.C_below HR0.out HB.out) | (with_reducible refine Kd.C_alloc ?_ _) | (with_reducible refine Kd.C_drewN ?_ _) | (with_reducible refine Kd.C_drew ?_))); (case side2 => exact HC0.out); rintro e w12 ⟨v376, rfl, ho0, hb⟩; refine ⟨_, rfl, ?_⟩; have n0_ := Aside0.mk (Kd.R_lower ho0 (below_size (by repeat (first | (with_reducible first | exact HB.out | apply below_alloc | apply pw_below_drewN | apply below_drew1) | exact HB.out)))); have n1_ := Aside0.mk (below_step (by repeat (first | (with_reducible first | exact HB.out | apply below_alloc | apply pw_below_drewN | apply below_drew1) | exact HB.out)) hb); clear HB; have HO377 := n0_; have HB := n1_; clear n0_ n1_; (try clear hb); (try clear hb2); (try clear hk); (try clear hi); (try clear ho0)) | ((with_reducible refine gate_callee (f := 20) rfl ?_); refine goesL_ (some 22) rfl rfl Try.func20 (by kernel_rfl) rfl #[.slice A0 l0.length c0] rfl (by (try simp only [List.map_toArray, List.map_cons, List.map_nil]); first | done | rfl | (simp only [List.length_drop, List.length_take]; rfl)) ?_; (with_reducible refine (masterdiscref10_Collect.calls k _ _ l0 t378 t379 t380 _ ?side1 ?side2 A7.out).mono ?_); (case side1 => repeat (first | exact (Kd.C_below HR0.out HB.out) | (with_reducible refine Kd.C_alloc ?_ _) | (with_reducible refine Kd.C_drewN ?_ _) | (with_reducible refine Kd.C_drew ?_))); (case side2 => exact HC0.out); rintro e w13 ⟨v381, rfl, ho0, hb⟩; refine ⟨_, rfl, ?_⟩; have n0_ := Aside0.mk (Kd.R_elder' (by (with_reducible repeat (first | apply Kd.R_alloc | apply Kd.R_drewN | apply Kd.R_drew)); exact HO377.out) (Kd.R_base ho0) hb); have n1_ := Aside0.mk (Kd.R_lower (Kd.R_new' ho0 (Kd.R_lt (by (with_reducible repeat (first | apply Kd.R_alloc | apply Kd.R_drewN | apply Kd.R_drew)); exact HO377.out))) (below_size (by repeat (first | (with_reducible first | exact HB.out | apply below_alloc | apply pw_below_drewN | apply below_drew1) | exact HB.out)))); have n2_ := Aside0.mk (below_step (by repeat (first | (with_reducible first | exact HB.out | apply below_alloc | apply pw_below_drewN | apply below_drew1) | exact HB.out)) hb); clear HO377; clear HB; have HO377 := n0_; have HO382 := n1_; have HB := n2_; clear n0_ n1_ n2_; (try clear hb); (try clear hb2); (try clear hk); (try clear hi); (try clear ho0); obtain ⟨Ao14, co14, eo14⟩ := Kd.R_slice HO377.out; subst eo14; obtain ⟨Ao15, co15, eo15⟩ := Kd.R_slice HO382.out; subst eo15) | ((with_reducible refine gate_callee (f := 21) rfl ?_); refine goesL_ (some 28) rfl rfl Try.func21 (by kernel_rfl) rfl #[.slice Ao14 t373.length co14, .slice Ao15 t378.length co15] rfl (by (try simp only [List.map_toArray, List.map_cons, List.map_nil]); first | done | rfl | (simp only [List.length_drop, List.length_take]; rfl)) ?_; (with_reducible refine (slices_Equal_int_int.calls k _ _ t373 _ _ t378 true _ ?side1 ?side2 ?side3 ?side4 A8.out).mono ?_); (case side1 => repeat (first | exact (Kd.R_reads' HO377.out).2.2 | (with_reducible refine Kd.C_alloc ?_ _) | (with_reducible refine Kd.C_drewN ?_ _) | (with_reducible refine Kd.C_drew ?_))); (case side2 => exact (Kd.R_reads' HO377.out).2.1); (case side3 => repeat (first | exact (Kd.R_reads' HO382.out).2.2 | (with_reducible refine Kd.C_alloc ?_ _) | (with_reducible refine Kd.C_drewN ?_ _) | (with_reducible refine Kd.C_drew ?_))); (case side4 => exact (Kd.R_reads' HO382.out).2.1); rintro e w' ⟨rfl, ⟨nd, rfl⟩⟩; refine ⟨_, rfl, ?_⟩))
         go_ret
         exact ⟨by first | rfl | (simp [errW_none, errW_some] <;> rfl) | (simp [*, errW_none, errW_some] <;> rfl), by repeat (first | (with_reducible first | exact HB.out | apply below_alloc | apply pw_below_drewN | apply below_drew1) | exact HB.out)⟩
       · rw [if_neg c10] at H
         exact absurd H (by simp)
     · replace c9 := Bool.eq_false_iff.mpr c9
       subst c9
       have H1 : (none) = some r := by rw [if_neg (show ¬ (false = true) by decide)] at H; exact H
       clear H
       have H := H1
       clear H1
       exact absurd H (by simp)
 · replace c3 := Bool.eq_false_iff.mpr c3
   subst c3
   have H1 : (none) = some r := by rw [if_neg (show ¬ (false = true) by decide)] at H; exact H
   clear H
   have H := H1
   clear H1
   exact absurd H (by simp)
end Go.Proofs.Ytpmkibggmkibeaa.G
namespace Go.Proofs.Ytpmkibggmkibeaa.G
open Go.RowKit Go.Proofs.YtpmkibggmkibeaaW.PrintWords Go.Proofs.YtpmkibggmkibeaaW.PrintLast Go.Proofs.YtpmkibggmkibeaaW.PrintMore
set_option linter.unusedVariables false
theorem refToLBA_any (q : S25) : masterdiscref06_ToLBA.f q.f0 q.f1 q.f2 = some (lbaV q, if msfB q.f0 q.f1 q.f2 = true then 0 else 1) := by
 unfold masterdiscref06_ToLBA.f lbaV
 have hv : masterdiscref06_Valid.f q.f0 q.f1 q.f2 = some (msfB q.f0 q.f1 q.f2) := by
  unfold masterdiscref06_Valid.f msfB
  by_cases h1 : q.f0 ≥ 0
  case neg => rw [if_neg h1, decide_eq_false (by omega)]
  rw [if_pos h1]
  by_cases h2 : q.f0 ≤ 99
  case neg => rw [if_neg h2, decide_eq_false (by omega)]
  rw [if_pos h2]
  by_cases h3 : q.f1 ≥ 0
  case neg => rw [if_neg h3, decide_eq_false (by omega)]
  rw [if_pos h3]
  by_cases h4 : q.f1 ≤ 59
  case neg => rw [if_neg h4, decide_eq_false (by omega)]
  rw [if_pos h4]
  by_cases h5 : q.f2 ≥ 0
  case neg => rw [if_neg h5, decide_eq_false (by omega)]
  rw [if_pos h5]
  congr 1
  rw [decide_eq_decide]
  omega
 rw [hv]
 simp only [Option.bind_some]
 by_cases h : msfB q.f0 q.f1 q.f2 = true
 · rw [if_pos h, if_pos h, if_pos h]
   simp only [msfB, decide_eq_true_eq] at h
   have e := number_any (m := q.f0) (s := q.f1) (f := q.f2) (by omega) (by omega) (by omega) (by omega) (by omega) (by omega)
   have e2 : masterdiscref06_number.f q.f0 q.f1 q.f2 = address_number.f q.f0 q.f1 q.f2 := rfl
   rw [e2, e]
   simp only [Option.bind_some]
   rw [show wrap64 ((60 * q.f0 + q.f1) * 75 + q.f2 - 150) = (60 * q.f0 + q.f1) * 75 + q.f2 - 150 by unfold wrap64; omega]
 · rw [if_neg h, if_neg h, if_neg h]
def numR (l : List (S27)) (j : Nat) : Int := wrap64 ((rd_T27 l 0).f4.f0 + (j : Int))
def tpR (l : List (S27)) (n i : Nat) : List (S53) := (List.range i).map fun j => ⟨numR l j, 0, stL l j, nxL l n j - stL l j, 0, 0, 0⟩
theorem tpR_succ (l : List (S27)) (n m : Nat) : tpR l n (m + 1) = tpR l n m ++ [⟨numR l m, 0, stL l m, nxL l n m - stL l m, 0, 0, 0⟩] := by
 unfold tpR
 rw [List.range_succ, List.map_append]
 rfl
theorem tpR_length (l : List (S27)) (n m : Nat) : (tpR l n m).length = m := by simp [tpR]
theorem rd_spL (l : List (S27)) (n i : Nat) (h : i < n) : rd (spL l n) (i : Int) = stL l i := by
 rw [rd_int _ i (by rw [spL_length]; exact h)]
 simp [spL]
theorem nxL_range (l : List (S27)) (n j : Nat) : -150 ≤ nxL l n j ∧ nxL l n j ≤ 449849 := by
 unfold nxL
 split
 · exact stL_range l (j + 1)
 · exact outL_range l
theorem refl0_all (l : List (S27)) (hl : l.length ≤ 120) (n : Nat) (hn : l.length = n + 3) (d : Nat) : ∀ m K, n - m = d → m ≤ n →
 masterdiscref10_Collect.l0 (K + d) l (outL l) (spL l m) ((m + 3 : Nat) : Int) = masterdiscref10_Collect.l0 K l (outL l) (spL l n) ((n + 3 : Nat) : Int) := by
 induction d with
 | zero =>
  intro m K hd hm
  have : m = n := by omega
  subst this
  rfl
 | succ d ih =>
  intro m K hd hm
  rw [show K + (d + 1) = (K + d) + 1 by omega, masterdiscref10_Collect.l0.eq_def]
  dsimp only
  rw [if_pos (by omega), if_pos (by omega), refToLBA_any]
  simp only [Option.bind_some]
  rw [if_pos (by rw [spL_length]; omega), show wrap64 (((m + 3 : Nat) : Int) + 1) = ((m + 1 + 3 : Nat) : Int) by unfold wrap64; omega]
  have := ih (m + 1) K (by omega) (by omega)
  rw [spL_succ] at this
  exact this
theorem refl1_all (l : List (S27)) (hl : l.length ≤ 120) (n : Nat) (hn : l.length = n + 3) (hn1 : 1 ≤ n) (d : Nat) : ∀ m K, n - m = d → m ≤ n →
 masterdiscref10_Collect.l1 (K + d) l (outL l) (spL l n) (tpR l n m) (m : Int) = masterdiscref10_Collect.l1 K l (outL l) (spL l n) (tpR l n n) (n : Int) := by
 induction d with
 | zero =>
  intro m K hd hm
  have : m = n := by omega
  subst this
  rfl
 | succ d ih =>
  intro m K hd hm
  have r0 := stL_range l m
  have rn := nxL_range l n m
  rw [show K + (d + 1) = (K + d) + 1 by omega, masterdiscref10_Collect.l1.eq_def]
  dsimp only
  have e1 : wrap64 ((m : Int) + 1) = ((m + 1 : Nat) : Int) := by unfold wrap64; omega
  rw [if_pos (by rw [spL_length]; omega), e1]
  have := ih (m + 1) K (by omega) (by omega)
  rw [tpR_succ] at this
  by_cases hlt : m + 1 < n
  · rw [if_pos (by rw [spL_length]; omega), if_pos (by omega), if_pos (by omega), if_pos (by omega), if_pos (by rw [tpR_length]; omega), rd_spL l n m (by omega), rd_spL l n (m + 1) hlt]
    have e2 : nxL l n m = stL l (m + 1) := by unfold nxL; rw [if_pos hlt]
    rw [e2] at this rn
    rw [show wrap64 (stL l (m + 1) - stL l m) = stL l (m + 1) - stL l m by unfold wrap64; omega]
    exact this
  · rw [if_neg (by rw [spL_length]; omega), if_pos (by omega), if_pos (by omega), if_pos (by rw [tpR_length]; omega), rd_spL l n m (by omega)]
    have e2 : nxL l n m = outL l := by unfold nxL; rw [if_neg hlt]
    rw [e2] at this rn
    rw [show wrap64 (outL l - stL l m) = outL l - stL l m by unfold wrap64; omega]
    exact this
open Classical in
theorem refl2_all (l a : List (S27)) (hab : a.length = l.length) (hl : l.length ≤ 1000) (x5 : Int) (x7 : List Int) (d : Nat) : ∀ i K, l.length - i = d → i ≤ l.length → d < K →
 masterdiscref10_Collect.l2 K l x5 x7 a (i : Int) = if (∀ j : Nat, i ≤ j → j < l.length → rd_T27 a (j : Int) = rd_T27 l (j : Int)) then some (x7, x5, 0) else some ([], 0, 10) := by
 induction d with
 | zero =>
  intro i K hd hi hK
  obtain ⟨K, rfl⟩ : ∃ m, K = m + 1 := ⟨K - 1, by omega⟩
  rw [masterdiscref10_Collect.l2.eq_def]
  dsimp only
  rw [if_neg (by omega), if_pos (fun j h1 h2 => by omega)]
 | succ d ih =>
  intro i K hd hi hK
  obtain ⟨K, rfl⟩ : ∃ m, K = m + 1 := ⟨K - 1, by omega⟩
  rw [masterdiscref10_Collect.l2.eq_def]
  dsimp only
  rw [if_pos (by omega), if_pos (by omega), if_pos (by omega)]
  by_cases h : rd_T27 a (i : Int) = rd_T27 l (i : Int)
  · rw [if_neg (by rw [(frame_ext _ _).mpr h]; decide), show wrap64 ((i : Int) + 1) = ((i + 1 : Nat) : Int) by unfold wrap64; omega, ih (i + 1) K (by omega) (by omega) (by omega)]
    refine ite_iff ⟨fun hh j h1 h2 => ?_, fun hh j h1 h2 => hh j (by omega) h2⟩
    by_cases e : j = i
    · rw [e]; exact h
    · exact hh j (by omega) h2
  · rw [if_pos (Bool.of_not_eq_false (fun hc => h ((frame_ext _ _).mp hc))), if_neg (fun hh => h (hh i (Nat.le_refl _) (by omega)))]
def goodR (l : List (S27)) : Prop := 4 ≤ l.length ∧ l.length ≤ 102 ∧ sesB (tpR l (l.length - 3) (l.length - 3)) = true ∧ 0 ≤ ctL l ∧ ctL l ≤ 15 ∧ entL (tpR l (l.length - 3) (l.length - 3)) (ctL l) (l.length - 3) = l
theorem entries_val (l : List (S53)) (a1 : Int) : ∃ v e, subchannel_Entries.f l a1 = some (v, e) := by
 unfold subchannel_Entries.f
 split
 · exact ⟨_, _, rfl⟩
 · exact ⟨_, _, rfl⟩
open Classical in
theorem refcollect_plain (l : List (S27)) (hl : l.length ≤ 120) : ∃ k, (goodR l → masterdiscref10_Collect.f k l = some (spL l (l.length - 3), outL l, 0)) ∧ (¬ goodR l → masterdiscref10_Collect.f k l = some ([], 0, 10)) := by
 obtain ⟨v, e, hv⟩ := entries_val (tpR l (l.length - 3) (l.length - 3)) (ctL l)
 obtain ⟨k1, hk1⟩ := refent_plain (tpR l (l.length - 3) (l.length - 3)) (ctL l)
 rw [hv] at hk1
 have e1 : ∀ k, k1 ≤ k → masterdiscref10_Entries.f k (tpR l (l.length - 3) (l.length - 3)) (ctL l) = some (v, e) := fun k hk => at_rounds (g := fun k => masterdiscref10_Entries.f k (tpR l (l.length - 3) (l.length - 3)) (ctL l)) (masterdiscref10_Entries.mono _ _) hk hk1
 have j0t : ∀ k, masterdiscref10_Collect.j0 (k + 1) l true = some ([], 0, 10) := fun k => by simp only [masterdiscref10_Collect.j0]; rw [if_pos trivial]
 have j3t : ∀ k x5 x7 a, masterdiscref10_Collect.j3 (k + 1) l x5 x7 a true = some ([], 0, 10) := fun k x5 x7 a => by simp only [masterdiscref10_Collect.j3]; rw [if_pos trivial]
 refine ⟨k1 + 1000 + 1, ?_⟩
 unfold masterdiscref10_Collect.f
 by_cases h4 : (l.length : Int) < 4
 · rw [if_pos h4, j0t]
   exact ⟨fun h => absurd h.1 (by omega), fun _ => rfl⟩
 rw [if_neg h4]
 by_cases h5 : (l.length : Int) > 102
 · rw [decide_eq_true h5, j0t]
   exact ⟨fun h => absurd h.2.1 (by omega), fun _ => rfl⟩
 rw [decide_eq_false h5]
 simp only [masterdiscref10_Collect.j0]
 rw [if_neg (by decide), if_pos (by omega), refToLBA_any]
 simp only [Option.bind_some]
 obtain ⟨n, hn⟩ : ∃ n, l.length = n + 3 := ⟨l.length - 3, by omega⟩
 have e3 : l.length - 3 = n := by omega
 rw [e3] at e1 hv ⊢
 have a0 := refl0_all l hl n hn n 0 (k1 + 1000 - n) (by omega) (by omega)
 rw [show k1 + 1000 - n + n = k1 + 1000 by omega] at a0
 have a0 : masterdiscref10_Collect.l0 (k1 + 1000) l (lbaV (rd_T27 l 2).f4) [] 3 = _ := a0
 rw [a0]
 obtain ⟨q, hq⟩ : ∃ q, k1 + 1000 - n = q + 1 := ⟨k1 + 999 - n, by omega⟩
 rw [hq, masterdiscref10_Collect.l0.eq_def]
 dsimp only
 rw [if_neg (by omega)]
 have a1 := refl1_all l hl n hn (by omega) n 0 (q - n) (by omega) (by omega)
 rw [show q - n + n = q by omega] at a1
 have a1 : masterdiscref10_Collect.l1 q l (outL l) (spL l n) [] 0 = _ := a1
 rw [a1]
 obtain ⟨p, hp⟩ : ∃ p, q - n = p + 1 + 1 := ⟨q - n - 2, by omega⟩
 rw [hp, masterdiscref10_Collect.l1.eq_def]
 dsimp only
 rw [if_neg (by rw [spL_length]; omega), if_pos (by omega)]
 have e5 : masterdiscref10_Entries.f (p + 1) (tpR l n n) (rd_T27 l 0).f0 = some (v, e) := e1 (p + 1) (by omega)
 rw [e5]
 simp only [Option.bind_some]
 unfold subchannel_Entries.f at hv
 by_cases hs : sesB (tpR l n n) = true ∧ 0 ≤ ctL l ∧ ctL l ≤ 15
 case neg =>
  rw [if_neg hs] at hv
  simp only [Option.some.injEq, Prod.mk.injEq] at hv
  obtain ⟨rfl, rfl⟩ := hv
  rw [if_neg (by decide), j3t]
  exact ⟨fun h => absurd ⟨by have := h.2.2.1; rwa [e3] at this, h.2.2.2.1, h.2.2.2.2.1⟩ hs, fun _ => rfl⟩
 rw [if_pos hs, tpR_length] at hv
 simp only [Option.some.injEq, Prod.mk.injEq] at hv
 obtain ⟨rfl, rfl⟩ := hv
 have hlen : (entL (tpR l n n) (ctL l) n).length = l.length := by rw [entL_length]; omega
 rw [if_pos rfl, show (((entL (tpR l n n) (ctL l) n).length : Int) != (l.length : Int)) = false by rw [hlen]; simp]
 simp only [masterdiscref10_Collect.j3]
 rw [if_neg (by decide)]
 have a2 := refl2_all l (entL (tpR l n n) (ctL l) n) hlen (by omega) (outL l) (spL l n) l.length 0 p (by omega) (by omega) (by omega)
 have a2 : masterdiscref10_Collect.l2 p l (outL l) (spL l n) (entL (tpR l n n) (ctL l) n) 0 = _ := a2
 rw [a2]
 by_cases hall : ∀ j : Nat, 0 ≤ j → j < l.length → rd_T27 (entL (tpR l n n) (ctL l) n) (j : Int) = rd_T27 l (j : Int)
 · rw [if_pos hall]
   have he := list_of_rd hlen (fun j h1 h2 => hall j h1 (by omega))
   exact ⟨fun _ => rfl, fun h => absurd ⟨by omega, by omega, by rw [e3]; exact hs.1, hs.2.1, hs.2.2, by rw [e3]; exact he⟩ h⟩
 · rw [if_neg hall]
   exact ⟨fun h => absurd (fun j h1 h2 => by have := h.2.2.2.2.2; rw [e3] at this; rw [this]) hall, fun _ => rfl⟩
theorem rd_entL0 (T : List (S53)) (c : Int) (n : Nat) : (rd_T27 (entL T c n) 0).f4.f0 = (rd_T53 T 0).f0 := rfl
theorem rd_entL3 (T : List (S53)) (c : Int) (n j : Nat) (h : j < n) : rd_T27 (entL T c n) (((j + 3 : Nat)) : Int) = frameQ c (rd_T53 T (j : Int)).f0 (msfM (rd_T53 T (j : Int)).f2) (msfS (rd_T53 T (j : Int)).f2) (msfF (rd_T53 T (j : Int)).f2) := by
 unfold entL
 simp only [rd_T27, Int.toNat_natCast, List.getD_eq_getElem?_getD]
 rw [List.getElem?_append_right (by simp)]
 simp [h]
theorem rd_ttL (l : List (S27)) (num : Nat → Int) (n j : Nat) (h : j < n) : rd_T53 (ttL l num n) (j : Int) = ⟨num j, 0, stL l j, nxL l n j - stL l j, 0, 0, 0⟩ := by
 simp [rd_T53, ttL, List.getD_eq_getElem?_getD, h]
theorem tpR_ttL (l : List (S27)) (n : Nat) : tpR l n n = ttL l (numR l) n := rfl
theorem ttL_congr (l : List (S27)) (a b : Nat → Int) (n : Nat) (h : ∀ j, j < n → a j = b j) : ttL l a n = ttL l b n := by
 unfold ttL
 apply List.map_congr_left
 intro j hj
 rw [h j (List.mem_range.mp hj)]
theorem good_iff (l : List (S27)) : goodC l ↔ goodR l := by
 constructor
 · rintro ⟨h4, hok, hs, hc0, hc, he⟩
   obtain ⟨n, hn⟩ : ∃ n, l.length - 3 = n := ⟨_, rfl⟩
   have hses := ses_of hs
   have hm := hses.most
   rw [ttL_length] at hm
   have hnum : ∀ j, j < l.length - 3 → ptL l j = ptL l 0 + (j : Int) := by
    intro j
    induction j with
    | zero => intro _; simp
    | succ j ih =>
     intro hj
     have := hses.next (j + 1) (by omega) (by rw [ttL_length]; exact hj)
     rw [show (((j + 1 : Nat) : Int) - 1) = (j : Int) by omega, rd_ttL _ _ _ _ hj, rd_ttL _ _ _ _ (by omega)] at this
     dsimp only at this
     rw [this, ih (by omega)]
     omega
   have h0 := hses.num 0 (by rw [ttL_length]; omega)
   have hM : (rd_T27 l 0).f4.f0 = ptL l 0 := by
    have e1 : (rd_T27 (entL (ttL l (ptL l) (l.length - 3)) (ctL l) (l.length - 3)) 0).f4.f0 = (rd_T27 l 0).f4.f0 := by rw [he]
    rw [rd_entL0] at e1
    have e2 := rd_ttL l (ptL l) (l.length - 3) 0 (by omega)
    rw [show ((0 : Nat) : Int) = (0 : Int) from rfl] at e2
    rw [e2] at e1
    exact e1.symm
   rw [show ((0 : Nat) : Int) = (0 : Int) from rfl] at h0
   have e2 := rd_ttL l (ptL l) (l.length - 3) 0 (by omega)
   rw [show ((0 : Nat) : Int) = (0 : Int) from rfl] at e2
   rw [e2] at h0
   dsimp only at h0
   have hcong : ttL l (ptL l) (l.length - 3) = tpR l (l.length - 3) (l.length - 3) := by
    rw [tpR_ttL]
    apply ttL_congr
    intro j hj
    unfold numR
    rw [hM, hnum j hj]
    unfold wrap64; omega
   rw [hcong] at hs he
   exact ⟨h4, by omega, hs, hc0, hc, he⟩
 · rintro ⟨h4, h102, hs, hc0, hc, he⟩
   have hses := ses_of hs
   rw [tpR_ttL] at hses hs he
   have hfr : ∀ j, j < l.length - 3 → rd_T27 l (((j + 3 : Nat)) : Int) = frameQ (ctL l) (numR l j) (msfM (stL l j)) (msfS (stL l j)) (msfF (stL l j)) := by
    intro j hj
    have e1 : rd_T27 (entL (ttL l (numR l) (l.length - 3)) (ctL l) (l.length - 3)) (((j + 3 : Nat)) : Int) = rd_T27 l (((j + 3 : Nat)) : Int) := by rw [he]
    rw [rd_entL3 _ _ _ _ hj, rd_ttL _ _ _ _ hj] at e1
    exact e1.symm
   have hpt : ∀ j, j < l.length - 3 → numR l j = ptL l j := fun j hj => by
    unfold ptL
    rw [hfr j hj]
    rfl
   have hok : ∀ j, j + 3 < l.length → okL l j = true := fun j hj => by
    have hst := hses.start j (by rw [ttL_length]; omega)
    rw [rd_ttL _ _ _ _ (by omega)] at hst
    dsimp only at hst
    unfold okL
    rw [hfr j (by omega)]
    exact (lbaV_msf (by omega) hst.2).2
   rw [ttL_congr l (numR l) (ptL l) _ hpt] at hs he
   exact ⟨h4, hok, hs, hc0, hc, he⟩
theorem ints_equal (x : List Int) (hl : x.length ≤ 1000) (d : Nat) : ∀ i K, x.length - i = d → i ≤ x.length → d < K → slices_Equal_int_int.l0 K x x (x.length : Int) (i : Int) = some true := by
 induction d with
 | zero =>
  intro i K hd hi hK
  obtain ⟨K, rfl⟩ : ∃ m, K = m + 1 := ⟨K - 1, by omega⟩
  rw [slices_Equal_int_int.l0.eq_def]
  dsimp only
  rw [if_neg (by omega)]
 | succ d ih =>
  intro i K hd hi hK
  obtain ⟨K, rfl⟩ : ∃ m, K = m + 1 := ⟨K - 1, by omega⟩
  rw [slices_Equal_int_int.l0.eq_def]
  dsimp only
  rw [if_pos (by omega), if_pos (by omega), if_pos (by omega), if_pos (by omega), if_pos rfl]
  rw [show wrap64 ((i : Int) + 1) = ((i + 1 : Nat) : Int) by unfold wrap64; omega]
  exact ih (i + 1) K (by omega) (by omega) (by omega)
theorem pure_SubchannelCollects (l : List (S27)) (_hl : l.length ≤ 9223372036854775807) : ∃ k, masterdisclaw10_SubchannelCollects.f k l = some true := by
 by_cases hl : (l.length : Int) > 120
 · refine ⟨0, ?_⟩
   unfold masterdisclaw10_SubchannelCollects.f
   rw [awake_plain]
   simp only [Option.bind_some]
   rw [if_pos trivial, if_pos hl]
 obtain ⟨k1, p1, p2⟩ := collect_plain l (by omega)
 obtain ⟨k2, q1, q2⟩ := refcollect_plain l (by omega)
 have fin : ∀ (s : List Int) (o e : Int), s.length ≤ 500 → subchannel_Collect.f k1 l = some (s, o, e) → masterdiscref10_Collect.f k2 l = some (s, o, e) → ∃ k, masterdisclaw10_SubchannelCollects.f k l = some true := by
  intro s o e hs h1 h2
  refine ⟨max (max k1 k2) 1000, ?_⟩
  have e1 := at_rounds (g := fun k => subchannel_Collect.f k l) (subchannel_Collect.mono l) (k' := max (max k1 k2) 1000) (by omega) h1
  have e2 := at_rounds (g := fun k => masterdiscref10_Collect.f k l) (masterdiscref10_Collect.mono l) (k' := max (max k1 k2) 1000) (by omega) h2
  have e3 : slices_Equal_int_int.f (max (max k1 k2) 1000) s s = some true := by
   unfold slices_Equal_int_int.f
   rw [if_pos rfl]
   exact ints_equal s (by omega) s.length 0 _ (by omega) (by omega) (by omega)
  unfold masterdisclaw10_SubchannelCollects.f
  rw [awake_plain]
  simp only [Option.bind_some]
  rw [if_pos trivial, if_neg hl, e1]
  simp only [Option.bind_some]
  rw [e2]
  simp only [Option.bind_some]
  rw [e3]
  simp
 by_cases hg : goodC l
 · exact fin _ _ _ (by rw [spL_length]; omega) (p1 hg) (q1 ((good_iff l).mp hg))
 · exact fin _ _ _ (by simp) (p2 hg) (q2 (fun h => hg ((good_iff l).mpr h)))
end Go.Proofs.Ytpmkibggmkibeaa.G
namespace Go.Proofs.Ytpmkibggmkibeaa.G
open Go.RowKit Go.Proofs.YtpmkibggmkibeaaW.PrintWords Go.Proofs.YtpmkibggmkibeaaW.PrintLast Go.Proofs.YtpmkibggmkibeaaW.PrintMore
open Go.ChangeShapes Go.WideShapes Go.Deep
set_option linter.unusedVariables false
set_option maxRecDepth 100000 in
theorem msf_ints {H : Type} {enc : TypeId × Value → H} {W : World} {base n : Nat} {spare : Nat → Bool} {held : Bool} {c0 c1 c2 : Value} {x : DataW H × List MemPlace} (h : DataW.trod enc Try.prog W base spare held n 25 [c0, c1, c2] = some x) :
 ∃ a b c : Int, c0 = .int .i64 a ∧ c1 = .int .i64 b ∧ c2 = .int .i64 c := by
 have h1 : Try.prog.cellsOf 3 = 1 := by kernel_rfl
 obtain ⟨xs, m, -, -, -, hx, hf⟩ := DataW.trod_struct Try.underlying25 h
 match xs, hx with
 | [y0, y1, y2], _ =>
  have t0 : DataW.trod enc Try.prog W base spare held m 3 (([c0, c1, c2].drop 0).take (Try.prog.cellsOf 3)) = some y0 := hf 0 _ rfl
  have t1 : DataW.trod enc Try.prog W base spare held m 3 (([c0, c1, c2].drop 1).take (Try.prog.cellsOf 3)) = some y1 := hf 1 _ rfl
  have t2 : DataW.trod enc Try.prog W base spare held m 3 (([c0, c1, c2].drop 2).take (Try.prog.cellsOf 3)) = some y2 := hf 2 _ rfl
  rw [h1] at t0 t1 t2
  obtain ⟨n0, e0, -, -⟩ := DataW.trod_int Try.underlying3 t0
  obtain ⟨n1, e1, -, -⟩ := DataW.trod_int Try.underlying3 t1
  obtain ⟨n2, e2, -, -⟩ := DataW.trod_int Try.underlying3 t2
  exact ⟨n0, n1, n2, by injection e0, by injection e1, by injection e2⟩
set_option maxRecDepth 100000 in
theorem frame_ints {H : Type} {enc : TypeId × Value → H} {W : World} {base n : Nat} {spare : Nat → Bool} {held : Bool} {cs : List Value} {x : DataW H × List MemPlace} (hl : cs.length = 9) (h : DataW.trod enc Try.prog W base spare held n 27 cs = some x) :
 ∃ n0 n1 n2 n3 n4 n5 n6 n7 n8 : Int, cs = [Value.int .i64 n0, .int .i64 n1, .int .i64 n2, .int .i64 n3, .int .i64 n4, .int .i64 n5, .int .i64 n6, .int .i64 n7, .int .i64 n8] := by
 have h1 : Try.prog.cellsOf 3 = 1 := by kernel_rfl
 have h3 : Try.prog.cellsOf 25 = 3 := by kernel_rfl
 obtain ⟨xs, m, -, -, -, hx, hf⟩ := DataW.trod_struct Try.underlying27 h
 match cs, hl, xs, hx with
 | [c0, c1, c2, c3, c4, c5, c6, c7, c8], _, [y0, y1, y2, y3, y4], _ =>
  have t0 : DataW.trod enc Try.prog W base spare held m 3 (([c0, c1, c2, c3, c4, c5, c6, c7, c8].drop 0).take (Try.prog.cellsOf 3)) = some y0 := hf 0 _ rfl
  have t1 : DataW.trod enc Try.prog W base spare held m 3 (([c0, c1, c2, c3, c4, c5, c6, c7, c8].drop 1).take (Try.prog.cellsOf 3)) = some y1 := hf 1 _ rfl
  have t2 : DataW.trod enc Try.prog W base spare held m 3 (([c0, c1, c2, c3, c4, c5, c6, c7, c8].drop 2).take (Try.prog.cellsOf 3)) = some y2 := hf 2 _ rfl
  have t3 : DataW.trod enc Try.prog W base spare held m 25 (([c0, c1, c2, c3, c4, c5, c6, c7, c8].drop 3).take (Try.prog.cellsOf 25)) = some y3 := hf 3 _ rfl
  have t4 : DataW.trod enc Try.prog W base spare held m 25 (([c0, c1, c2, c3, c4, c5, c6, c7, c8].drop 6).take (Try.prog.cellsOf 25)) = some y4 := hf 4 _ rfl
  rw [h1] at t0 t1 t2
  rw [h3] at t3 t4
  obtain ⟨n0, e0, -, -⟩ := DataW.trod_int Try.underlying3 t0
  obtain ⟨n1, e1, -, -⟩ := DataW.trod_int Try.underlying3 t1
  obtain ⟨n2, e2, -, -⟩ := DataW.trod_int Try.underlying3 t2
  obtain ⟨n3, n4, n5, rfl, rfl, rfl⟩ := msf_ints (c0 := c3) (c1 := c4) (c2 := c5) t3
  obtain ⟨n6, n7, n8, rfl, rfl, rfl⟩ := msf_ints (c0 := c6) (c1 := c7) (c2 := c8) t4
  obtain rfl : c0 = .int .i64 n0 := by injection e0
  obtain rfl : c1 = .int .i64 n1 := by injection e1
  obtain rfl : c2 = .int .i64 n2 := by injection e2
  exact ⟨n0, n1, n2, n3, n4, n5, n6, n7, n8, rfl⟩
set_option maxRecDepth 100000 in
theorem open_frame {H : Type} {enc : TypeId × Value → H} {W : World} {base b0 : Nat} {spare : Nat → Bool} {held : Bool} {r : Reach} {v : Value} {d : DataW H} {p : List MemPlace} (hv : Value.okWide Try.prog W r b0 27 v) (h : DataW.Trod enc Try.prog W base spare held 27 v d p) :
 ∃ n0 n1 n2 n3 n4 n5 n6 n7 n8 : Int, v = .agg #[Value.int .i64 n0, .int .i64 n1, .int .i64 n2, .int .i64 n3, .int .i64 n4, .int .i64 n5, .int .i64 n6, .int .i64 n7, .int .i64 n8] := by
 obtain ⟨cs, rfl, hsz⟩ := okWide_struct Try.underlying27 hv
 have h9 : Try.prog.cellsOf 27 = 9 := by kernel_rfl
 obtain ⟨fuel, hf⟩ := h
 obtain ⟨n0, n1, n2, n3, n4, n5, n6, n7, n8, e⟩ := frame_ints (cs := cs.toList) (by rw [Array.length_toList, hsz, h9]) (by simpa [Value.cells] using hf)
 refine ⟨n0, n1, n2, n3, n4, n5, n6, n7, n8, ?_⟩
 congr 1
 exact Array.toList_inj.mp e
set_option maxRecDepth 100000 in
theorem frame_cells {H : Type} {enc : TypeId × Value → H} {W : World} {base n : Nat} {spare : Nat → Bool} {held : Bool} {a : Addr} {cs : List Value} {x : DataW H × List MemPlace}
 (hc : W.cells? base a (Try.prog.cellsOf 27) = some cs) (h : DataW.trod enc Try.prog W base spare held n 27 cs = some x) :
 ∃ s : S27, ∀ (q : Nat) (v : Value), [Value.int .i64 s.f0, .int .i64 s.f1, .int .i64 s.f2, .int .i64 s.f3.f0, .int .i64 s.f3.f1, .int .i64 s.f3.f2, .int .i64 s.f4.f0, .int .i64 s.f4.f1, .int .i64 s.f4.f2][q]? = some v → W.cell? (a.add q) = some v := by
 have h9 : Try.prog.cellsOf 27 = 9 := by kernel_rfl
 obtain ⟨-, hl, hat⟩ := World.cells?_some hc
 rw [h9] at hl hat
 obtain ⟨n0, n1, n2, n3, n4, n5, n6, n7, n8, rfl⟩ := frame_ints hl h
 refine ⟨⟨n0, n1, n2, ⟨n3, n4, n5⟩, ⟨n6, n7, n8⟩⟩, fun q v hq => ?_⟩
 have hq9 : q < 9 := by
  have := (List.getElem?_eq_some_iff.1 hq).1
  simpa using this
 rw [hat q hq9]
 exact hq
set_option maxRecDepth 100000 in
theorem open_frames {H : Type} {enc : TypeId × Value → H} {W : World} {base : Nat} {spare : Nat → Bool} {held : Bool} {n : Nat} {u : Value} {y : DataW H × List MemPlace} (h : DataW.trod enc Try.prog W base spare held n 31 [u] = some y) :
 ∃ (A : Option Addr) (c : Nat) (l : List S27), u = .slice A l.length c ∧ l.length ≤ c ∧ l.length ≤ 9223372036854775807 ∧ Kd.C k27 W A l.length l := by
 rcases open_slice Try.underlying31 h with ⟨hc, -⟩ | ⟨a, len, cap, m, n, D, Pl, hc, -, hl, hm, hmm, -, hi⟩
 · obtain rfl : u = .slice none 0 0 := by injection hc
   exact ⟨none, 0, [], rfl, Nat.le_refl _, Nat.zero_le _, rfl, Nat.zero_le _, fun h => absurd h (Nat.lt_irrefl _)⟩
 · obtain rfl : u = .slice (some a) len cap := by injection hc
   have hlm : len ≤ m := by rw [hmm]; split <;> omega
   have h9 : Try.prog.cellsOf 27 = 9 := by kernel_rfl
   have hx : ∀ i, ∃ s : S27, i < len → ∀ (q : Nat) (v : Value), [Value.int .i64 s.f0, .int .i64 s.f1, .int .i64 s.f2, .int .i64 s.f3.f0, .int .i64 s.f3.f1, .int .i64 s.f3.f2, .int .i64 s.f4.f0, .int .i64 s.f4.f1, .int .i64 s.f4.f2][q]? = some v → W.cell? (a.add (i * 9 + q)) = some v := by
    intro i
    by_cases hlt : i < len
    · obtain ⟨cs, hcs, ht⟩ := hi i (by omega)
      obtain ⟨s, hs⟩ := frame_cells hcs ht
      refine ⟨s, fun _ q v hq => ?_⟩
      have := hs q v hq
      rwa [h9, Go.Deep.add_add] at this
    · exact ⟨z27, fun h => absurd h hlt⟩
   obtain ⟨g, hg⟩ := Classical.axiomOfChoice hx
   have hlen : ((List.range len).map g).length = len := by simp
   have hml : len ≤ 9223372036854775807 := by unfold maxLen at hm; omega
   refine ⟨some a, cap, (List.range len).map g, by rw [hlen], by rw [hlen]; exact hl, by rw [hlen]; exact hml, ?_⟩
   rw [hlen]
   refine ⟨hlen, hml, fun _ => ⟨a, rfl, fun j p hj => ?_⟩⟩
   rw [List.getElem?_map] at hj
   by_cases hjl : j < len
   · rw [List.getElem?_range hjl] at hj
     cases hj
     exact ⟨_, rfl, k27_mk W (g j), hg j hjl⟩
   · rw [List.getElem?_eq_none (by simpa using hjl)] at hj
     cases hj
end Go.Proofs.Ytpmkibggmkibeaa.G
