/- Texts of one claim, merged by a program of this session; what is proved stands in the last of them. -/
import Derived.Test.YtpmkibggmkibeaaKg1
namespace Go.Proofs.Ytpmkibggmkibeaa.G
open Go.RowKit Go.Proofs.YtpmkibggmkibeaaW.PrintWords Go.Proofs.YtpmkibggmkibeaaW.PrintLast Go.Proofs.YtpmkibggmkibeaaW.PrintMore
attribute [local go_sem] max2_int min2_int max_two min_two max_three min_three max_four min_four   -- for this text's walks alone
set_option linter.unusedVariables false
set_option linter.unusedSimpArgs false
mutual
def subchannel_session.j0 : Nat → List (S53) → Bool → Option (Bool)
 | 0, _, _ => none
 | k + 1, x0, x13 => if x13 = true then (some false) else (subchannel_session.l0 k x0 0 x0 (x0.length : Int) 0)
def subchannel_session.l0 : Nat → List (S53) → Int → List (S53) → Int → Int → Option (Bool)
 | 0, _, _, _, _, _ => none
 | k + 1, x0, x3, x14, x15, x16 => if x16 < x15 then (if 0 ≤ x16 then (if x16 < (x14.length : Int) then ((subchannel_between.f ((rd_T53 x14 x16).f0) 1 99).bind fun t116 => (if t116 = true then (if x16 > 0 then (if 0 ≤ (wrap64 (x16 - 1)) then (if (wrap64 (x16 - 1)) < (x0.length : Int) then (if ((rd_T53 x14 x16).f0) = (wrap64 (((rd_T53 x0 (wrap64 (x16 - 1))).f0) + 1)) then ((subchannel_between.f ((rd_T53 x14 x16).f2) x3 449849).bind fun t118 => (if t118 = true then ((subchannel_between.f ((rd_T53 x14 x16).f3) 1 449849).bind fun t119 => (if t119 = true then ((subchannel_end.f ((rd_T53 x14 x16).f0) ((rd_T53 x14 x16).f1) ((rd_T53 x14 x16).f2) ((rd_T53 x14 x16).f3) ((rd_T53 x14 x16).f4) ((rd_T53 x14 x16).f5) ((rd_T53 x14 x16).f6)).bind fun t120 => (subchannel_session.j2 k x0 x14 x15 x16 (decide (t120 > 449849)) ((rd_T53 x14 x16).f0) ((rd_T53 x14 x16).f1) ((rd_T53 x14 x16).f2) ((rd_T53 x14 x16).f3) ((rd_T53 x14 x16).f4) ((rd_T53 x14 x16).f5) ((rd_T53 x14 x16).f6))) else (subchannel_session.j2 k x0 x14 x15 x16 true ((rd_T53 x14 x16).f0) ((rd_T53 x14 x16).f1) ((rd_T53 x14 x16).f2) ((rd_T53 x14 x16).f3) ((rd_T53 x14 x16).f4) ((rd_T53 x14 x16).f5) ((rd_T53 x14 x16).f6)))) else (subchannel_session.j2 k x0 x14 x15 x16 true ((rd_T53 x14 x16).f0) ((rd_T53 x14 x16).f1) ((rd_T53 x14 x16).f2) ((rd_T53 x14 x16).f3) ((rd_T53 x14 x16).f4) ((rd_T53 x14 x16).f5) ((rd_T53 x14 x16).f6)))) else (subchannel_session.j2 k x0 x14 x15 x16 true ((rd_T53 x14 x16).f0) ((rd_T53 x14 x16).f1) ((rd_T53 x14 x16).f2) ((rd_T53 x14 x16).f3) ((rd_T53 x14 x16).f4) ((rd_T53 x14 x16).f5) ((rd_T53 x14 x16).f6))) else (none)) else (none)) else ((subchannel_between.f ((rd_T53 x14 x16).f2) x3 449849).bind fun t121 => (if t121 = true then ((subchannel_between.f ((rd_T53 x14 x16).f3) 1 449849).bind fun t122 => (if t122 = true then ((subchannel_end.f ((rd_T53 x14 x16).f0) ((rd_T53 x14 x16).f1) ((rd_T53 x14 x16).f2) ((rd_T53 x14 x16).f3) ((rd_T53 x14 x16).f4) ((rd_T53 x14 x16).f5) ((rd_T53 x14 x16).f6)).bind fun t123 => (subchannel_session.j2 k x0 x14 x15 x16 (decide (t123 > 449849)) ((rd_T53 x14 x16).f0) ((rd_T53 x14 x16).f1) ((rd_T53 x14 x16).f2) ((rd_T53 x14 x16).f3) ((rd_T53 x14 x16).f4) ((rd_T53 x14 x16).f5) ((rd_T53 x14 x16).f6))) else (subchannel_session.j2 k x0 x14 x15 x16 true ((rd_T53 x14 x16).f0) ((rd_T53 x14 x16).f1) ((rd_T53 x14 x16).f2) ((rd_T53 x14 x16).f3) ((rd_T53 x14 x16).f4) ((rd_T53 x14 x16).f5) ((rd_T53 x14 x16).f6)))) else (subchannel_session.j2 k x0 x14 x15 x16 true ((rd_T53 x14 x16).f0) ((rd_T53 x14 x16).f1) ((rd_T53 x14 x16).f2) ((rd_T53 x14 x16).f3) ((rd_T53 x14 x16).f4) ((rd_T53 x14 x16).f5) ((rd_T53 x14 x16).f6))))) else (subchannel_session.j2 k x0 x14 x15 x16 true ((rd_T53 x14 x16).f0) ((rd_T53 x14 x16).f1) ((rd_T53 x14 x16).f2) ((rd_T53 x14 x16).f3) ((rd_T53 x14 x16).f4) ((rd_T53 x14 x16).f5) ((rd_T53 x14 x16).f6)))) else (none)) else (none)) else (some true)
def subchannel_session.j2 : Nat → List (S53) → List (S53) → Int → Int → Bool → Int → Int → Int → Int → Int → Int → Int → Option (Bool)
 | 0, _, _, _, _, _, _, _, _, _, _, _, _ => none
 | k + 1, x0, x14, x15, x16, x58, x116000, x116001, x116002, x116003, x116004, x116005, x116006 => if x58 = true then (some false) else ((subchannel_end.f x116000 x116001 x116002 x116003 x116004 x116005 x116006).bind fun t124 => (subchannel_session.l0 k x0 t124 x14 x15 (wrap64 (x16 + 1))))
end
def subchannel_session.f (k : Nat) (l0 : List (S53)) : Option (Bool) := if (l0.length : Int) < 1 then (subchannel_session.j0 k l0 true) else (subchannel_session.j0 k l0 (decide ((l0.length : Int) > 99)))
theorem subchannel_session.mono_l : ∀ k, (∀ y0 y1, LeO (subchannel_session.j0 k y0 y1) (subchannel_session.j0 (k + 1) y0 y1)) ∧ (∀ y0 y1 y2 y3 y4, LeO (subchannel_session.l0 k y0 y1 y2 y3 y4) (subchannel_session.l0 (k + 1) y0 y1 y2 y3 y4)) ∧ (∀ y0 y1 y2 y3 y4 y5 y6 y7 y8 y9 y10 y11, LeO (subchannel_session.j2 k y0 y1 y2 y3 y4 y5 y6 y7 y8 y9 y10 y11) (subchannel_session.j2 (k + 1) y0 y1 y2 y3 y4 y5 y6 y7 y8 y9 y10 y11))
 | 0 => ⟨fun _ _ r h => by simp [subchannel_session.j0] at h, fun _ _ _ _ _ r h => by simp [subchannel_session.l0] at h, fun _ _ _ _ _ _ _ _ _ _ _ _ r h => by simp [subchannel_session.j2] at h⟩
 | k + 1 => by
  obtain ⟨ih0, ih1, ih2⟩ := subchannel_session.mono_l k
  refine ⟨?_, ?_, ?_⟩
  · intro y0 y1
    unfold subchannel_session.j0
    repeat' first
    | (with_reducible exact ih0 _ _)
    | (with_reducible exact ih1 _ _ _ _ _)
    | (with_reducible exact ih2 _ _ _ _ _ _ _ _ _ _ _ _)
    | (with_reducible exact LeO.refl _)
    | (with_reducible exact LeO.none _)
    | (with_reducible refine LeO.ite ?_ ?_)
    | (with_reducible refine LeO.bind ?_ (fun _ => ?_))
    | exact ih0 _ _
    | exact ih1 _ _ _ _ _
    | exact ih2 _ _ _ _ _ _ _ _ _ _ _ _
    | exact LeO.none _
    | refine LeO.ite ?_ ?_
    | refine LeO.bind ?_ (fun _ => ?_)
  · intro y0 y1 y2 y3 y4
    unfold subchannel_session.l0
    repeat' first
    | (with_reducible exact ih0 _ _)
    | (with_reducible exact ih1 _ _ _ _ _)
    | (with_reducible exact ih2 _ _ _ _ _ _ _ _ _ _ _ _)
    | (with_reducible exact LeO.refl _)
    | (with_reducible exact LeO.none _)
    | (with_reducible refine LeO.ite ?_ ?_)
    | (with_reducible refine LeO.bind ?_ (fun _ => ?_))
    | exact ih0 _ _
    | exact ih1 _ _ _ _ _
    | exact ih2 _ _ _ _ _ _ _ _ _ _ _ _
    | exact LeO.none _
    | refine LeO.ite ?_ ?_
    | refine LeO.bind ?_ (fun _ => ?_)
  · intro y0 y1 y2 y3 y4 y5 y6 y7 y8 y9 y10 y11
    unfold subchannel_session.j2
    repeat' first
    | (with_reducible exact ih0 _ _)
    | (with_reducible exact ih1 _ _ _ _ _)
    | (with_reducible exact ih2 _ _ _ _ _ _ _ _ _ _ _ _)
    | (with_reducible exact LeO.refl _)
    | (with_reducible exact LeO.none _)
    | (with_reducible refine LeO.ite ?_ ?_)
    | (with_reducible refine LeO.bind ?_ (fun _ => ?_))
    | exact ih0 _ _
    | exact ih1 _ _ _ _ _
    | exact ih2 _ _ _ _ _ _ _ _ _ _ _ _
    | exact LeO.none _
    | refine LeO.ite ?_ ?_
    | refine LeO.bind ?_ (fun _ => ?_)
theorem subchannel_session.mono : ∀ a0 k, LeO (subchannel_session.f k a0) (subchannel_session.f (k + 1) a0) := by
 intro a0 k
 obtain ⟨ih0, ih1, ih2⟩ := subchannel_session.mono_l k
 unfold subchannel_session.f
 repeat' first
  | (with_reducible exact ih0 _ _)
  | (with_reducible exact ih1 _ _ _ _ _)
  | (with_reducible exact ih2 _ _ _ _ _ _ _ _ _ _ _ _)
  | (with_reducible exact LeO.refl _)
  | (with_reducible exact LeO.none _)
  | (with_reducible refine LeO.ite ?_ ?_)
  | (with_reducible refine LeO.bind ?_ (fun _ => ?_))
  | exact ih0 _ _
  | exact ih1 _ _ _ _ _
  | exact ih2 _ _ _ _ _ _ _ _ _ _ _ _
  | exact LeO.none _
  | refine LeO.ite ?_ ?_
  | refine LeO.bind ?_ (fun _ => ?_)
def subchannel_session.T7 : Bool × List (List Nat × List Nat) := (true, [([], []), ([0], [0]), ([1], [1]), ([2], [2]), ([3, 2], [3]), ([4], [4]), ([5, 4], [4, 5]), ([6, 4, 4], [4, 6]), ([7], [7]), ([8, 7], [7, 8]), ([7], [7]), ([7], [7]), ([11, 7], [7, 11]), ([10, 12, 7], [7, 10, 12]), ([13, 7], [7, 13]), ([14, 7], [7, 14]), ([15, 7], [7, 15]), ([9, 16, 7], [7, 9, 16]), ([7, 17, 4], [4, 7, 17]), ([4, 18], [4, 18]), ([19, 7], [19]), ([20], [20]), ([21, 20], [20, 21]), ([20], [20]), ([22, 23, 20, 20], [20, 22, 23]), ([24, 20], [20, 24]), ([20, 25], [20, 25]), ([26, 24], [26]), ([27], [27]), ([28, 27], [27, 28]), ([29, 27, 27], [27, 29]), ([30, 27], [27, 30]), ([27, 31], [27, 31]), ([32, 30], [32]), ([33], [33]), ([34, 33, 33], [33, 34]), ([35, 33], [33, 35]), ([33, 36], [33, 36])])
def subchannel_session.B7 : List Nat := [0, 1, 3, 7, 15, 31, 63, 127, 255, 511, 255, 255, 2303, 7423, 15615, 31999, 64767, 131071, 262143, 524287, 1048575, 2097151, 4194303, 2097151, 16777215, 33554431, 67108863, 134217727, 268435455, 536870911, 1073741823, 2147483647, 4294967295, 8589934591, 17179869183, 34359738367, 68719476735, 137438953471]
theorem subchannel_session.tab7 : rtab .any (opsOf Try.f25 7) = subchannel_session.T7 := by kernel_rfl
theorem subchannel_session.bits7 : waitsOk subchannel_session.T7.2 subchannel_session.B7 = true := by kernel_rfl
set_option maxHeartbeats 8000000 in
set_option maxRecDepth 100000 in
theorem subchannel_session.calls (k : Nat) (A0 : Option Addr) (c0 : Nat) (l0 : List (S53)) (r : Bool) (w : World) (hr0 : Kd.C k53 w A0 l0.length l0) (hc0 : l0.length ≤ c0) (h : subchannel_session.f k l0 = some r) :
 Calls Try.prog 25 #[.slice A0 l0.length c0] w fun e w' => e = .returned (.bool r) ∧ Below w.heap.size w w' := by
 have hu53 := Try.underlying53
 have HR0 := Aside0.mk hr0
 have HC0 := Aside0.mk hc0
 clear hr0 hc0
 have HB := Aside0.mk (Below.refl w.heap.size w)
 have H : (if (l0.length : Int) < 1 then (subchannel_session.j0 k l0 true) else (subchannel_session.j0 k l0 (decide ((l0.length : Int) > 99)))) = some r := h
 clear h
 have HC2 := Aside0.mk H
 clear H
 go_enter Try.func25, Try.ntmps25
 go_upto_region 1 with (fail)
 go_cut [13] (fun v13 wc => ∃ (kq : Nat) (x13_1 : Bool), v13 = .bool x13_1 ∧ Aside0 (subchannel_session.j0 kq l0 x13_1 = some r) ∧ Aside0 (kq ≤ k) ∧ Aside0 (Below w.heap.size w wc))
 case first =>
  have H := HC2.out
  clear HC2
  by_cases c3 : (l0.length : Int) < 1
  · rw [if_pos c3] at H
    have c3b0 : decide ((l0.length : Int) < 1) = true := decide_eq_true c3
    have c3b1 : decide (l0.length < 1) = true := decide_eq_true (by omega)
    clear c3
    (first | rw [c3b0] | (simp only [i64_w, i32_w]; rw [c3b0]) | skip)
    have H' := Aside0.mk H
    clear H
    go_wp2
    go_meet
    case rel => exact ⟨_, (true), (by first | rfl | (simp; done) | (simp [*]; done)), H', ⟨by first | omega | exact Nat.le_refl _⟩, ⟨by repeat (first | (with_reducible first | exact HB.out | apply below_alloc | apply pw_below_drewN | apply below_drew1) | exact HB.out)⟩⟩
  · rw [if_neg c3] at H
    have c3b0 : decide ((l0.length : Int) < 1) = false := decide_eq_false c3
    have c3b1 : decide (l0.length < 1) = false := decide_eq_false (by omega)
    clear c3
    (first | rw [c3b0] | (simp only [i64_w, i32_w]; rw [c3b0]) | skip)
    have H' := Aside0.mk H
    clear H
    go_wp2
    go_meet
    case rel => exact ⟨_, (decide ((l0.length : Int) > 99)), (by first | rfl | (simp; done) | (simp [*]; done)), H', ⟨by first | omega | exact Nat.le_refl _⟩, ⟨by repeat (first | (with_reducible first | exact HB.out | apply below_alloc | apply pw_below_drewN | apply below_drew1) | exact HB.out)⟩⟩
 case rest =>
  clear HC2
  try clear c2
  try clear p2
  try clear c3
  try clear c3b0
  try clear c3b1
  obtain ⟨kq, x13_1, rfl, HA, HJ1, HB⟩ := hcut
  cases kq with
  | zero => exact absurd HA.out (by simp [subchannel_session.j0])
  | succ kj1 =>
   have H := HA.out
   clear HA
   simp only [subchannel_session.j0] at H
   by_cases c4 : x13_1 = true
   · subst c4
     have H1 : (some false) = some r := by rw [if_pos rfl] at H; exact H
     clear H
     have H := H1
     clear H1
     obtain rfl := Option.some.inj H
     go_wp2
     go_ret
     exact ⟨by first | rfl | (simp [errW_none, errW_some] <;> rfl) | (simp [*, errW_none, errW_some] <;> rfl), by repeat (first | (with_reducible first | exact HB.out | apply below_alloc | apply pw_below_drewN | apply below_drew1) | exact HB.out)⟩
   · replace c4 := Bool.eq_false_iff.mpr c4
     subst c4
     have H1 : (subchannel_session.l0 kj1 l0 0 l0 (l0.length : Int) 0) = some r := by rw [if_neg (show ¬ (false = true) by decide)] at H; exact H
     clear H
     have H := H1
     clear H1
     have H' := Aside0.mk H
     clear H
     go_wp2
     go_loopg [3, 16] kj1 (fun kq v3 v16 w' => ∃ (x3_2 : Int) (x16_2 : Int), v3 = .int .i64 x3_2 ∧ v16 = .int .i64 x16_2 ∧ Aside0 (subchannel_session.l0 kq l0 x3_2 l0 (l0.length : Int) x16_2 = some r) ∧ Aside0 (kq ≤ kj1) ∧ Aside0 (Below w.heap.size w w'))
     case atStart => exact ⟨(0), (0), (by first | rfl | (simp; done) | (simp [*]; done)), (by first | rfl | (simp; done) | (simp [*]; done)), H', ⟨Nat.le_refl _⟩, ⟨by repeat (first | (with_reducible first | exact HB.out | apply below_alloc | apply pw_below_drewN | apply below_drew1) | exact HB.out)⟩⟩
     case round =>
      clear H'
      try clear c2
      try clear p2
      try clear c3
      try clear c3b0
      try clear c3b1
      try clear c4
      try clear p2
      obtain ⟨x3_2, x16_2, rfl, rfl, HA, HK2, HB⟩ := hrel
      cases gk with
      | zero => exact absurd HA.out (by simp [subchannel_session.l0])
      | succ k2 =>
       have H := HA.out
       clear HA
       simp only [subchannel_session.l0] at H
       by_cases c5 : x16_2 < (l0.length : Int)
       · rw [if_pos c5] at H
         have c5b0 : decide (x16_2 < (l0.length : Int)) = true := decide_eq_true c5
         clear c5
         by_cases c6 : 0 ≤ x16_2
         · rw [if_pos c6] at H
           have c6b0 : decide (0 ≤ x16_2) = true := decide_eq_true c6
           clear c6
           by_cases c7 : x16_2 < (l0.length : Int)
           · rw [if_pos c7] at H
             have c7b0 : decide (x16_2 < (l0.length : Int)) = true := decide_eq_true c7
             clear c7
             have HC8 := Aside0.mk H
             clear H
             have p114 : 0 ≤ (x16_2 : Int) := of_decide_eq_true (by first | (with_reducible assumption) | assumption)
             have q114 : x16_2 < (l0.length : Int) := of_decide_eq_true (by first | (with_reducible assumption) | assumption)
             obtain ⟨ad114, e114, hx114_0, hx114_1, hx114_2, hx114_3, hx114_4, hx114_5, hx114_6⟩ := at_T53 HR0.out x16_2 p114 q114
             cases e114
             replace hx114_0 := upc HB.out hx114_0
             replace hx114_1 := upc HB.out hx114_1
             replace hx114_2 := upc HB.out hx114_2
             replace hx114_3 := upc HB.out hx114_3
             replace hx114_4 := upc HB.out hx114_4
             replace hx114_5 := upc HB.out hx114_5
             replace hx114_6 := upc HB.out hx114_6
             replace p114 := eq_true p114
             replace q114 := eq_true q114
             go_upto_region 7 with (first | ((with_reducible refine gate_dst (N := 5) rfl ?_); (try (refine gate_guard (by rfl) ?_; dsimp only)); refine box_event ?hg (N := 5) ?hd (cs := #[.int .i64 0, .int .i64 0, .int .i64 0, .int .i64 0, .int .i64 0, .int .i64 0, .int .i64 0]) (t := 53) ?hr ?_; (case hd => rfl); (case hg => rfl); (case hr => first | (go_simp; done) | (go_simp; rfl)); intro gb115 hg w9 hbox hb; have n0_ := Aside0.mk (below_step (by repeat (first | (with_reducible first | exact HB.out | apply below_alloc | apply pw_below_drewN | apply below_drew1) | exact HB.out)) hb); have n1_ := Aside0.mk (hbox); have n2_ := Aside0.mk ((by rw [hg]; exact (below_size (by repeat (first | (with_reducible first | exact HB.out | apply below_alloc | apply pw_below_drewN | apply below_drew1) | exact HB.out))) : w.heap.size ≤ gb115)); have n3_ := Aside0.mk ((by rw [hg]; exact (below_size (by repeat (first | (with_reducible first | exact HB.out | apply below_alloc | apply pw_below_drewN | apply below_drew1) | exact HB.out))) : w.heap.size ≤ gb115)); clear HB; have HB := n0_; have BK115 := n1_; have GW115 := n2_; have GE115 := n3_; clear n0_ n1_ n2_ n3_; clear hb hbox hg; obtain ⟨hcz10_0, hcz10_1, hcz10_2, hcz10_3, hcz10_4, hcz10_5, hcz10_6⟩ := cel7 BK115.out; obtain ⟨hfz10_0, hfz10_1, hfz10_2, hfz10_3, hfz10_4, hfz10_5, hfz10_6⟩ := frz7 BK115.out))
             (try simp only [Act.put, List.setIfInBounds_toArray, List.set_cons_zero, List.set_cons_succ])
             go_cut [58] (fun v58 wc => ∃ (kq : Nat) (x58_7 : Bool), v58 = .bool x58_7 ∧ Aside0 (subchannel_session.j2 kq l0 l0 (l0.length : Int) x16_2 x58_7 ((rd_T53 l0 x16_2).f0) ((rd_T53 l0 x16_2).f1) ((rd_T53 l0 x16_2).f2) ((rd_T53 l0 x16_2).f3) ((rd_T53 l0 x16_2).f4) ((rd_T53 l0 x16_2).f5) ((rd_T53 l0 x16_2).f6) = some r) ∧ Aside0 (kq ≤ k2) ∧ Aside0 (wc.heap[gb115]? = some (.cells #[.int .i64 ((rd_T53 l0 x16_2).f0), .int .i64 ((rd_T53 l0 x16_2).f1), .int .i64 ((rd_T53 l0 x16_2).f2), .int .i64 ((rd_T53 l0 x16_2).f3), .int .i64 ((rd_T53 l0 x16_2).f4), .int .i64 ((rd_T53 l0 x16_2).f5), .int .i64 ((rd_T53 l0 x16_2).f6)] 53 (0, 0))) ∧ Aside0 (Below w.heap.size w wc))
             case first =>
              have H := HC8.out
              clear HC8
              replace H := Option.bind_eq_some_iff.mp H
              obtain ⟨t116, A110, H⟩ := H
              replace H : (if t116 = true then (if x16_2 > 0 then (if 0 ≤ (wrap64 (x16_2 - 1)) then (if (wrap64 (x16_2 - 1)) < (l0.length : Int) then (if ((rd_T53 l0 x16_2).f0) = (wrap64 (((rd_T53 l0 (wrap64 (x16_2 - 1))).f0) + 1)) then ((subchannel_between.f ((rd_T53 l0 x16_2).f2) x3_2 449849).bind fun t118 => (if t118 = true then ((subchannel_between.f ((rd_T53 l0 x16_2).f3) 1 449849).bind fun t119 => (if t119 = true then ((subchannel_end.f ((rd_T53 l0 x16_2).f0) ((rd_T53 l0 x16_2).f1) ((rd_T53 l0 x16_2).f2) ((rd_T53 l0 x16_2).f3) ((rd_T53 l0 x16_2).f4) ((rd_T53 l0 x16_2).f5) ((rd_T53 l0 x16_2).f6)).bind fun t120 => (subchannel_session.j2 k2 l0 l0 (l0.length : Int) x16_2 (decide (t120 > 449849)) ((rd_T53 l0 x16_2).f0) ((rd_T53 l0 x16_2).f1) ((rd_T53 l0 x16_2).f2) ((rd_T53 l0 x16_2).f3) ((rd_T53 l0 x16_2).f4) ((rd_T53 l0 x16_2).f5) ((rd_T53 l0 x16_2).f6))) else (subchannel_session.j2 k2 l0 l0 (l0.length : Int) x16_2 true ((rd_T53 l0 x16_2).f0) ((rd_T53 l0 x16_2).f1) ((rd_T53 l0 x16_2).f2) ((rd_T53 l0 x16_2).f3) ((rd_T53 l0 x16_2).f4) ((rd_T53 l0 x16_2).f5) ((rd_T53 l0 x16_2).f6)))) else (subchannel_session.j2 k2 l0 l0 (l0.length : Int) x16_2 true ((rd_T53 l0 x16_2).f0) ((rd_T53 l0 x16_2).f1) ((rd_T53 l0 x16_2).f2) ((rd_T53 l0 x16_2).f3) ((rd_T53 l0 x16_2).f4) ((rd_T53 l0 x16_2).f5) ((rd_T53 l0 x16_2).f6)))) else (subchannel_session.j2 k2 l0 l0 (l0.length : Int) x16_2 true ((rd_T53 l0 x16_2).f0) ((rd_T53 l0 x16_2).f1) ((rd_T53 l0 x16_2).f2) ((rd_T53 l0 x16_2).f3) ((rd_T53 l0 x16_2).f4) ((rd_T53 l0 x16_2).f5) ((rd_T53 l0 x16_2).f6))) else (none)) else (none)) else ((subchannel_between.f ((rd_T53 l0 x16_2).f2) x3_2 449849).bind fun t121 => (if t121 = true then ((subchannel_between.f ((rd_T53 l0 x16_2).f3) 1 449849).bind fun t122 => (if t122 = true then ((subchannel_end.f ((rd_T53 l0 x16_2).f0) ((rd_T53 l0 x16_2).f1) ((rd_T53 l0 x16_2).f2) ((rd_T53 l0 x16_2).f3) ((rd_T53 l0 x16_2).f4) ((rd_T53 l0 x16_2).f5) ((rd_T53 l0 x16_2).f6)).bind fun t123 => (subchannel_session.j2 k2 l0 l0 (l0.length : Int) x16_2 (decide (t123 > 449849)) ((rd_T53 l0 x16_2).f0) ((rd_T53 l0 x16_2).f1) ((rd_T53 l0 x16_2).f2) ((rd_T53 l0 x16_2).f3) ((rd_T53 l0 x16_2).f4) ((rd_T53 l0 x16_2).f5) ((rd_T53 l0 x16_2).f6))) else (subchannel_session.j2 k2 l0 l0 (l0.length : Int) x16_2 true ((rd_T53 l0 x16_2).f0) ((rd_T53 l0 x16_2).f1) ((rd_T53 l0 x16_2).f2) ((rd_T53 l0 x16_2).f3) ((rd_T53 l0 x16_2).f4) ((rd_T53 l0 x16_2).f5) ((rd_T53 l0 x16_2).f6)))) else (subchannel_session.j2 k2 l0 l0 (l0.length : Int) x16_2 true ((rd_T53 l0 x16_2).f0) ((rd_T53 l0 x16_2).f1) ((rd_T53 l0 x16_2).f2) ((rd_T53 l0 x16_2).f3) ((rd_T53 l0 x16_2).f4) ((rd_T53 l0 x16_2).f5) ((rd_T53 l0 x16_2).f6))))) else (subchannel_session.j2 k2 l0 l0 (l0.length : Int) x16_2 true ((rd_T53 l0 x16_2).f0) ((rd_T53 l0 x16_2).f1) ((rd_T53 l0 x16_2).f2) ((rd_T53 l0 x16_2).f3) ((rd_T53 l0 x16_2).f4) ((rd_T53 l0 x16_2).f5) ((rd_T53 l0 x16_2).f6))) = some r := H
              have A11 := Aside0.mk A110
              clear A110
              by_cases c12 : t116 = true
              · subst c12
                have H1 : (if x16_2 > 0 then (if 0 ≤ (wrap64 (x16_2 - 1)) then (if (wrap64 (x16_2 - 1)) < (l0.length : Int) then (if ((rd_T53 l0 x16_2).f0) = (wrap64 (((rd_T53 l0 (wrap64 (x16_2 - 1))).f0) + 1)) then ((subchannel_between.f ((rd_T53 l0 x16_2).f2) x3_2 449849).bind fun t118 => (if t118 = true then ((subchannel_between.f ((rd_T53 l0 x16_2).f3) 1 449849).bind fun t119 => (if t119 = true then ((subchannel_end.f ((rd_T53 l0 x16_2).f0) ((rd_T53 l0 x16_2).f1) ((rd_T53 l0 x16_2).f2) ((rd_T53 l0 x16_2).f3) ((rd_T53 l0 x16_2).f4) ((rd_T53 l0 x16_2).f5) ((rd_T53 l0 x16_2).f6)).bind fun t120 => (subchannel_session.j2 k2 l0 l0 (l0.length : Int) x16_2 (decide (t120 > 449849)) ((rd_T53 l0 x16_2).f0) ((rd_T53 l0 x16_2).f1) ((rd_T53 l0 x16_2).f2) ((rd_T53 l0 x16_2).f3) ((rd_T53 l0 x16_2).f4) ((rd_T53 l0 x16_2).f5) ((rd_T53 l0 x16_2).f6))) else (subchannel_session.j2 k2 l0 l0 (l0.length : Int) x16_2 true ((rd_T53 l0 x16_2).f0) ((rd_T53 l0 x16_2).f1) ((rd_T53 l0 x16_2).f2) ((rd_T53 l0 x16_2).f3) ((rd_T53 l0 x16_2).f4) ((rd_T53 l0 x16_2).f5) ((rd_T53 l0 x16_2).f6)))) else (subchannel_session.j2 k2 l0 l0 (l0.length : Int) x16_2 true ((rd_T53 l0 x16_2).f0) ((rd_T53 l0 x16_2).f1) ((rd_T53 l0 x16_2).f2) ((rd_T53 l0 x16_2).f3) ((rd_T53 l0 x16_2).f4) ((rd_T53 l0 x16_2).f5) ((rd_T53 l0 x16_2).f6)))) else (subchannel_session.j2 k2 l0 l0 (l0.length : Int) x16_2 true ((rd_T53 l0 x16_2).f0) ((rd_T53 l0 x16_2).f1) ((rd_T53 l0 x16_2).f2) ((rd_T53 l0 x16_2).f3) ((rd_T53 l0 x16_2).f4) ((rd_T53 l0 x16_2).f5) ((rd_T53 l0 x16_2).f6))) else (none)) else (none)) else ((subchannel_between.f ((rd_T53 l0 x16_2).f2) x3_2 449849).bind fun t121 => (if t121 = true then ((subchannel_between.f ((rd_T53 l0 x16_2).f3) 1 449849).bind fun t122 => (if t122 = true then ((subchannel_end.f ((rd_T53 l0 x16_2).f0) ((rd_T53 l0 x16_2).f1) ((rd_T53 l0 x16_2).f2) ((rd_T53 l0 x16_2).f3) ((rd_T53 l0 x16_2).f4) ((rd_T53 l0 x16_2).f5) ((rd_T53 l0 x16_2).f6)).bind fun t123 => (subchannel_session.j2 k2 l0 l0 (l0.length : Int) x16_2 (decide (t123 > 449849)) ((rd_T53 l0 x16_2).f0) ((rd_T53 l0 x16_2).f1) ((rd_T53 l0 x16_2).f2) ((rd_T53 l0 x16_2).f3) ((rd_T53 l0 x16_2).f4) ((rd_T53 l0 x16_2).f5) ((rd_T53 l0 x16_2).f6))) else (subchannel_session.j2 k2 l0 l0 (l0.length : Int) x16_2 true ((rd_T53 l0 x16_2).f0) ((rd_T53 l0 x16_2).f1) ((rd_T53 l0 x16_2).f2) ((rd_T53 l0 x16_2).f3) ((rd_T53 l0 x16_2).f4) ((rd_T53 l0 x16_2).f5) ((rd_T53 l0 x16_2).f6)))) else (subchannel_session.j2 k2 l0 l0 (l0.length : Int) x16_2 true ((rd_T53 l0 x16_2).f0) ((rd_T53 l0 x16_2).f1) ((rd_T53 l0 x16_2).f2) ((rd_T53 l0 x16_2).f3) ((rd_T53 l0 x16_2).f4) ((rd_T53 l0 x16_2).f5) ((rd_T53 l0 x16_2).f6))))) = some r := by rw [if_pos rfl] at H; exact H
                clear H
                have H := H1
                clear H1
                by_cases c13 : x16_2 > 0
                · rw [if_pos c13] at H
                  have c13b0 : decide (0 < x16_2) = true := decide_eq_true c13
                  clear c13
                  (first | rw [c13b0] | (simp only [i64_w, i32_w]; rw [c13b0]) | skip)
                  obtain ⟨ji14, hji14⟩ : ∃ j_ : Int, (wrap64 (x16_2 - 1)) = j_ := ⟨_, rfl⟩
                  replace H : (if 0 ≤ (ji14) then (if (ji14) < (l0.length : Int) then (if ((rd_T53 l0 x16_2).f0) = (wrap64 (((rd_T53 l0 (ji14)).f0) + 1)) then ((subchannel_between.f ((rd_T53 l0 x16_2).f2) x3_2 449849).bind fun t118 => (if t118 = true then ((subchannel_between.f ((rd_T53 l0 x16_2).f3) 1 449849).bind fun t119 => (if t119 = true then ((subchannel_end.f ((rd_T53 l0 x16_2).f0) ((rd_T53 l0 x16_2).f1) ((rd_T53 l0 x16_2).f2) ((rd_T53 l0 x16_2).f3) ((rd_T53 l0 x16_2).f4) ((rd_T53 l0 x16_2).f5) ((rd_T53 l0 x16_2).f6)).bind fun t120 => (subchannel_session.j2 k2 l0 l0 (l0.length : Int) x16_2 (decide (t120 > 449849)) ((rd_T53 l0 x16_2).f0) ((rd_T53 l0 x16_2).f1) ((rd_T53 l0 x16_2).f2) ((rd_T53 l0 x16_2).f3) ((rd_T53 l0 x16_2).f4) ((rd_T53 l0 x16_2).f5) ((rd_T53 l0 x16_2).f6))) else (subchannel_session.j2 k2 l0 l0 (l0.length : Int) x16_2 true ((rd_T53 l0 x16_2).f0) ((rd_T53 l0 x16_2).f1) ((rd_T53 l0 x16_2).f2) ((rd_T53 l0 x16_2).f3) ((rd_T53 l0 x16_2).f4) ((rd_T53 l0 x16_2).f5) ((rd_T53 l0 x16_2).f6)))) else (subchannel_session.j2 k2 l0 l0 (l0.length : Int) x16_2 true ((rd_T53 l0 x16_2).f0) ((rd_T53 l0 x16_2).f1) ((rd_T53 l0 x16_2).f2) ((rd_T53 l0 x16_2).f3) ((rd_T53 l0 x16_2).f4) ((rd_T53 l0 x16_2).f5) ((rd_T53 l0 x16_2).f6)))) else (subchannel_session.j2 k2 l0 l0 (l0.length : Int) x16_2 true ((rd_T53 l0 x16_2).f0) ((rd_T53 l0 x16_2).f1) ((rd_T53 l0 x16_2).f2) ((rd_T53 l0 x16_2).f3) ((rd_T53 l0 x16_2).f4) ((rd_T53 l0 x16_2).f5) ((rd_T53 l0 x16_2).f6))) else (none)) else (none)) = some r := by first | (rw [hji14] at H; exact H) | (simp only [hji14] at H ⊢; exact H)
                  (try rw [hji14] at A11)
                  have hji14w : (IntKind.i64.wrap (x16_2 - 1)) = ji14 := (i64_w _).trans hji14
                  by_cases c15 : 0 ≤ (ji14)
                  · rw [if_pos c15] at H
                    have c15b0 : decide (0 ≤ (ji14)) = true := decide_eq_true c15
                    clear c15
                    by_cases c16 : (ji14) < (l0.length : Int)
                    · rw [if_pos c16] at H
                      have c16b0 : decide ((ji14) < (l0.length : Int)) = true := decide_eq_true c16
                      clear c16
                      by_cases c17 : ((rd_T53 l0 x16_2).f0) = (wrap64 (((rd_T53 l0 (ji14)).f0) + 1))
                      · rw [if_pos c17] at H
                        have c17b0 : (((rd_T53 l0 x16_2).f0) == (wrap64 (((rd_T53 l0 (ji14)).f0) + 1))) = true := beq_iff_eq.mpr c17
                        have c17b1 : (((rd_T53 l0 x16_2).f0) != (wrap64 (((rd_T53 l0 (ji14)).f0) + 1))) = false := bne_eq_false_iff_eq.mpr c17
                        clear c17
                        replace H := Option.bind_eq_some_iff.mp H
                        obtain ⟨t118, A180, H⟩ := H
                        replace H : (if t118 = true then ((subchannel_between.f ((rd_T53 l0 x16_2).f3) 1 449849).bind fun t119 => (if t119 = true then ((subchannel_end.f ((rd_T53 l0 x16_2).f0) ((rd_T53 l0 x16_2).f1) ((rd_T53 l0 x16_2).f2) ((rd_T53 l0 x16_2).f3) ((rd_T53 l0 x16_2).f4) ((rd_T53 l0 x16_2).f5) ((rd_T53 l0 x16_2).f6)).bind fun t120 => (subchannel_session.j2 k2 l0 l0 (l0.length : Int) x16_2 (decide (t120 > 449849)) ((rd_T53 l0 x16_2).f0) ((rd_T53 l0 x16_2).f1) ((rd_T53 l0 x16_2).f2) ((rd_T53 l0 x16_2).f3) ((rd_T53 l0 x16_2).f4) ((rd_T53 l0 x16_2).f5) ((rd_T53 l0 x16_2).f6))) else (subchannel_session.j2 k2 l0 l0 (l0.length : Int) x16_2 true ((rd_T53 l0 x16_2).f0) ((rd_T53 l0 x16_2).f1) ((rd_T53 l0 x16_2).f2) ((rd_T53 l0 x16_2).f3) ((rd_T53 l0 x16_2).f4) ((rd_T53 l0 x16_2).f5) ((rd_T53 l0 x16_2).f6)))) else (subchannel_session.j2 k2 l0 l0 (l0.length : Int) x16_2 true ((rd_T53 l0 x16_2).f0) ((rd_T53 l0 x16_2).f1) ((rd_T53 l0 x16_2).f2) ((rd_T53 l0 x16_2).f3) ((rd_T53 l0 x16_2).f4) ((rd_T53 l0 x16_2).f5) ((rd_T53 l0 x16_2).f6))) = some r := H
                        have A18 := Aside0.mk A180
                        clear A180
                        by_cases c19 : t118 = true
                        · subst c19
                          have H1 : ((subchannel_between.f ((rd_T53 l0 x16_2).f3) 1 449849).bind fun t119 => (if t119 = true then ((subchannel_end.f ((rd_T53 l0 x16_2).f0) ((rd_T53 l0 x16_2).f1) ((rd_T53 l0 x16_2).f2) ((rd_T53 l0 x16_2).f3) ((rd_T53 l0 x16_2).f4) ((rd_T53 l0 x16_2).f5) ((rd_T53 l0 x16_2).f6)).bind fun t120 => (subchannel_session.j2 k2 l0 l0 (l0.length : Int) x16_2 (decide (t120 > 449849)) ((rd_T53 l0 x16_2).f0) ((rd_T53 l0 x16_2).f1) ((rd_T53 l0 x16_2).f2) ((rd_T53 l0 x16_2).f3) ((rd_T53 l0 x16_2).f4) ((rd_T53 l0 x16_2).f5) ((rd_T53 l0 x16_2).f6))) else (subchannel_session.j2 k2 l0 l0 (l0.length : Int) x16_2 true ((rd_T53 l0 x16_2).f0) ((rd_T53 l0 x16_2).f1) ((rd_T53 l0 x16_2).f2) ((rd_T53 l0 x16_2).f3) ((rd_T53 l0 x16_2).f4) ((rd_T53 l0 x16_2).f5) ((rd_T53 l0 x16_2).f6)))) = some r := by rw [if_pos rfl] at H; exact H
                          clear H
                          have H := H1
                          clear H1
                          replace H := Option.bind_eq_some_iff.mp H
                          obtain ⟨t119, A200, H⟩ := H
                          replace H : (if t119 = true then ((subchannel_end.f ((rd_T53 l0 x16_2).f0) ((rd_T53 l0 x16_2).f1) ((rd_T53 l0 x16_2).f2) ((rd_T53 l0 x16_2).f3) ((rd_T53 l0 x16_2).f4) ((rd_T53 l0 x16_2).f5) ((rd_T53 l0 x16_2).f6)).bind fun t120 => (subchannel_session.j2 k2 l0 l0 (l0.length : Int) x16_2 (decide (t120 > 449849)) ((rd_T53 l0 x16_2).f0) ((rd_T53 l0 x16_2).f1) ((rd_T53 l0 x16_2).f2) ((rd_T53 l0 x16_2).f3) ((rd_T53 l0 x16_2).f4) ((rd_T53 l0 x16_2).f5) ((rd_T53 l0 x16_2).f6))) else (subchannel_session.j2 k2 l0 l0 (l0.length : Int) x16_2 true ((rd_T53 l0 x16_2).f0) ((rd_T53 l0 x16_2).f1) ((rd_T53 l0 x16_2).f2) ((rd_T53 l0 x16_2).f3) ((rd_T53 l0 x16_2).f4) ((rd_T53 l0 x16_2).f5) ((rd_T53 l0 x16_2).f6))) = some r := H
                          have A20 := Aside0.mk A200
                          clear A200
                          by_cases c21 : t119 = true
                          · subst c21
                            have H1 : ((subchannel_end.f ((rd_T53 l0 x16_2).f0) ((rd_T53 l0 x16_2).f1) ((rd_T53 l0 x16_2).f2) ((rd_T53 l0 x16_2).f3) ((rd_T53 l0 x16_2).f4) ((rd_T53 l0 x16_2).f5) ((rd_T53 l0 x16_2).f6)).bind fun t120 => (subchannel_session.j2 k2 l0 l0 (l0.length : Int) x16_2 (decide (t120 > 449849)) ((rd_T53 l0 x16_2).f0) ((rd_T53 l0 x16_2).f1) ((rd_T53 l0 x16_2).f2) ((rd_T53 l0 x16_2).f3) ((rd_T53 l0 x16_2).f4) ((rd_T53 l0 x16_2).f5) ((rd_T53 l0 x16_2).f6))) = some r := by rw [if_pos rfl] at H; exact H
                            clear H
                            have H := H1
                            clear H1
                            replace H := Option.bind_eq_some_iff.mp H
                            obtain ⟨t120, A220, H⟩ := H
                            replace H : (subchannel_session.j2 k2 l0 l0 (l0.length : Int) x16_2 (decide (t120 > 449849)) ((rd_T53 l0 x16_2).f0) ((rd_T53 l0 x16_2).f1) ((rd_T53 l0 x16_2).f2) ((rd_T53 l0 x16_2).f3) ((rd_T53 l0 x16_2).f4) ((rd_T53 l0 x16_2).f5) ((rd_T53 l0 x16_2).f6)) = some r := H
                            have A22 := Aside0.mk A220
                            clear A220
                            have H' := Aside0.mk H
                            clear H
                            try go_wp2
                            have n0_ : Aside0 ((((((((w9.setCell ⟨gb115, 0, none⟩ (.int .i64 ((rd_T53 l0 x16_2).f0))).setCell ⟨gb115, 1, none⟩ (.int .i64 ((rd_T53 l0 x16_2).f1))).setCell ⟨gb115, 2, none⟩ (.int .i64 ((rd_T53 l0 x16_2).f2))).setCell ⟨gb115, 3, none⟩ (.int .i64 ((rd_T53 l0 x16_2).f3))).setCell ⟨gb115, 4, none⟩ (.int .i64 ((rd_T53 l0 x16_2).f4))).setCell ⟨gb115, 5, none⟩ (.int .i64 ((rd_T53 l0 x16_2).f5))).setCell ⟨gb115, 6, none⟩ (.int .i64 ((rd_T53 l0 x16_2).f6))).heap[gb115]? = some (.cells #[.int .i64 ((rd_T53 l0 x16_2).f0), .int .i64 ((rd_T53 l0 x16_2).f1), .int .i64 ((rd_T53 l0 x16_2).f2), .int .i64 ((rd_T53 l0 x16_2).f3), .int .i64 ((rd_T53 l0 x16_2).f4), .int .i64 ((rd_T53 l0 x16_2).f5), .int .i64 ((rd_T53 l0 x16_2).f6)] 53 (0, 0))) := ⟨by (with_reducible repeat (first | refine blk_drewN ?_ _ | refine blk_drew ?_ | refine blk_alloc ?_ _)); refine blk_put (cs := #[.int .i64 ((rd_T53 l0 x16_2).f0), .int .i64 ((rd_T53 l0 x16_2).f1), .int .i64 ((rd_T53 l0 x16_2).f2), .int .i64 ((rd_T53 l0 x16_2).f3), .int .i64 ((rd_T53 l0 x16_2).f4), .int .i64 ((rd_T53 l0 x16_2).f5), .int .i64 0]) ?_ 6 _ rfl; (with_reducible repeat (first | refine blk_drewN ?_ _ | refine blk_drew ?_ | refine blk_alloc ?_ _)); refine blk_put (cs := #[.int .i64 ((rd_T53 l0 x16_2).f0), .int .i64 ((rd_T53 l0 x16_2).f1), .int .i64 ((rd_T53 l0 x16_2).f2), .int .i64 ((rd_T53 l0 x16_2).f3), .int .i64 ((rd_T53 l0 x16_2).f4), .int .i64 0, .int .i64 0]) ?_ 5 _ rfl; (with_reducible repeat (first | refine blk_drewN ?_ _ | refine blk_drew ?_ | refine blk_alloc ?_ _)); refine blk_put (cs := #[.int .i64 ((rd_T53 l0 x16_2).f0), .int .i64 ((rd_T53 l0 x16_2).f1), .int .i64 ((rd_T53 l0 x16_2).f2), .int .i64 ((rd_T53 l0 x16_2).f3), .int .i64 0, .int .i64 0, .int .i64 0]) ?_ 4 _ rfl; (with_reducible repeat (first | refine blk_drewN ?_ _ | refine blk_drew ?_ | refine blk_alloc ?_ _)); refine blk_put (cs := #[.int .i64 ((rd_T53 l0 x16_2).f0), .int .i64 ((rd_T53 l0 x16_2).f1), .int .i64 ((rd_T53 l0 x16_2).f2), .int .i64 0, .int .i64 0, .int .i64 0, .int .i64 0]) ?_ 3 _ rfl; (with_reducible repeat (first | refine blk_drewN ?_ _ | refine blk_drew ?_ | refine blk_alloc ?_ _)); refine blk_put (cs := #[.int .i64 ((rd_T53 l0 x16_2).f0), .int .i64 ((rd_T53 l0 x16_2).f1), .int .i64 0, .int .i64 0, .int .i64 0, .int .i64 0, .int .i64 0]) ?_ 2 _ rfl; (with_reducible repeat (first | refine blk_drewN ?_ _ | refine blk_drew ?_ | refine blk_alloc ?_ _)); refine blk_put (cs := #[.int .i64 ((rd_T53 l0 x16_2).f0), .int .i64 0, .int .i64 0, .int .i64 0, .int .i64 0, .int .i64 0, .int .i64 0]) ?_ 1 _ rfl; (with_reducible repeat (first | refine blk_drewN ?_ _ | refine blk_drew ?_ | refine blk_alloc ?_ _)); refine blk_put (cs := #[.int .i64 0, .int .i64 0, .int .i64 0, .int .i64 0, .int .i64 0, .int .i64 0, .int .i64 0]) ?_ 0 _ rfl; (with_reducible repeat (first | refine blk_drewN ?_ _ | refine blk_drew ?_ | refine blk_alloc ?_ _)); exact BK115.out⟩
                            have n1_ : Aside0 (Below w.heap.size w (((((((w9.setCell ⟨gb115, 0, none⟩ (.int .i64 ((rd_T53 l0 x16_2).f0))).setCell ⟨gb115, 1, none⟩ (.int .i64 ((rd_T53 l0 x16_2).f1))).setCell ⟨gb115, 2, none⟩ (.int .i64 ((rd_T53 l0 x16_2).f2))).setCell ⟨gb115, 3, none⟩ (.int .i64 ((rd_T53 l0 x16_2).f3))).setCell ⟨gb115, 4, none⟩ (.int .i64 ((rd_T53 l0 x16_2).f4))).setCell ⟨gb115, 5, none⟩ (.int .i64 ((rd_T53 l0 x16_2).f5))).setCell ⟨gb115, 6, none⟩ (.int .i64 ((rd_T53 l0 x16_2).f6)))) := ⟨by repeat (first | (with_reducible first | exact HB.out | apply below_alloc | apply pw_below_drewN | apply below_drew1 | refine below_set ?_ GE115.out) | exact HB.out)⟩
                            (try clear BK115)
                            (try clear HB)
                            generalize (((((((w9.setCell ⟨gb115, 0, none⟩ (.int .i64 ((rd_T53 l0 x16_2).f0))).setCell ⟨gb115, 1, none⟩ (.int .i64 ((rd_T53 l0 x16_2).f1))).setCell ⟨gb115, 2, none⟩ (.int .i64 ((rd_T53 l0 x16_2).f2))).setCell ⟨gb115, 3, none⟩ (.int .i64 ((rd_T53 l0 x16_2).f3))).setCell ⟨gb115, 4, none⟩ (.int .i64 ((rd_T53 l0 x16_2).f4))).setCell ⟨gb115, 5, none⟩ (.int .i64 ((rd_T53 l0 x16_2).f5))).setCell ⟨gb115, 6, none⟩ (.int .i64 ((rd_T53 l0 x16_2).f6))) = w23 at n0_ n1_ ⊢
                            have BK115 := n0_
                            have HB := n1_
                            clear n0_ n1_
                            have n0_ := Aside0.mk (blk_drew BK115.out)
                            have n1_ := Aside0.mk (below_drew1 HB.out)
                            clear BK115
                            clear HB
                            have BK115 := n0_
                            have HB := n1_
                            clear n0_ n1_
                            have p117 : 0 ≤ ((ji14) : Int) := of_decide_eq_true (by first | (with_reducible assumption) | assumption)
                            have q117 : (ji14) < (l0.length : Int) := of_decide_eq_true (by first | (with_reducible assumption) | assumption)
                            obtain ⟨ad117, e117, hx117_0, hx117_1, hx117_2, hx117_3, hx117_4, hx117_5, hx117_6⟩ := at_T53 HR0.out (ji14) p117 q117
                            have hw117_6 := hx117_6
                            have hw117_5 := hx117_5
                            have hw117_4 := hx117_4
                            have hw117_3 := hx117_3
                            have hw117_2 := hx117_2
                            have hw117_1 := hx117_1
                            have hw117_0 := hx117_0
                            obtain rfl : ad114 = ad117 := (by injection e117)
                            replace hx117_0 := upc HB.out hx117_0
                            replace hx117_1 := upc HB.out hx117_1
                            replace hx117_2 := upc HB.out hx117_2
                            replace hx117_3 := upc HB.out hx117_3
                            replace hx117_4 := upc HB.out hx117_4
                            replace hx117_5 := upc HB.out hx117_5
                            replace hx117_6 := upc HB.out hx117_6
                            replace p117 := eq_true p117
                            replace q117 := eq_true q117
                            refine start_ (n := 38) (S := fun w' => w'.cell? ⟨gb115, 0, none⟩ = some (.int .i64 ((rd_T53 l0 x16_2).f0)) ∧ w'.cell? ⟨gb115, 1, none⟩ = some (.int .i64 ((rd_T53 l0 x16_2).f1)) ∧ w'.cell? ⟨gb115, 2, none⟩ = some (.int .i64 ((rd_T53 l0 x16_2).f2)) ∧ w'.cell? ⟨gb115, 3, none⟩ = some (.int .i64 ((rd_T53 l0 x16_2).f3)) ∧ w'.cell? ⟨gb115, 4, none⟩ = some (.int .i64 ((rd_T53 l0 x16_2).f4)) ∧ w'.cell? ⟨gb115, 5, none⟩ = some (.int .i64 ((rd_T53 l0 x16_2).f5)) ∧ w'.cell? ⟨gb115, 6, none⟩ = some (.int .i64 ((rd_T53 l0 x16_2).f6)) ∧ w'.cell? (ad114.add (((ji14)).toNat * 7)) = some (.int .i64 ((rd_T53 l0 (ji14)).f0)) ∧ w'.cell? ⟨(ad114.add (((ji14)).toNat * 7)).block, (ad114.add (((ji14)).toNat * 7)).off + 1, none⟩ = some (.int .i64 ((rd_T53 l0 (ji14)).f1)) ∧ w'.cell? ⟨(ad114.add (((ji14)).toNat * 7)).block, (ad114.add (((ji14)).toNat * 7)).off + 2, none⟩ = some (.int .i64 ((rd_T53 l0 (ji14)).f2)) ∧ w'.cell? ⟨(ad114.add (((ji14)).toNat * 7)).block, (ad114.add (((ji14)).toNat * 7)).off + 3, none⟩ = some (.int .i64 ((rd_T53 l0 (ji14)).f3)) ∧ w'.cell? ⟨(ad114.add (((ji14)).toNat * 7)).block, (ad114.add (((ji14)).toNat * 7)).off + 4, none⟩ = some (.int .i64 ((rd_T53 l0 (ji14)).f4)) ∧ w'.cell? ⟨(ad114.add (((ji14)).toNat * 7)).block, (ad114.add (((ji14)).toNat * 7)).off + 5, none⟩ = some (.int .i64 ((rd_T53 l0 (ji14)).f5)) ∧ w'.cell? ⟨(ad114.add (((ji14)).toNat * 7)).block, (ad114.add (((ji14)).toNat * 7)).off + 6, none⟩ = some (.int .i64 ((rd_T53 l0 (ji14)).f6))) (ds := []) #[false, false, false, false, false, false, false, false, false, false, false, false, false, false, false, false, false, false, false, false, false, false, false, false, false, false, false, false, false, false, false, false, false, false, false, false, false, false] (by kernel_rfl) rfl rfl ⟨(blk_cell BK115.out 0).trans rfl, (blk_cell BK115.out 1).trans rfl, (blk_cell BK115.out 2).trans rfl, (blk_cell BK115.out 3).trans rfl, (blk_cell BK115.out 4).trans rfl, (blk_cell BK115.out 5).trans rfl, (blk_cell BK115.out 6).trans rfl, ((HB.out.cell (World.block_lt_of_cell? w _ hw117_0)).trans hw117_0), ((HB.out.cell (World.block_lt_of_cell? w _ hw117_1)).trans hw117_1), ((HB.out.cell (World.block_lt_of_cell? w _ hw117_2)).trans hw117_2), ((HB.out.cell (World.block_lt_of_cell? w _ hw117_3)).trans hw117_3), ((HB.out.cell (World.block_lt_of_cell? w _ hw117_4)).trans hw117_4), ((HB.out.cell (World.block_lt_of_cell? w _ hw117_5)).trans hw117_5), ((HB.out.cell (World.block_lt_of_cell? w _ hw117_6)).trans hw117_6)⟩ (fun hHeld => ?_); refine with_tabW subchannel_session.tab7 subchannel_session.bits7 (fun HT_ HW_ => ?_)
                            generalize w23.drew = w24 at BK115 HB hx117_0 hx117_1 hx117_2 hx117_3 hx117_4 hx117_5 hx117_6 hHeld ⊢
                            refine pure_ (i := 0) (N := some 21) (v := ?_) (a' := ?_) (mS 38 1) rfl rfl (any_of HT_.out (by kernel_rfl)) (fun _ _ _ h => h) (Or.inl ⟨by rfl, ?_⟩) ?_ ?_
                            rotate_left
                            · intro w'
                              go_simp
                              with_reducible rfl
                            rotate_left
                            · simp only [Act.put, List.setIfInBounds_toArray, List.set_cons_zero, List.set_cons_succ, i64_w, i32_w]
                              rfl
                            refine take_ (i := 1) (N := some 22) (v := ?_) (a' := ?_) (mS 38 3) rfl rfl (take_ofW HT_.out HW_.out (by kernel_rfl)) (fun _ _ _ h => h) (Or.inl ⟨by rfl, ?_⟩) hHeld ?_ ?_
                            rotate_left
                            · rintro w' ⟨s0, s1, s2, s3, s4, s5, s6, s7, s8, s9, s10, s11, s12, s13⟩
                              go_simp
                              with_reducible rfl
                            rotate_left
                            · simp only [Act.put, List.setIfInBounds_toArray, List.set_cons_zero, List.set_cons_succ, i64_w, i32_w]
                              rfl
                            refine one_ (i := 2) (N := some 23) (mS 38 7) rfl rfl (one_of HT_.out (by kernel_rfl)) (by decide) (fun K hK => ?_)
                            refine goes_ Try.func26 (by kernel_rfl) rfl #[.int .i64 ((rd_T53 l0 x16_2).f0), .int .i64 1, .int .i64 99] (by rfl) rfl rfl (by (try simp only [List.map_toArray, List.map_cons, List.map_nil]); first | done | rfl | (simp only [List.length_drop, List.length_take]; rfl)) ?_
                            with_reducible refine (subchannel_between.calls ((rd_T53 l0 x16_2).f0) 1 99 true _ A11.out).mono ?_
                            rintro e w' ⟨rfl, ⟨nd, rfl⟩⟩
                            refine ⟨_, rfl, ?_⟩
                            refine hK.out _ _ ⟨(blk_cell BK115.out 0).trans rfl, (blk_cell BK115.out 1).trans rfl, (blk_cell BK115.out 2).trans rfl, (blk_cell BK115.out 3).trans rfl, (blk_cell BK115.out 4).trans rfl, (blk_cell BK115.out 5).trans rfl, (blk_cell BK115.out 6).trans rfl, ((HB.out.cell (World.block_lt_of_cell? w _ hw117_0)).trans hw117_0), ((HB.out.cell (World.block_lt_of_cell? w _ hw117_1)).trans hw117_1), ((HB.out.cell (World.block_lt_of_cell? w _ hw117_2)).trans hw117_2), ((HB.out.cell (World.block_lt_of_cell? w _ hw117_3)).trans hw117_3), ((HB.out.cell (World.block_lt_of_cell? w _ hw117_4)).trans hw117_4), ((HB.out.cell (World.block_lt_of_cell? w _ hw117_5)).trans hw117_5), ((HB.out.cell (World.block_lt_of_cell? w _ hw117_6)).trans hw117_6)⟩ (fun hHeld => ?_)
                            clear hK K
                            refine norm_ (a' := ?_) ?_ ?_
                            rotate_left
                            · show Act.put _ (some 23) _ = _
                              simp only [Act.put, List.setIfInBounds_toArray, List.set_cons_zero, List.set_cons_succ, i64_w, i32_w]
                              rfl
                            refine pure_ (i := 3) (N := some 24) (v := ?_) (a' := ?_) (mS 38 15) rfl rfl (any_of HT_.out (by kernel_rfl)) (fun _ _ _ h => h) (Or.inl ⟨by rfl, ?_⟩) ?_ ?_
                            rotate_left
                            · intro w'
                              go_simp
                              with_reducible rfl
                            rotate_left
                            · simp only [Act.put, List.setIfInBounds_toArray, List.set_cons_zero, List.set_cons_succ, i64_w, i32_w]
                              rfl
                            refine pure_ (i := 4) (N := some 25) (v := ?_) (a' := ?_) (mS 38 31) rfl rfl (any_of HT_.out (by kernel_rfl)) (fun _ _ _ h => h) (Or.inl ⟨by rfl, ?_⟩) ?_ ?_
                            rotate_left
                            · intro w'
                              go_simp
                              with_reducible rfl
                            rotate_left
                            · simp only [Act.put, List.setIfInBounds_toArray, List.set_cons_zero, List.set_cons_succ, i64_w, i32_w]
                              rfl
                            refine pure_ (i := 5) (N := some 26) (v := ?_) (a' := ?_) (mS 38 63) rfl rfl (any_of HT_.out (by kernel_rfl)) (fun _ _ _ h => h) (Or.inl ⟨by rfl, ?_⟩) ?_ ?_
                            rotate_left
                            · intro w'
                              go_simp
                              with_reducible rfl
                            rotate_left
                            · simp only [Act.put, List.setIfInBounds_toArray, List.set_cons_zero, List.set_cons_succ, i64_w, i32_w]
                              rfl
                            refine pure_ (i := 6) (N := some 27) (v := ?_) (a' := ?_) (mS 38 127) rfl rfl (any_of HT_.out (by kernel_rfl)) (fun _ _ _ h => h) (Or.inl ⟨by rfl, ?_⟩) ?_ ?_
                            rotate_left
                            · intro w'
                              go_simp
                              with_reducible rfl
                            rotate_left
                            · simp only [Act.put, List.setIfInBounds_toArray, List.set_cons_zero, List.set_cons_succ, i64_w, i32_w]
                              rfl
                            refine pure_ (i := 7) (N := some 28) (v := ?_) (a' := ?_) (mS 38 255) rfl rfl (any_of HT_.out (by kernel_rfl)) (fun _ _ _ h => h) (Or.inl ⟨by rfl, ?_⟩) ?_ ?_
                            rotate_left
                            · intro w'
                              go_simp
                              with_reducible rfl
                            rotate_left
                            · simp only [Act.put, List.setIfInBounds_toArray, List.set_cons_zero, List.set_cons_succ, i64_w, i32_w]
                              rfl
                            refine pure_ (i := 8) (N := some 29) (v := ?_) (a' := ?_) (mS 38 511) rfl rfl (any_of HT_.out (by kernel_rfl)) (fun _ _ _ h => h) (Or.inl ⟨by rfl, ?_⟩) ?_ ?_
                            rotate_left
                            · intro w'
                              go_simp
                              with_reducible rfl
                            rotate_left
                            · simp only [Act.put, List.setIfInBounds_toArray, List.set_cons_zero, List.set_cons_succ, i64_w, i32_w]
                              rfl
                            refine pure_ (i := 10) (N := some 31) (v := ?_) (a' := ?_) (mS 38 1535) rfl rfl (any_of HT_.out (by kernel_rfl)) (fun _ _ _ h => h) (Or.inl ⟨by rfl, ?_⟩) ?_ ?_
                            rotate_left
                            · intro w'
                              go_simp
                              with_reducible rfl
                            rotate_left
                            · simp only [Act.put, List.setIfInBounds_toArray, List.set_cons_zero, List.set_cons_succ, i64_w, i32_w]
                              rfl
                            refine pure_ (i := 11) (N := some 32) (v := ?_) (a' := ?_) (mS 38 3583) rfl rfl (any_of HT_.out (by kernel_rfl)) (fun _ _ _ h => h) (Or.inl ⟨by rfl, ?_⟩) ?_ ?_
                            rotate_left
                            · intro w'
                              go_simp
                              with_reducible rfl
                            rotate_left
                            · simp only [Act.put, List.setIfInBounds_toArray, List.set_cons_zero, List.set_cons_succ, i64_w, i32_w]
                              rfl
                            refine pure_ (i := 12) (N := some 33) (v := ?_) (a' := ?_) (mS 38 7679) rfl rfl (any_of HT_.out (by kernel_rfl)) (fun _ _ _ h => h) (Or.inl ⟨by rfl, ?_⟩) ?_ ?_
                            rotate_left
                            · intro w'
                              go_simp
                              with_reducible rfl
                            rotate_left
                            · simp only [Act.put, List.setIfInBounds_toArray, List.set_cons_zero, List.set_cons_succ, i64_w, i32_w]
                              rfl
                            refine pure_ (i := 13) (N := some 34) (v := ?_) (a' := ?_) (mS 38 15871) rfl rfl (any_of HT_.out (by kernel_rfl)) (fun _ _ _ h => h) (Or.inl ⟨by rfl, ?_⟩) ?_ ?_
                            rotate_left
                            · intro w'
                              go_simp
                              with_reducible rfl
                            rotate_left
                            · simp only [Act.put, List.setIfInBounds_toArray, List.set_cons_zero, List.set_cons_succ, i64_w, i32_w]
                              rfl
                            refine pure_ (i := 14) (N := some 35) (v := ?_) (a' := ?_) (mS 38 32255) rfl rfl (any_of HT_.out (by kernel_rfl)) (fun _ _ _ h => h) (Or.inl ⟨by rfl, ?_⟩) ?_ ?_
                            rotate_left
                            · intro w'
                              go_simp
                              with_reducible rfl
                            rotate_left
                            · simp only [Act.put, List.setIfInBounds_toArray, List.set_cons_zero, List.set_cons_succ, i64_w, i32_w]
                              rfl
                            refine take_ (i := 9) (N := some 30) (v := ?_) (a' := ?_) (mS 38 32767) rfl rfl (take_ofW HT_.out HW_.out (by kernel_rfl)) (fun _ _ _ h => h) (Or.inl ⟨by rfl, ?_⟩) hHeld ?_ ?_
                            rotate_left
                            · rintro w' ⟨s0, s1, s2, s3, s4, s5, s6, s7, s8, s9, s10, s11, s12, s13⟩
                              go_simp
                              with_reducible rfl
                            rotate_left
                            · simp only [Act.put, List.setIfInBounds_toArray, List.set_cons_zero, List.set_cons_succ, i64_w, i32_w]
                              rfl
                            refine take_ (i := 15) (N := some 36) (v := ?_) (a' := ?_) (mS 38 65535) rfl rfl (take_ofW HT_.out HW_.out (by kernel_rfl)) (fun _ _ _ h => h) (Or.inl ⟨by rfl, ?_⟩) hHeld ?_ ?_
                            rotate_left
                            · rintro w' ⟨s0, s1, s2, s3, s4, s5, s6, s7, s8, s9, s10, s11, s12, s13⟩
                              go_simp
                              with_reducible rfl
                            rotate_left
                            · simp only [Act.put, List.setIfInBounds_toArray, List.set_cons_zero, List.set_cons_succ, i64_w, i32_w]
                              rfl
                            refine pure_ (i := 16) (N := some 37) (v := ?_) (a' := ?_) (mS 38 131071) rfl rfl (any_of HT_.out (by kernel_rfl)) (fun _ _ _ h => h) (Or.inl ⟨by rfl, ?_⟩) ?_ ?_
                            rotate_left
                            · intro w'
                              go_simp
                              with_reducible rfl
                            rotate_left
                            · simp only [Act.put, List.setIfInBounds_toArray, List.set_cons_zero, List.set_cons_succ, i64_w, i32_w]
                              rfl
                            refine pure_ (i := 17) (N := some 38) (v := ?_) (a' := ?_) (mS 38 262143) rfl rfl (any_of HT_.out (by kernel_rfl)) (fun _ _ _ h => h) (Or.inl ⟨by rfl, ?_⟩) ?_ ?_
                            rotate_left
                            · intro w'
                              go_simp
                              with_reducible rfl
                            rotate_left
                            · simp only [Act.put, List.setIfInBounds_toArray, List.set_cons_zero, List.set_cons_succ, i64_w, i32_w]
                              rfl
                            refine pure_ (i := 18) (N := some 39) (v := ?_) (a' := ?_) (mS 38 524287) rfl rfl (any_of HT_.out (by kernel_rfl)) (fun _ _ _ h => h) (Or.inl ⟨by rfl, ?_⟩) ?_ ?_
                            rotate_left
                            · intro w'
                              go_simp
                              with_reducible rfl
                            rotate_left
                            · simp only [Act.put, List.setIfInBounds_toArray, List.set_cons_zero, List.set_cons_succ, i64_w, i32_w]
                              rfl
                            refine pure_ (i := 19) (N := some 40) (v := ?_) (a' := ?_) (mS 38 1048575) rfl rfl (any_of HT_.out (by kernel_rfl)) (fun _ _ _ h => h) (Or.inl ⟨by rfl, ?_⟩) ?_ ?_
                            rotate_left
                            · intro w'
                              go_simp
                              with_reducible rfl
                            rotate_left
                            · simp only [Act.put, List.setIfInBounds_toArray, List.set_cons_zero, List.set_cons_succ, i64_w, i32_w]
                              rfl
                            refine pure_ (i := 20) (N := some 41) (v := ?_) (a' := ?_) (mS 38 2097151) rfl rfl (any_of HT_.out (by kernel_rfl)) (fun _ _ _ h => h) (Or.inl ⟨by rfl, ?_⟩) ?_ ?_
                            rotate_left
                            · intro w'
                              go_simp
                              with_reducible rfl
                            rotate_left
                            · simp only [Act.put, List.setIfInBounds_toArray, List.set_cons_zero, List.set_cons_succ, i64_w, i32_w]
                              rfl
                            refine pure_ (i := 21) (N := some 42) (v := ?_) (a' := ?_) (mS 38 4194303) rfl rfl (any_of HT_.out (by kernel_rfl)) (fun _ _ _ h => h) (Or.inl ⟨by rfl, ?_⟩) ?_ ?_
                            rotate_left
                            · intro w'
                              go_simp
                              with_reducible rfl
                            rotate_left
                            · simp only [Act.put, List.setIfInBounds_toArray, List.set_cons_zero, List.set_cons_succ, i64_w, i32_w]
                              rfl
                            refine pure_ (i := 23) (N := some 44) (v := ?_) (a' := ?_) (mS 38 12582911) rfl rfl (any_of HT_.out (by kernel_rfl)) (fun _ _ _ h => h) (Or.inl ⟨by rfl, ?_⟩) ?_ ?_
                            rotate_left
                            · intro w'
                              go_simp
                              with_reducible rfl
                            rotate_left
                            · simp only [Act.put, List.setIfInBounds_toArray, List.set_cons_zero, List.set_cons_succ, i64_w, i32_w]
                              rfl
                            refine take_ (i := 22) (N := some 43) (v := ?_) (a' := ?_) (mS 38 16777215) rfl rfl (take_ofW HT_.out HW_.out (by kernel_rfl)) (fun _ _ _ h => h) (Or.inl ⟨by rfl, ?_⟩) hHeld ?_ ?_
                            rotate_left
                            · rintro w' ⟨s0, s1, s2, s3, s4, s5, s6, s7, s8, s9, s10, s11, s12, s13⟩
                              go_simp
                              with_reducible rfl
                            rotate_left
                            · simp only [Act.put, List.setIfInBounds_toArray, List.set_cons_zero, List.set_cons_succ, i64_w, i32_w]
                              rfl
                            refine one_ (i := 24) (N := some 45) (mS 38 33554431) rfl rfl (one_of HT_.out (by kernel_rfl)) (by decide) (fun K hK => ?_)
                            refine goes_ Try.func26 (by kernel_rfl) rfl #[.int .i64 ((rd_T53 l0 x16_2).f2), .int .i64 x3_2, .int .i64 449849] (by rfl) rfl rfl (by (try simp only [List.map_toArray, List.map_cons, List.map_nil]); first | done | rfl | (simp only [List.length_drop, List.length_take]; rfl)) ?_
                            with_reducible refine (subchannel_between.calls ((rd_T53 l0 x16_2).f2) x3_2 449849 true _ A18.out).mono ?_
                            rintro e w' ⟨rfl, ⟨nd, rfl⟩⟩
                            refine ⟨_, rfl, ?_⟩
                            refine hK.out _ _ ⟨(blk_cell BK115.out 0).trans rfl, (blk_cell BK115.out 1).trans rfl, (blk_cell BK115.out 2).trans rfl, (blk_cell BK115.out 3).trans rfl, (blk_cell BK115.out 4).trans rfl, (blk_cell BK115.out 5).trans rfl, (blk_cell BK115.out 6).trans rfl, ((HB.out.cell (World.block_lt_of_cell? w _ hw117_0)).trans hw117_0), ((HB.out.cell (World.block_lt_of_cell? w _ hw117_1)).trans hw117_1), ((HB.out.cell (World.block_lt_of_cell? w _ hw117_2)).trans hw117_2), ((HB.out.cell (World.block_lt_of_cell? w _ hw117_3)).trans hw117_3), ((HB.out.cell (World.block_lt_of_cell? w _ hw117_4)).trans hw117_4), ((HB.out.cell (World.block_lt_of_cell? w _ hw117_5)).trans hw117_5), ((HB.out.cell (World.block_lt_of_cell? w _ hw117_6)).trans hw117_6)⟩ (fun hHeld => ?_)
                            clear hK K
                            refine norm_ (a' := ?_) ?_ ?_
                            rotate_left
                            · show Act.put _ (some 45) _ = _
                              simp only [Act.put, List.setIfInBounds_toArray, List.set_cons_zero, List.set_cons_succ, i64_w, i32_w]
                              rfl
                            refine pure_ (i := 25) (N := some 46) (v := ?_) (a' := ?_) (mS 38 67108863) rfl rfl (any_of HT_.out (by kernel_rfl)) (fun _ _ _ h => h) (Or.inl ⟨by rfl, ?_⟩) ?_ ?_
                            rotate_left
                            · intro w'
                              go_simp
                              with_reducible rfl
                            rotate_left
                            · simp only [Act.put, List.setIfInBounds_toArray, List.set_cons_zero, List.set_cons_succ, i64_w, i32_w]
                              rfl
                            refine pure_ (i := 26) (N := some 47) (v := ?_) (a' := ?_) (mS 38 134217727) rfl rfl (any_of HT_.out (by kernel_rfl)) (fun _ _ _ h => h) (Or.inl ⟨by rfl, ?_⟩) ?_ ?_
                            rotate_left
                            · intro w'
                              go_simp
                              with_reducible rfl
                            rotate_left
                            · simp only [Act.put, List.setIfInBounds_toArray, List.set_cons_zero, List.set_cons_succ, i64_w, i32_w]
                              rfl
                            refine pure_ (i := 27) (N := some 48) (v := ?_) (a' := ?_) (mS 38 268435455) rfl rfl (any_of HT_.out (by kernel_rfl)) (fun _ _ _ h => h) (Or.inl ⟨by rfl, ?_⟩) ?_ ?_
                            rotate_left
                            · intro w'
                              go_simp
                              with_reducible rfl
                            rotate_left
                            · simp only [Act.put, List.setIfInBounds_toArray, List.set_cons_zero, List.set_cons_succ, i64_w, i32_w]
                              rfl
                            refine pure_ (i := 28) (N := some 49) (v := ?_) (a' := ?_) (mS 38 536870911) rfl rfl (any_of HT_.out (by kernel_rfl)) (fun _ _ _ h => h) (Or.inl ⟨by rfl, ?_⟩) ?_ ?_
                            rotate_left
                            · intro w'
                              go_simp
                              with_reducible rfl
                            rotate_left
                            · simp only [Act.put, List.setIfInBounds_toArray, List.set_cons_zero, List.set_cons_succ, i64_w, i32_w]
                              rfl
                            refine take_ (i := 29) (N := some 50) (v := ?_) (a' := ?_) (mS 38 1073741823) rfl rfl (take_ofW HT_.out HW_.out (by kernel_rfl)) (fun _ _ _ h => h) (Or.inl ⟨by rfl, ?_⟩) hHeld ?_ ?_
                            rotate_left
                            · rintro w' ⟨s0, s1, s2, s3, s4, s5, s6, s7, s8, s9, s10, s11, s12, s13⟩
                              go_simp
                              with_reducible rfl
                            rotate_left
                            · simp only [Act.put, List.setIfInBounds_toArray, List.set_cons_zero, List.set_cons_succ, i64_w, i32_w]
                              rfl
                            refine one_ (i := 30) (N := some 51) (mS 38 2147483647) rfl rfl (one_of HT_.out (by kernel_rfl)) (by decide) (fun K hK => ?_)
                            refine goes_ Try.func26 (by kernel_rfl) rfl #[.int .i64 ((rd_T53 l0 x16_2).f3), .int .i64 1, .int .i64 449849] (by rfl) rfl rfl (by (try simp only [List.map_toArray, List.map_cons, List.map_nil]); first | done | rfl | (simp only [List.length_drop, List.length_take]; rfl)) ?_
                            with_reducible refine (subchannel_between.calls ((rd_T53 l0 x16_2).f3) 1 449849 true _ A20.out).mono ?_
                            rintro e w' ⟨rfl, ⟨nd, rfl⟩⟩
                            refine ⟨_, rfl, ?_⟩
                            refine hK.out _ _ ⟨(blk_cell BK115.out 0).trans rfl, (blk_cell BK115.out 1).trans rfl, (blk_cell BK115.out 2).trans rfl, (blk_cell BK115.out 3).trans rfl, (blk_cell BK115.out 4).trans rfl, (blk_cell BK115.out 5).trans rfl, (blk_cell BK115.out 6).trans rfl, ((HB.out.cell (World.block_lt_of_cell? w _ hw117_0)).trans hw117_0), ((HB.out.cell (World.block_lt_of_cell? w _ hw117_1)).trans hw117_1), ((HB.out.cell (World.block_lt_of_cell? w _ hw117_2)).trans hw117_2), ((HB.out.cell (World.block_lt_of_cell? w _ hw117_3)).trans hw117_3), ((HB.out.cell (World.block_lt_of_cell? w _ hw117_4)).trans hw117_4), ((HB.out.cell (World.block_lt_of_cell? w _ hw117_5)).trans hw117_5), ((HB.out.cell (World.block_lt_of_cell? w _ hw117_6)).trans hw117_6)⟩ (fun hHeld => ?_)
                            clear hK K
                            refine norm_ (a' := ?_) ?_ ?_
                            rotate_left
                            · show Act.put _ (some 51) _ = _
                              simp only [Act.put, List.setIfInBounds_toArray, List.set_cons_zero, List.set_cons_succ, i64_w, i32_w]
                              rfl
                            refine pure_ (i := 31) (N := some 52) (v := ?_) (a' := ?_) (mS 38 4294967295) rfl rfl (any_of HT_.out (by kernel_rfl)) (fun _ _ _ h => h) (Or.inl ⟨by rfl, ?_⟩) ?_ ?_
                            rotate_left
                            · intro w'
                              go_simp
                              with_reducible rfl
                            rotate_left
                            · simp only [Act.put, List.setIfInBounds_toArray, List.set_cons_zero, List.set_cons_succ, i64_w, i32_w]
                              rfl
                            refine pure_ (i := 32) (N := some 53) (v := ?_) (a' := ?_) (mS 38 8589934591) rfl rfl (any_of HT_.out (by kernel_rfl)) (fun _ _ _ h => h) (Or.inl ⟨by rfl, ?_⟩) ?_ ?_
                            rotate_left
                            · intro w'
                              go_simp
                              with_reducible rfl
                            rotate_left
                            · simp only [Act.put, List.setIfInBounds_toArray, List.set_cons_zero, List.set_cons_succ, i64_w, i32_w]
                              rfl
                            refine pure_ (i := 33) (N := some 54) (v := ?_) (a' := ?_) (mS 38 17179869183) rfl rfl (any_of HT_.out (by kernel_rfl)) (fun _ _ _ h => h) (Or.inl ⟨by rfl, ?_⟩) ?_ ?_
                            rotate_left
                            · intro w'
                              go_simp
                              with_reducible rfl
                            rotate_left
                            · simp only [Act.put, List.setIfInBounds_toArray, List.set_cons_zero, List.set_cons_succ, i64_w, i32_w]
                              rfl
                            refine take_ (i := 34) (N := some 55) (v := ?_) (a' := ?_) (mS 38 34359738367) rfl rfl (take_ofW HT_.out HW_.out (by kernel_rfl)) (fun _ _ _ h => h) (Or.inl ⟨by rfl, ?_⟩) hHeld ?_ ?_
                            rotate_left
                            · rintro w' ⟨s0, s1, s2, s3, s4, s5, s6, s7, s8, s9, s10, s11, s12, s13⟩
                              go_simp
                              with_reducible rfl
                            rotate_left
                            · simp only [Act.put, List.setIfInBounds_toArray, List.set_cons_zero, List.set_cons_succ, i64_w, i32_w]
                              rfl
                            refine one_ (i := 35) (N := some 56) (mS 38 68719476735) rfl rfl (one_of HT_.out (by kernel_rfl)) (by decide) (fun K hK => ?_)
                            refine goes_ Try.func30 (by kernel_rfl) rfl #[.agg #[.int .i64 ((rd_T53 l0 x16_2).f0), .int .i64 ((rd_T53 l0 x16_2).f1), .int .i64 ((rd_T53 l0 x16_2).f2), .int .i64 ((rd_T53 l0 x16_2).f3), .int .i64 ((rd_T53 l0 x16_2).f4), .int .i64 ((rd_T53 l0 x16_2).f5), .int .i64 ((rd_T53 l0 x16_2).f6)]] (by rfl) rfl rfl (by (try simp only [List.map_toArray, List.map_cons, List.map_nil]); first | done | rfl | (simp only [List.length_drop, List.length_take]; rfl)) ?_
                            with_reducible refine (subchannel_end.calls ((rd_T53 l0 x16_2).f0) ((rd_T53 l0 x16_2).f1) ((rd_T53 l0 x16_2).f2) ((rd_T53 l0 x16_2).f3) ((rd_T53 l0 x16_2).f4) ((rd_T53 l0 x16_2).f5) ((rd_T53 l0 x16_2).f6) t120 _ A22.out).mono ?_
                            rintro e w25 ⟨rfl, hb⟩
                            refine ⟨_, rfl, ?_⟩
                            have n0_ := Aside0.mk (blk_below (g := gb115) (o := .cells #[.int .i64 ((rd_T53 l0 x16_2).f0), .int .i64 ((rd_T53 l0 x16_2).f1), .int .i64 ((rd_T53 l0 x16_2).f2), .int .i64 ((rd_T53 l0 x16_2).f3), .int .i64 ((rd_T53 l0 x16_2).f4), .int .i64 ((rd_T53 l0 x16_2).f5), .int .i64 ((rd_T53 l0 x16_2).f6)] 53 (0, 0)) (by (with_reducible repeat (first | refine blk_drewN ?_ _ | refine blk_drew ?_ | refine blk_alloc ?_ _)); exact BK115.out) hb)
                            have n1_ := Aside0.mk (below_step (by repeat (first | (with_reducible first | exact HB.out | apply below_alloc | apply pw_below_drewN | apply below_drew1 | refine below_set ?_ GE115.out) | exact HB.out)) hb)
                            clear BK115
                            clear HB
                            have BK115 := n0_
                            have HB := n1_
                            clear n0_ n1_
                            (try clear hb)
                            (try clear hb2)
                            (try clear hk)
                            (try clear hi)
                            refine hK.out _ _ ⟨(blk_cell BK115.out 0).trans rfl, (blk_cell BK115.out 1).trans rfl, (blk_cell BK115.out 2).trans rfl, (blk_cell BK115.out 3).trans rfl, (blk_cell BK115.out 4).trans rfl, (blk_cell BK115.out 5).trans rfl, (blk_cell BK115.out 6).trans rfl, ((HB.out.cell (World.block_lt_of_cell? w _ hw117_0)).trans hw117_0), ((HB.out.cell (World.block_lt_of_cell? w _ hw117_1)).trans hw117_1), ((HB.out.cell (World.block_lt_of_cell? w _ hw117_2)).trans hw117_2), ((HB.out.cell (World.block_lt_of_cell? w _ hw117_3)).trans hw117_3), ((HB.out.cell (World.block_lt_of_cell? w _ hw117_4)).trans hw117_4), ((HB.out.cell (World.block_lt_of_cell? w _ hw117_5)).trans hw117_5), ((HB.out.cell (World.block_lt_of_cell? w _ hw117_6)).trans hw117_6)⟩ (fun hHeld => ?_)
                            clear hK K
                            refine norm_ (a' := ?_) ?_ ?_
                            rotate_left
                            · show Act.put _ (some 56) _ = _
                              simp only [Act.put, List.setIfInBounds_toArray, List.set_cons_zero, List.set_cons_succ, i64_w, i32_w]
                              rfl
                            refine pure_ (i := 36) (N := some 57) (v := ?_) (a' := ?_) (mS 38 137438953471) rfl rfl (any_of HT_.out (by kernel_rfl)) (fun _ _ _ h => h) (Or.inl ⟨by rfl, ?_⟩) ?_ ?_
                            rotate_left
                            · intro w'
                              go_simp
                              with_reducible rfl
                            rotate_left
                            · simp only [Act.put, List.setIfInBounds_toArray, List.set_cons_zero, List.set_cons_succ, i64_w, i32_w]
                              rfl
                            refine pure_ (i := 37) (N := some 58) (v := ?_) (a' := ?_) (mS 38 274877906943) rfl rfl (any_of HT_.out (by kernel_rfl)) (fun _ _ _ h => h) (Or.inl ⟨by rfl, ?_⟩) ?_ ?_
                            rotate_left
                            · intro w'
                              go_simp
                              with_reducible rfl
                            rotate_left
                            · simp only [Act.put, List.setIfInBounds_toArray, List.set_cons_zero, List.set_cons_succ, i64_w, i32_w]
                              rfl
                            refine done_ (done_of HT_.out (by kernel_rfl)) ?_
                            try go_wp2
                            go_meet
                            case rel => exact ⟨_, (decide (t120 > 449849)), (by first | rfl | (simp; done) | (simp [*]; done)), H', ⟨by have := HJ1.out; have := HK2.out; first | omega | exact Nat.le_refl _⟩, ⟨by (with_reducible repeat (first | refine blk_drewN ?_ _ | refine blk_drew ?_ | refine blk_alloc ?_ _)); exact BK115.out⟩, ⟨by repeat (first | (with_reducible first | exact HB.out | apply below_alloc | apply pw_below_drewN | apply below_drew1 | refine below_set ?_ GE115.out) | exact HB.out)⟩⟩
                          · replace c21 := Bool.eq_false_iff.mpr c21
                            subst c21
                            have H1 : (subchannel_session.j2 k2 l0 l0 (l0.length : Int) x16_2 true ((rd_T53 l0 x16_2).f0) ((rd_T53 l0 x16_2).f1) ((rd_T53 l0 x16_2).f2) ((rd_T53 l0 x16_2).f3) ((rd_T53 l0 x16_2).f4) ((rd_T53 l0 x16_2).f5) ((rd_T53 l0 x16_2).f6)) = some r := by rw [if_neg (show ¬ (false = true) by decide)] at H; exact H
                            clear H
                            have H := H1
                            clear H1
                            have H' := Aside0.mk H
                            clear H
                            try go_wp2
                            have n0_ : Aside0 ((((((((w9.setCell ⟨gb115, 0, none⟩ (.int .i64 ((rd_T53 l0 x16_2).f0))).setCell ⟨gb115, 1, none⟩ (.int .i64 ((rd_T53 l0 x16_2).f1))).setCell ⟨gb115, 2, none⟩ (.int .i64 ((rd_T53 l0 x16_2).f2))).setCell ⟨gb115, 3, none⟩ (.int .i64 ((rd_T53 l0 x16_2).f3))).setCell ⟨gb115, 4, none⟩ (.int .i64 ((rd_T53 l0 x16_2).f4))).setCell ⟨gb115, 5, none⟩ (.int .i64 ((rd_T53 l0 x16_2).f5))).setCell ⟨gb115, 6, none⟩ (.int .i64 ((rd_T53 l0 x16_2).f6))).heap[gb115]? = some (.cells #[.int .i64 ((rd_T53 l0 x16_2).f0), .int .i64 ((rd_T53 l0 x16_2).f1), .int .i64 ((rd_T53 l0 x16_2).f2), .int .i64 ((rd_T53 l0 x16_2).f3), .int .i64 ((rd_T53 l0 x16_2).f4), .int .i64 ((rd_T53 l0 x16_2).f5), .int .i64 ((rd_T53 l0 x16_2).f6)] 53 (0, 0))) := ⟨by (with_reducible repeat (first | refine blk_drewN ?_ _ | refine blk_drew ?_ | refine blk_alloc ?_ _)); refine blk_put (cs := #[.int .i64 ((rd_T53 l0 x16_2).f0), .int .i64 ((rd_T53 l0 x16_2).f1), .int .i64 ((rd_T53 l0 x16_2).f2), .int .i64 ((rd_T53 l0 x16_2).f3), .int .i64 ((rd_T53 l0 x16_2).f4), .int .i64 ((rd_T53 l0 x16_2).f5), .int .i64 0]) ?_ 6 _ rfl; (with_reducible repeat (first | refine blk_drewN ?_ _ | refine blk_drew ?_ | refine blk_alloc ?_ _)); refine blk_put (cs := #[.int .i64 ((rd_T53 l0 x16_2).f0), .int .i64 ((rd_T53 l0 x16_2).f1), .int .i64 ((rd_T53 l0 x16_2).f2), .int .i64 ((rd_T53 l0 x16_2).f3), .int .i64 ((rd_T53 l0 x16_2).f4), .int .i64 0, .int .i64 0]) ?_ 5 _ rfl; (with_reducible repeat (first | refine blk_drewN ?_ _ | refine blk_drew ?_ | refine blk_alloc ?_ _)); refine blk_put (cs := #[.int .i64 ((rd_T53 l0 x16_2).f0), .int .i64 ((rd_T53 l0 x16_2).f1), .int .i64 ((rd_T53 l0 x16_2).f2), .int .i64 ((rd_T53 l0 x16_2).f3), .int .i64 0, .int .i64 0, .int .i64 0]) ?_ 4 _ rfl; (with_reducible repeat (first | refine blk_drewN ?_ _ | refine blk_drew ?_ | refine blk_alloc ?_ _)); refine blk_put (cs := #[.int .i64 ((rd_T53 l0 x16_2).f0), .int .i64 ((rd_T53 l0 x16_2).f1), .int .i64 ((rd_T53 l0 x16_2).f2), .int .i64 0, .int .i64 0, .int .i64 0, .int .i64 0]) ?_ 3 _ rfl; (with_reducible repeat (first | refine blk_drewN ?_ _ | refine blk_drew ?_ | refine blk_alloc ?_ _)); refine blk_put (cs := #[.int .i64 ((rd_T53 l0 x16_2).f0), .int .i64 ((rd_T53 l0 x16_2).f1), .int .i64 0, .int .i64 0, .int .i64 0, .int .i64 0, .int .i64 0]) ?_ 2 _ rfl; (with_reducible repeat (first | refine blk_drewN ?_ _ | refine blk_drew ?_ | refine blk_alloc ?_ _)); refine blk_put (cs := #[.int .i64 ((rd_T53 l0 x16_2).f0), .int .i64 0, .int .i64 0, .int .i64 0, .int .i64 0, .int .i64 0, .int .i64 0]) ?_ 1 _ rfl; (with_reducible repeat (first | refine blk_drewN ?_ _ | refine blk_drew ?_ | refine blk_alloc ?_ _)); refine blk_put (cs := #[.int .i64 0, .int .i64 0, .int .i64 0, .int .i64 0, .int .i64 0, .int .i64 0, .int .i64 0]) ?_ 0 _ rfl; (with_reducible repeat (first | refine blk_drewN ?_ _ | refine blk_drew ?_ | refine blk_alloc ?_ _)); exact BK115.out⟩
                            have n1_ : Aside0 (Below w.heap.size w (((((((w9.setCell ⟨gb115, 0, none⟩ (.int .i64 ((rd_T53 l0 x16_2).f0))).setCell ⟨gb115, 1, none⟩ (.int .i64 ((rd_T53 l0 x16_2).f1))).setCell ⟨gb115, 2, none⟩ (.int .i64 ((rd_T53 l0 x16_2).f2))).setCell ⟨gb115, 3, none⟩ (.int .i64 ((rd_T53 l0 x16_2).f3))).setCell ⟨gb115, 4, none⟩ (.int .i64 ((rd_T53 l0 x16_2).f4))).setCell ⟨gb115, 5, none⟩ (.int .i64 ((rd_T53 l0 x16_2).f5))).setCell ⟨gb115, 6, none⟩ (.int .i64 ((rd_T53 l0 x16_2).f6)))) := ⟨by repeat (first | (with_reducible first | exact HB.out | apply below_alloc | apply pw_below_drewN | apply below_drew1 | refine below_set ?_ GE115.out) | exact HB.out)⟩
                            (try clear BK115)
                            (try clear HB)
                            generalize (((((((w9.setCell ⟨gb115, 0, none⟩ (.int .i64 ((rd_T53 l0 x16_2).f0))).setCell ⟨gb115, 1, none⟩ (.int .i64 ((rd_T53 l0 x16_2).f1))).setCell ⟨gb115, 2, none⟩ (.int .i64 ((rd_T53 l0 x16_2).f2))).setCell ⟨gb115, 3, none⟩ (.int .i64 ((rd_T53 l0 x16_2).f3))).setCell ⟨gb115, 4, none⟩ (.int .i64 ((rd_T53 l0 x16_2).f4))).setCell ⟨gb115, 5, none⟩ (.int .i64 ((rd_T53 l0 x16_2).f5))).setCell ⟨gb115, 6, none⟩ (.int .i64 ((rd_T53 l0 x16_2).f6))) = w26 at n0_ n1_ ⊢
                            have BK115 := n0_
                            have HB := n1_
                            clear n0_ n1_
                            have n0_ := Aside0.mk (blk_drew BK115.out)
                            have n1_ := Aside0.mk (below_drew1 HB.out)
                            clear BK115
                            clear HB
                            have BK115 := n0_
                            have HB := n1_
                            clear n0_ n1_
                            have p117 : 0 ≤ ((ji14) : Int) := of_decide_eq_true (by first | (with_reducible assumption) | assumption)
                            have q117 : (ji14) < (l0.length : Int) := of_decide_eq_true (by first | (with_reducible assumption) | assumption)
                            obtain ⟨ad117, e117, hx117_0, hx117_1, hx117_2, hx117_3, hx117_4, hx117_5, hx117_6⟩ := at_T53 HR0.out (ji14) p117 q117
                            have hw117_6 := hx117_6
                            have hw117_5 := hx117_5
                            have hw117_4 := hx117_4
                            have hw117_3 := hx117_3
                            have hw117_2 := hx117_2
                            have hw117_1 := hx117_1
                            have hw117_0 := hx117_0
                            obtain rfl : ad114 = ad117 := (by injection e117)
                            replace hx117_0 := upc HB.out hx117_0
                            replace hx117_1 := upc HB.out hx117_1
                            replace hx117_2 := upc HB.out hx117_2
                            replace hx117_3 := upc HB.out hx117_3
                            replace hx117_4 := upc HB.out hx117_4
                            replace hx117_5 := upc HB.out hx117_5
                            replace hx117_6 := upc HB.out hx117_6
                            replace p117 := eq_true p117
                            replace q117 := eq_true q117
                            refine start_ (n := 38) (S := fun w' => w'.cell? ⟨gb115, 0, none⟩ = some (.int .i64 ((rd_T53 l0 x16_2).f0)) ∧ w'.cell? ⟨gb115, 1, none⟩ = some (.int .i64 ((rd_T53 l0 x16_2).f1)) ∧ w'.cell? ⟨gb115, 2, none⟩ = some (.int .i64 ((rd_T53 l0 x16_2).f2)) ∧ w'.cell? ⟨gb115, 3, none⟩ = some (.int .i64 ((rd_T53 l0 x16_2).f3)) ∧ w'.cell? ⟨gb115, 4, none⟩ = some (.int .i64 ((rd_T53 l0 x16_2).f4)) ∧ w'.cell? ⟨gb115, 5, none⟩ = some (.int .i64 ((rd_T53 l0 x16_2).f5)) ∧ w'.cell? ⟨gb115, 6, none⟩ = some (.int .i64 ((rd_T53 l0 x16_2).f6)) ∧ w'.cell? (ad114.add (((ji14)).toNat * 7)) = some (.int .i64 ((rd_T53 l0 (ji14)).f0)) ∧ w'.cell? ⟨(ad114.add (((ji14)).toNat * 7)).block, (ad114.add (((ji14)).toNat * 7)).off + 1, none⟩ = some (.int .i64 ((rd_T53 l0 (ji14)).f1)) ∧ w'.cell? ⟨(ad114.add (((ji14)).toNat * 7)).block, (ad114.add (((ji14)).toNat * 7)).off + 2, none⟩ = some (.int .i64 ((rd_T53 l0 (ji14)).f2)) ∧ w'.cell? ⟨(ad114.add (((ji14)).toNat * 7)).block, (ad114.add (((ji14)).toNat * 7)).off + 3, none⟩ = some (.int .i64 ((rd_T53 l0 (ji14)).f3)) ∧ w'.cell? ⟨(ad114.add (((ji14)).toNat * 7)).block, (ad114.add (((ji14)).toNat * 7)).off + 4, none⟩ = some (.int .i64 ((rd_T53 l0 (ji14)).f4)) ∧ w'.cell? ⟨(ad114.add (((ji14)).toNat * 7)).block, (ad114.add (((ji14)).toNat * 7)).off + 5, none⟩ = some (.int .i64 ((rd_T53 l0 (ji14)).f5)) ∧ w'.cell? ⟨(ad114.add (((ji14)).toNat * 7)).block, (ad114.add (((ji14)).toNat * 7)).off + 6, none⟩ = some (.int .i64 ((rd_T53 l0 (ji14)).f6))) (ds := []) #[false, false, false, false, false, false, false, false, false, false, false, false, false, false, false, false, false, false, false, false, false, false, false, false, false, false, false, false, false, false, false, false, false, false, false, false, false, false] (by kernel_rfl) rfl rfl ⟨(blk_cell BK115.out 0).trans rfl, (blk_cell BK115.out 1).trans rfl, (blk_cell BK115.out 2).trans rfl, (blk_cell BK115.out 3).trans rfl, (blk_cell BK115.out 4).trans rfl, (blk_cell BK115.out 5).trans rfl, (blk_cell BK115.out 6).trans rfl, ((HB.out.cell (World.block_lt_of_cell? w _ hw117_0)).trans hw117_0), ((HB.out.cell (World.block_lt_of_cell? w _ hw117_1)).trans hw117_1), ((HB.out.cell (World.block_lt_of_cell? w _ hw117_2)).trans hw117_2), ((HB.out.cell (World.block_lt_of_cell? w _ hw117_3)).trans hw117_3), ((HB.out.cell (World.block_lt_of_cell? w _ hw117_4)).trans hw117_4), ((HB.out.cell (World.block_lt_of_cell? w _ hw117_5)).trans hw117_5), ((HB.out.cell (World.block_lt_of_cell? w _ hw117_6)).trans hw117_6)⟩ (fun hHeld => ?_); refine with_tabW subchannel_session.tab7 subchannel_session.bits7 (fun HT_ HW_ => ?_)
                            generalize w26.drew = w27 at BK115 HB hx117_0 hx117_1 hx117_2 hx117_3 hx117_4 hx117_5 hx117_6 hHeld ⊢
                            refine pure_ (i := 0) (N := some 21) (v := ?_) (a' := ?_) (mS 38 1) rfl rfl (any_of HT_.out (by kernel_rfl)) (fun _ _ _ h => h) (Or.inl ⟨by rfl, ?_⟩) ?_ ?_
                            rotate_left
                            · intro w'
                              go_simp
                              with_reducible rfl
                            rotate_left
                            · simp only [Act.put, List.setIfInBounds_toArray, List.set_cons_zero, List.set_cons_succ, i64_w, i32_w]
                              rfl
                            refine take_ (i := 1) (N := some 22) (v := ?_) (a' := ?_) (mS 38 3) rfl rfl (take_ofW HT_.out HW_.out (by kernel_rfl)) (fun _ _ _ h => h) (Or.inl ⟨by rfl, ?_⟩) hHeld ?_ ?_
                            rotate_left
                            · rintro w' ⟨s0, s1, s2, s3, s4, s5, s6, s7, s8, s9, s10, s11, s12, s13⟩
                              go_simp
                              with_reducible rfl
                            rotate_left
                            · simp only [Act.put, List.setIfInBounds_toArray, List.set_cons_zero, List.set_cons_succ, i64_w, i32_w]
                              rfl
                            refine one_ (i := 2) (N := some 23) (mS 38 7) rfl rfl (one_of HT_.out (by kernel_rfl)) (by decide) (fun K hK => ?_)
                            refine goes_ Try.func26 (by kernel_rfl) rfl #[.int .i64 ((rd_T53 l0 x16_2).f0), .int .i64 1, .int .i64 99] (by rfl) rfl rfl (by (try simp only [List.map_toArray, List.map_cons, List.map_nil]); first | done | rfl | (simp only [List.length_drop, List.length_take]; rfl)) ?_
                            with_reducible refine (subchannel_between.calls ((rd_T53 l0 x16_2).f0) 1 99 true _ A11.out).mono ?_
                            rintro e w' ⟨rfl, ⟨nd, rfl⟩⟩
                            refine ⟨_, rfl, ?_⟩
                            refine hK.out _ _ ⟨(blk_cell BK115.out 0).trans rfl, (blk_cell BK115.out 1).trans rfl, (blk_cell BK115.out 2).trans rfl, (blk_cell BK115.out 3).trans rfl, (blk_cell BK115.out 4).trans rfl, (blk_cell BK115.out 5).trans rfl, (blk_cell BK115.out 6).trans rfl, ((HB.out.cell (World.block_lt_of_cell? w _ hw117_0)).trans hw117_0), ((HB.out.cell (World.block_lt_of_cell? w _ hw117_1)).trans hw117_1), ((HB.out.cell (World.block_lt_of_cell? w _ hw117_2)).trans hw117_2), ((HB.out.cell (World.block_lt_of_cell? w _ hw117_3)).trans hw117_3), ((HB.out.cell (World.block_lt_of_cell? w _ hw117_4)).trans hw117_4), ((HB.out.cell (World.block_lt_of_cell? w _ hw117_5)).trans hw117_5), ((HB.out.cell (World.block_lt_of_cell? w _ hw117_6)).trans hw117_6)⟩ (fun hHeld => ?_)
                            clear hK K
                            refine norm_ (a' := ?_) ?_ ?_
                            rotate_left
                            · show Act.put _ (some 23) _ = _
                              simp only [Act.put, List.setIfInBounds_toArray, List.set_cons_zero, List.set_cons_succ, i64_w, i32_w]
                              rfl
                            refine pure_ (i := 3) (N := some 24) (v := ?_) (a' := ?_) (mS 38 15) rfl rfl (any_of HT_.out (by kernel_rfl)) (fun _ _ _ h => h) (Or.inl ⟨by rfl, ?_⟩) ?_ ?_
                            rotate_left
                            · intro w'
                              go_simp
                              with_reducible rfl
                            rotate_left
                            · simp only [Act.put, List.setIfInBounds_toArray, List.set_cons_zero, List.set_cons_succ, i64_w, i32_w]
                              rfl
                            refine pure_ (i := 4) (N := some 25) (v := ?_) (a' := ?_) (mS 38 31) rfl rfl (any_of HT_.out (by kernel_rfl)) (fun _ _ _ h => h) (Or.inl ⟨by rfl, ?_⟩) ?_ ?_
                            rotate_left
                            · intro w'
                              go_simp
                              with_reducible rfl
                            rotate_left
                            · simp only [Act.put, List.setIfInBounds_toArray, List.set_cons_zero, List.set_cons_succ, i64_w, i32_w]
                              rfl
                            refine pure_ (i := 5) (N := some 26) (v := ?_) (a' := ?_) (mS 38 63) rfl rfl (any_of HT_.out (by kernel_rfl)) (fun _ _ _ h => h) (Or.inl ⟨by rfl, ?_⟩) ?_ ?_
                            rotate_left
                            · intro w'
                              go_simp
                              with_reducible rfl
                            rotate_left
                            · simp only [Act.put, List.setIfInBounds_toArray, List.set_cons_zero, List.set_cons_succ, i64_w, i32_w]
                              rfl
                            refine pure_ (i := 6) (N := some 27) (v := ?_) (a' := ?_) (mS 38 127) rfl rfl (any_of HT_.out (by kernel_rfl)) (fun _ _ _ h => h) (Or.inl ⟨by rfl, ?_⟩) ?_ ?_
                            rotate_left
                            · intro w'
                              go_simp
                              with_reducible rfl
                            rotate_left
                            · simp only [Act.put, List.setIfInBounds_toArray, List.set_cons_zero, List.set_cons_succ, i64_w, i32_w]
                              rfl
                            refine pure_ (i := 7) (N := some 28) (v := ?_) (a' := ?_) (mS 38 255) rfl rfl (any_of HT_.out (by kernel_rfl)) (fun _ _ _ h => h) (Or.inl ⟨by rfl, ?_⟩) ?_ ?_
                            rotate_left
                            · intro w'
                              go_simp
                              with_reducible rfl
                            rotate_left
                            · simp only [Act.put, List.setIfInBounds_toArray, List.set_cons_zero, List.set_cons_succ, i64_w, i32_w]
                              rfl
                            refine pure_ (i := 8) (N := some 29) (v := ?_) (a' := ?_) (mS 38 511) rfl rfl (any_of HT_.out (by kernel_rfl)) (fun _ _ _ h => h) (Or.inl ⟨by rfl, ?_⟩) ?_ ?_
                            rotate_left
                            · intro w'
                              go_simp
                              with_reducible rfl
                            rotate_left
                            · simp only [Act.put, List.setIfInBounds_toArray, List.set_cons_zero, List.set_cons_succ, i64_w, i32_w]
                              rfl
                            refine pure_ (i := 10) (N := some 31) (v := ?_) (a' := ?_) (mS 38 1535) rfl rfl (any_of HT_.out (by kernel_rfl)) (fun _ _ _ h => h) (Or.inl ⟨by rfl, ?_⟩) ?_ ?_
                            rotate_left
                            · intro w'
                              go_simp
                              with_reducible rfl
                            rotate_left
                            · simp only [Act.put, List.setIfInBounds_toArray, List.set_cons_zero, List.set_cons_succ, i64_w, i32_w]
                              rfl
                            refine pure_ (i := 11) (N := some 32) (v := ?_) (a' := ?_) (mS 38 3583) rfl rfl (any_of HT_.out (by kernel_rfl)) (fun _ _ _ h => h) (Or.inl ⟨by rfl, ?_⟩) ?_ ?_
                            rotate_left
                            · intro w'
                              go_simp
                              with_reducible rfl
                            rotate_left
                            · simp only [Act.put, List.setIfInBounds_toArray, List.set_cons_zero, List.set_cons_succ, i64_w, i32_w]
                              rfl
                            refine pure_ (i := 12) (N := some 33) (v := ?_) (a' := ?_) (mS 38 7679) rfl rfl (any_of HT_.out (by kernel_rfl)) (fun _ _ _ h => h) (Or.inl ⟨by rfl, ?_⟩) ?_ ?_
                            rotate_left
                            · intro w'
                              go_simp
                              with_reducible rfl
                            rotate_left
                            · simp only [Act.put, List.setIfInBounds_toArray, List.set_cons_zero, List.set_cons_succ, i64_w, i32_w]
                              rfl
                            refine pure_ (i := 13) (N := some 34) (v := ?_) (a' := ?_) (mS 38 15871) rfl rfl (any_of HT_.out (by kernel_rfl)) (fun _ _ _ h => h) (Or.inl ⟨by rfl, ?_⟩) ?_ ?_
                            rotate_left
                            · intro w'
                              go_simp
                              with_reducible rfl
                            rotate_left
                            · simp only [Act.put, List.setIfInBounds_toArray, List.set_cons_zero, List.set_cons_succ, i64_w, i32_w]
                              rfl
                            refine pure_ (i := 14) (N := some 35) (v := ?_) (a' := ?_) (mS 38 32255) rfl rfl (any_of HT_.out (by kernel_rfl)) (fun _ _ _ h => h) (Or.inl ⟨by rfl, ?_⟩) ?_ ?_
                            rotate_left
                            · intro w'
                              go_simp
                              with_reducible rfl
                            rotate_left
                            · simp only [Act.put, List.setIfInBounds_toArray, List.set_cons_zero, List.set_cons_succ, i64_w, i32_w]
                              rfl
                            refine take_ (i := 9) (N := some 30) (v := ?_) (a' := ?_) (mS 38 32767) rfl rfl (take_ofW HT_.out HW_.out (by kernel_rfl)) (fun _ _ _ h => h) (Or.inl ⟨by rfl, ?_⟩) hHeld ?_ ?_
                            rotate_left
                            · rintro w' ⟨s0, s1, s2, s3, s4, s5, s6, s7, s8, s9, s10, s11, s12, s13⟩
                              go_simp
                              with_reducible rfl
                            rotate_left
                            · simp only [Act.put, List.setIfInBounds_toArray, List.set_cons_zero, List.set_cons_succ, i64_w, i32_w]
                              rfl
                            refine take_ (i := 15) (N := some 36) (v := ?_) (a' := ?_) (mS 38 65535) rfl rfl (take_ofW HT_.out HW_.out (by kernel_rfl)) (fun _ _ _ h => h) (Or.inl ⟨by rfl, ?_⟩) hHeld ?_ ?_
                            rotate_left
                            · rintro w' ⟨s0, s1, s2, s3, s4, s5, s6, s7, s8, s9, s10, s11, s12, s13⟩
                              go_simp
                              with_reducible rfl
                            rotate_left
                            · simp only [Act.put, List.setIfInBounds_toArray, List.set_cons_zero, List.set_cons_succ, i64_w, i32_w]
                              rfl
                            refine pure_ (i := 16) (N := some 37) (v := ?_) (a' := ?_) (mS 38 131071) rfl rfl (any_of HT_.out (by kernel_rfl)) (fun _ _ _ h => h) (Or.inl ⟨by rfl, ?_⟩) ?_ ?_
                            rotate_left
                            · intro w'
                              go_simp
                              with_reducible rfl
                            rotate_left
                            · simp only [Act.put, List.setIfInBounds_toArray, List.set_cons_zero, List.set_cons_succ, i64_w, i32_w]
                              rfl
                            refine pure_ (i := 17) (N := some 38) (v := ?_) (a' := ?_) (mS 38 262143) rfl rfl (any_of HT_.out (by kernel_rfl)) (fun _ _ _ h => h) (Or.inl ⟨by rfl, ?_⟩) ?_ ?_
                            rotate_left
                            · intro w'
                              go_simp
                              with_reducible rfl
                            rotate_left
                            · simp only [Act.put, List.setIfInBounds_toArray, List.set_cons_zero, List.set_cons_succ, i64_w, i32_w]
                              rfl
                            refine pure_ (i := 18) (N := some 39) (v := ?_) (a' := ?_) (mS 38 524287) rfl rfl (any_of HT_.out (by kernel_rfl)) (fun _ _ _ h => h) (Or.inl ⟨by rfl, ?_⟩) ?_ ?_
                            rotate_left
                            · intro w'
                              go_simp
                              with_reducible rfl
                            rotate_left
                            · simp only [Act.put, List.setIfInBounds_toArray, List.set_cons_zero, List.set_cons_succ, i64_w, i32_w]
                              rfl
                            refine pure_ (i := 19) (N := some 40) (v := ?_) (a' := ?_) (mS 38 1048575) rfl rfl (any_of HT_.out (by kernel_rfl)) (fun _ _ _ h => h) (Or.inl ⟨by rfl, ?_⟩) ?_ ?_
                            rotate_left
                            · intro w'
                              go_simp
                              with_reducible rfl
                            rotate_left
                            · simp only [Act.put, List.setIfInBounds_toArray, List.set_cons_zero, List.set_cons_succ, i64_w, i32_w]
                              rfl
                            refine pure_ (i := 20) (N := some 41) (v := ?_) (a' := ?_) (mS 38 2097151) rfl rfl (any_of HT_.out (by kernel_rfl)) (fun _ _ _ h => h) (Or.inl ⟨by rfl, ?_⟩) ?_ ?_
                            rotate_left
                            · intro w'
                              go_simp
                              with_reducible rfl
                            rotate_left
                            · simp only [Act.put, List.setIfInBounds_toArray, List.set_cons_zero, List.set_cons_succ, i64_w, i32_w]
                              rfl
                            refine pure_ (i := 21) (N := some 42) (v := ?_) (a' := ?_) (mS 38 4194303) rfl rfl (any_of HT_.out (by kernel_rfl)) (fun _ _ _ h => h) (Or.inl ⟨by rfl, ?_⟩) ?_ ?_
                            rotate_left
                            · intro w'
                              go_simp
                              with_reducible rfl
                            rotate_left
                            · simp only [Act.put, List.setIfInBounds_toArray, List.set_cons_zero, List.set_cons_succ, i64_w, i32_w]
                              rfl
                            refine pure_ (i := 23) (N := some 44) (v := ?_) (a' := ?_) (mS 38 12582911) rfl rfl (any_of HT_.out (by kernel_rfl)) (fun _ _ _ h => h) (Or.inl ⟨by rfl, ?_⟩) ?_ ?_
                            rotate_left
                            · intro w'
                              go_simp
                              with_reducible rfl
                            rotate_left
                            · simp only [Act.put, List.setIfInBounds_toArray, List.set_cons_zero, List.set_cons_succ, i64_w, i32_w]
                              rfl
                            refine take_ (i := 22) (N := some 43) (v := ?_) (a' := ?_) (mS 38 16777215) rfl rfl (take_ofW HT_.out HW_.out (by kernel_rfl)) (fun _ _ _ h => h) (Or.inl ⟨by rfl, ?_⟩) hHeld ?_ ?_
                            rotate_left
                            · rintro w' ⟨s0, s1, s2, s3, s4, s5, s6, s7, s8, s9, s10, s11, s12, s13⟩
                              go_simp
                              with_reducible rfl
                            rotate_left
                            · simp only [Act.put, List.setIfInBounds_toArray, List.set_cons_zero, List.set_cons_succ, i64_w, i32_w]
                              rfl
                            refine one_ (i := 24) (N := some 45) (mS 38 33554431) rfl rfl (one_of HT_.out (by kernel_rfl)) (by decide) (fun K hK => ?_)
                            refine goes_ Try.func26 (by kernel_rfl) rfl #[.int .i64 ((rd_T53 l0 x16_2).f2), .int .i64 x3_2, .int .i64 449849] (by rfl) rfl rfl (by (try simp only [List.map_toArray, List.map_cons, List.map_nil]); first | done | rfl | (simp only [List.length_drop, List.length_take]; rfl)) ?_
                            with_reducible refine (subchannel_between.calls ((rd_T53 l0 x16_2).f2) x3_2 449849 true _ A18.out).mono ?_
                            rintro e w' ⟨rfl, ⟨nd, rfl⟩⟩
                            refine ⟨_, rfl, ?_⟩
                            refine hK.out _ _ ⟨(blk_cell BK115.out 0).trans rfl, (blk_cell BK115.out 1).trans rfl, (blk_cell BK115.out 2).trans rfl, (blk_cell BK115.out 3).trans rfl, (blk_cell BK115.out 4).trans rfl, (blk_cell BK115.out 5).trans rfl, (blk_cell BK115.out 6).trans rfl, ((HB.out.cell (World.block_lt_of_cell? w _ hw117_0)).trans hw117_0), ((HB.out.cell (World.block_lt_of_cell? w _ hw117_1)).trans hw117_1), ((HB.out.cell (World.block_lt_of_cell? w _ hw117_2)).trans hw117_2), ((HB.out.cell (World.block_lt_of_cell? w _ hw117_3)).trans hw117_3), ((HB.out.cell (World.block_lt_of_cell? w _ hw117_4)).trans hw117_4), ((HB.out.cell (World.block_lt_of_cell? w _ hw117_5)).trans hw117_5), ((HB.out.cell (World.block_lt_of_cell? w _ hw117_6)).trans hw117_6)⟩ (fun hHeld => ?_)
                            clear hK K
                            refine norm_ (a' := ?_) ?_ ?_
                            rotate_left
                            · show Act.put _ (some 45) _ = _
                              simp only [Act.put, List.setIfInBounds_toArray, List.set_cons_zero, List.set_cons_succ, i64_w, i32_w]
                              rfl
                            refine pure_ (i := 25) (N := some 46) (v := ?_) (a' := ?_) (mS 38 67108863) rfl rfl (any_of HT_.out (by kernel_rfl)) (fun _ _ _ h => h) (Or.inl ⟨by rfl, ?_⟩) ?_ ?_
                            rotate_left
                            · intro w'
                              go_simp
                              with_reducible rfl
                            rotate_left
                            · simp only [Act.put, List.setIfInBounds_toArray, List.set_cons_zero, List.set_cons_succ, i64_w, i32_w]
                              rfl
                            refine pure_ (i := 26) (N := some 47) (v := ?_) (a' := ?_) (mS 38 134217727) rfl rfl (any_of HT_.out (by kernel_rfl)) (fun _ _ _ h => h) (Or.inl ⟨by rfl, ?_⟩) ?_ ?_
                            rotate_left
                            · intro w'
                              go_simp
                              with_reducible rfl
                            rotate_left
                            · simp only [Act.put, List.setIfInBounds_toArray, List.set_cons_zero, List.set_cons_succ, i64_w, i32_w]
                              rfl
                            refine pure_ (i := 27) (N := some 48) (v := ?_) (a' := ?_) (mS 38 268435455) rfl rfl (any_of HT_.out (by kernel_rfl)) (fun _ _ _ h => h) (Or.inl ⟨by rfl, ?_⟩) ?_ ?_
                            rotate_left
                            · intro w'
                              go_simp
                              with_reducible rfl
                            rotate_left
                            · simp only [Act.put, List.setIfInBounds_toArray, List.set_cons_zero, List.set_cons_succ, i64_w, i32_w]
                              rfl
                            refine pure_ (i := 28) (N := some 49) (v := ?_) (a' := ?_) (mS 38 536870911) rfl rfl (any_of HT_.out (by kernel_rfl)) (fun _ _ _ h => h) (Or.inl ⟨by rfl, ?_⟩) ?_ ?_
                            rotate_left
                            · intro w'
                              go_simp
                              with_reducible rfl
                            rotate_left
                            · simp only [Act.put, List.setIfInBounds_toArray, List.set_cons_zero, List.set_cons_succ, i64_w, i32_w]
                              rfl
                            refine take_ (i := 29) (N := some 50) (v := ?_) (a' := ?_) (mS 38 1073741823) rfl rfl (take_ofW HT_.out HW_.out (by kernel_rfl)) (fun _ _ _ h => h) (Or.inl ⟨by rfl, ?_⟩) hHeld ?_ ?_
                            rotate_left
                            · rintro w' ⟨s0, s1, s2, s3, s4, s5, s6, s7, s8, s9, s10, s11, s12, s13⟩
                              go_simp
                              with_reducible rfl
                            rotate_left
                            · simp only [Act.put, List.setIfInBounds_toArray, List.set_cons_zero, List.set_cons_succ, i64_w, i32_w]
                              rfl
                            refine one_ (i := 30) (N := some 51) (mS 38 2147483647) rfl rfl (one_of HT_.out (by kernel_rfl)) (by decide) (fun K hK => ?_)
                            refine goes_ Try.func26 (by kernel_rfl) rfl #[.int .i64 ((rd_T53 l0 x16_2).f3), .int .i64 1, .int .i64 449849] (by rfl) rfl rfl (by (try simp only [List.map_toArray, List.map_cons, List.map_nil]); first | done | rfl | (simp only [List.length_drop, List.length_take]; rfl)) ?_
                            with_reducible refine (subchannel_between.calls ((rd_T53 l0 x16_2).f3) 1 449849 false _ A20.out).mono ?_
                            rintro e w' ⟨rfl, ⟨nd, rfl⟩⟩
                            refine ⟨_, rfl, ?_⟩
                            refine hK.out _ _ ⟨(blk_cell BK115.out 0).trans rfl, (blk_cell BK115.out 1).trans rfl, (blk_cell BK115.out 2).trans rfl, (blk_cell BK115.out 3).trans rfl, (blk_cell BK115.out 4).trans rfl, (blk_cell BK115.out 5).trans rfl, (blk_cell BK115.out 6).trans rfl, ((HB.out.cell (World.block_lt_of_cell? w _ hw117_0)).trans hw117_0), ((HB.out.cell (World.block_lt_of_cell? w _ hw117_1)).trans hw117_1), ((HB.out.cell (World.block_lt_of_cell? w _ hw117_2)).trans hw117_2), ((HB.out.cell (World.block_lt_of_cell? w _ hw117_3)).trans hw117_3), ((HB.out.cell (World.block_lt_of_cell? w _ hw117_4)).trans hw117_4), ((HB.out.cell (World.block_lt_of_cell? w _ hw117_5)).trans hw117_5), ((HB.out.cell (World.block_lt_of_cell? w _ hw117_6)).trans hw117_6)⟩ (fun hHeld => ?_)
                            clear hK K
                            refine norm_ (a' := ?_) ?_ ?_
                            rotate_left
                            · show Act.put _ (some 51) _ = _
                              simp only [Act.put, List.setIfInBounds_toArray, List.set_cons_zero, List.set_cons_succ, i64_w, i32_w]
                              rfl
                            refine pure_ (i := 31) (N := some 52) (v := ?_) (a' := ?_) (mS 38 4294967295) rfl rfl (any_of HT_.out (by kernel_rfl)) (fun _ _ _ h => h) (Or.inl ⟨by rfl, ?_⟩) ?_ ?_
                            rotate_left
                            · intro w'
                              go_simp
                              with_reducible rfl
                            rotate_left
                            · simp only [Act.put, List.setIfInBounds_toArray, List.set_cons_zero, List.set_cons_succ, i64_w, i32_w]
                              rfl
                            refine pure_ (i := 32) (N := some 53) (v := ?_) (a' := ?_) (mS 38 8589934591) rfl rfl (any_of HT_.out (by kernel_rfl)) (fun _ _ _ h => h) (Or.inl ⟨by rfl, ?_⟩) ?_ ?_
                            rotate_left
                            · intro w'
                              go_simp
                              with_reducible rfl
                            rotate_left
                            · simp only [Act.put, List.setIfInBounds_toArray, List.set_cons_zero, List.set_cons_succ, i64_w, i32_w]
                              rfl
                            refine pure_ (i := 33) (N := some 54) (v := ?_) (a' := ?_) (mS 38 17179869183) rfl rfl (any_of HT_.out (by kernel_rfl)) (fun _ _ _ h => h) (Or.inl ⟨by rfl, ?_⟩) ?_ ?_
                            rotate_left
                            · intro w'
                              go_simp
                              with_reducible rfl
                            rotate_left
                            · simp only [Act.put, List.setIfInBounds_toArray, List.set_cons_zero, List.set_cons_succ, i64_w, i32_w]
                              rfl
                            refine pure_ (i := 34) (N := some 55) (v := undef) (a' := ?_) (mS 38 34359738367) rfl rfl (any_of HT_.out (by kernel_rfl)) (fun _ _ _ h => h) (Or.inr ⟨by rfl, rfl⟩) ?_ ?_
                            rotate_left
                            · simp only [Act.put, List.setIfInBounds_toArray, List.set_cons_zero, List.set_cons_succ, i64_w, i32_w]
                              rfl
                            refine pure_ (i := 35) (N := some 56) (v := undef) (a' := ?_) (mS 38 68719476735) rfl rfl (any_of HT_.out (by kernel_rfl)) (fun _ _ _ h => h) (Or.inr ⟨by rfl, rfl⟩) ?_ ?_
                            rotate_left
                            · simp only [Act.put, List.setIfInBounds_toArray, List.set_cons_zero, List.set_cons_succ, i64_w, i32_w]
                              rfl
                            refine pure_ (i := 36) (N := some 57) (v := undef) (a' := ?_) (mS 38 137438953471) rfl rfl (any_of HT_.out (by kernel_rfl)) (fun _ _ _ h => h) (Or.inr ⟨by rfl, rfl⟩) ?_ ?_
                            rotate_left
                            · simp only [Act.put, List.setIfInBounds_toArray, List.set_cons_zero, List.set_cons_succ, i64_w, i32_w]
                              rfl
                            refine pure_ (i := 37) (N := some 58) (v := ?_) (a' := ?_) (mS 38 274877906943) rfl rfl (any_of HT_.out (by kernel_rfl)) (fun _ _ _ h => h) (Or.inl ⟨by rfl, ?_⟩) ?_ ?_
                            rotate_left
                            · intro w'
                              go_simp
                              with_reducible rfl
                            rotate_left
                            · simp only [Act.put, List.setIfInBounds_toArray, List.set_cons_zero, List.set_cons_succ, i64_w, i32_w]
                              rfl
                            refine done_ (done_of HT_.out (by kernel_rfl)) ?_
                            try go_wp2
                            go_meet
                            case rel => exact ⟨_, (true), (by first | rfl | (simp; done) | (simp [*]; done)), H', ⟨by have := HJ1.out; have := HK2.out; first | omega | exact Nat.le_refl _⟩, ⟨by (with_reducible repeat (first | refine blk_drewN ?_ _ | refine blk_drew ?_ | refine blk_alloc ?_ _)); exact BK115.out⟩, ⟨by repeat (first | (with_reducible first | exact HB.out | apply below_alloc | apply pw_below_drewN | apply below_drew1 | refine below_set ?_ GE115.out) | exact HB.out)⟩⟩
                        · replace c19 := Bool.eq_false_iff.mpr c19
                          subst c19
                          have H1 : (subchannel_session.j2 k2 l0 l0 (l0.length : Int) x16_2 true ((rd_T53 l0 x16_2).f0) ((rd_T53 l0 x16_2).f1) ((rd_T53 l0 x16_2).f2) ((rd_T53 l0 x16_2).f3) ((rd_T53 l0 x16_2).f4) ((rd_T53 l0 x16_2).f5) ((rd_T53 l0 x16_2).f6)) = some r := by rw [if_neg (show ¬ (false = true) by decide)] at H; exact H
                          clear H
                          have H := H1
                          clear H1
                          have H' := Aside0.mk H
                          clear H
                          try go_wp2
                          have n0_ : Aside0 ((((((((w9.setCell ⟨gb115, 0, none⟩ (.int .i64 ((rd_T53 l0 x16_2).f0))).setCell ⟨gb115, 1, none⟩ (.int .i64 ((rd_T53 l0 x16_2).f1))).setCell ⟨gb115, 2, none⟩ (.int .i64 ((rd_T53 l0 x16_2).f2))).setCell ⟨gb115, 3, none⟩ (.int .i64 ((rd_T53 l0 x16_2).f3))).setCell ⟨gb115, 4, none⟩ (.int .i64 ((rd_T53 l0 x16_2).f4))).setCell ⟨gb115, 5, none⟩ (.int .i64 ((rd_T53 l0 x16_2).f5))).setCell ⟨gb115, 6, none⟩ (.int .i64 ((rd_T53 l0 x16_2).f6))).heap[gb115]? = some (.cells #[.int .i64 ((rd_T53 l0 x16_2).f0), .int .i64 ((rd_T53 l0 x16_2).f1), .int .i64 ((rd_T53 l0 x16_2).f2), .int .i64 ((rd_T53 l0 x16_2).f3), .int .i64 ((rd_T53 l0 x16_2).f4), .int .i64 ((rd_T53 l0 x16_2).f5), .int .i64 ((rd_T53 l0 x16_2).f6)] 53 (0, 0))) := ⟨by (with_reducible repeat (first | refine blk_drewN ?_ _ | refine blk_drew ?_ | refine blk_alloc ?_ _)); refine blk_put (cs := #[.int .i64 ((rd_T53 l0 x16_2).f0), .int .i64 ((rd_T53 l0 x16_2).f1), .int .i64 ((rd_T53 l0 x16_2).f2), .int .i64 ((rd_T53 l0 x16_2).f3), .int .i64 ((rd_T53 l0 x16_2).f4), .int .i64 ((rd_T53 l0 x16_2).f5), .int .i64 0]) ?_ 6 _ rfl; (with_reducible repeat (first | refine blk_drewN ?_ _ | refine blk_drew ?_ | refine blk_alloc ?_ _)); refine blk_put (cs := #[.int .i64 ((rd_T53 l0 x16_2).f0), .int .i64 ((rd_T53 l0 x16_2).f1), .int .i64 ((rd_T53 l0 x16_2).f2), .int .i64 ((rd_T53 l0 x16_2).f3), .int .i64 ((rd_T53 l0 x16_2).f4), .int .i64 0, .int .i64 0]) ?_ 5 _ rfl; (with_reducible repeat (first | refine blk_drewN ?_ _ | refine blk_drew ?_ | refine blk_alloc ?_ _)); refine blk_put (cs := #[.int .i64 ((rd_T53 l0 x16_2).f0), .int .i64 ((rd_T53 l0 x16_2).f1), .int .i64 ((rd_T53 l0 x16_2).f2), .int .i64 ((rd_T53 l0 x16_2).f3), .int .i64 0, .int .i64 0, .int .i64 0]) ?_ 4 _ rfl; (with_reducible repeat (first | refine blk_drewN ?_ _ | refine blk_drew ?_ | refine blk_alloc ?_ _)); refine blk_put (cs := #[.int .i64 ((rd_T53 l0 x16_2).f0), .int .i64 ((rd_T53 l0 x16_2).f1), .int .i64 ((rd_T53 l0 x16_2).f2), .int .i64 0, .int .i64 0, .int .i64 0, .int .i64 0]) ?_ 3 _ rfl; (with_reducible repeat (first | refine blk_drewN ?_ _ | refine blk_drew ?_ | refine blk_alloc ?_ _)); refine blk_put (cs := #[.int .i64 ((rd_T53 l0 x16_2).f0), .int .i64 ((rd_T53 l0 x16_2).f1), .int .i64 0, .int .i64 0, .int .i64 0, .int .i64 0, .int .i64 0]) ?_ 2 _ rfl; (with_reducible repeat (first | refine blk_drewN ?_ _ | refine blk_drew ?_ | refine blk_alloc ?_ _)); refine blk_put (cs := #[.int .i64 ((rd_T53 l0 x16_2).f0), .int .i64 0, .int .i64 0, .int .i64 0, .int .i64 0, .int .i64 0, .int .i64 0]) ?_ 1 _ rfl; (with_reducible repeat (first | refine blk_drewN ?_ _ | refine blk_drew ?_ | refine blk_alloc ?_ _)); refine blk_put (cs := #[.int .i64 0, .int .i64 0, .int .i64 0, .int .i64 0, .int .i64 0, .int .i64 0, .int .i64 0]) ?_ 0 _ rfl; (with_reducible repeat (first | refine blk_drewN ?_ _ | refine blk_drew ?_ | refine blk_alloc ?_ _)); exact BK115.out⟩
                          have n1_ : Aside0 (Below w.heap.size w (((((((w9.setCell ⟨gb115, 0, none⟩ (.int .i64 ((rd_T53 l0 x16_2).f0))).setCell ⟨gb115, 1, none⟩ (.int .i64 ((rd_T53 l0 x16_2).f1))).setCell ⟨gb115, 2, none⟩ (.int .i64 ((rd_T53 l0 x16_2).f2))).setCell ⟨gb115, 3, none⟩ (.int .i64 ((rd_T53 l0 x16_2).f3))).setCell ⟨gb115, 4, none⟩ (.int .i64 ((rd_T53 l0 x16_2).f4))).setCell ⟨gb115, 5, none⟩ (.int .i64 ((rd_T53 l0 x16_2).f5))).setCell ⟨gb115, 6, none⟩ (.int .i64 ((rd_T53 l0 x16_2).f6)))) := ⟨by repeat (first | (with_reducible first | exact HB.out | apply below_alloc | apply pw_below_drewN | apply below_drew1 | refine below_set ?_ GE115.out) | exact HB.out)⟩
                          (try clear BK115)
                          (try clear HB)
                          generalize (((((((w9.setCell ⟨gb115, 0, none⟩ (.int .i64 ((rd_T53 l0 x16_2).f0))).setCell ⟨gb115, 1, none⟩ (.int .i64 ((rd_T53 l0 x16_2).f1))).setCell ⟨gb115, 2, none⟩ (.int .i64 ((rd_T53 l0 x16_2).f2))).setCell ⟨gb115, 3, none⟩ (.int .i64 ((rd_T53 l0 x16_2).f3))).setCell ⟨gb115, 4, none⟩ (.int .i64 ((rd_T53 l0 x16_2).f4))).setCell ⟨gb115, 5, none⟩ (.int .i64 ((rd_T53 l0 x16_2).f5))).setCell ⟨gb115, 6, none⟩ (.int .i64 ((rd_T53 l0 x16_2).f6))) = w28 at n0_ n1_ ⊢
                          have BK115 := n0_
                          have HB := n1_
                          clear n0_ n1_
                          have n0_ := Aside0.mk (blk_drew BK115.out)
                          have n1_ := Aside0.mk (below_drew1 HB.out)
                          clear BK115
                          clear HB
                          have BK115 := n0_
                          have HB := n1_
                          clear n0_ n1_
                          have p117 : 0 ≤ ((ji14) : Int) := of_decide_eq_true (by first | (with_reducible assumption) | assumption)
                          have q117 : (ji14) < (l0.length : Int) := of_decide_eq_true (by first | (with_reducible assumption) | assumption)
                          obtain ⟨ad117, e117, hx117_0, hx117_1, hx117_2, hx117_3, hx117_4, hx117_5, hx117_6⟩ := at_T53 HR0.out (ji14) p117 q117
                          have hw117_6 := hx117_6
                          have hw117_5 := hx117_5
                          have hw117_4 := hx117_4
                          have hw117_3 := hx117_3
                          have hw117_2 := hx117_2
                          have hw117_1 := hx117_1
                          have hw117_0 := hx117_0
                          obtain rfl : ad114 = ad117 := (by injection e117)
                          replace hx117_0 := upc HB.out hx117_0
                          replace hx117_1 := upc HB.out hx117_1
                          replace hx117_2 := upc HB.out hx117_2
                          replace hx117_3 := upc HB.out hx117_3
                          replace hx117_4 := upc HB.out hx117_4
                          replace hx117_5 := upc HB.out hx117_5
                          replace hx117_6 := upc HB.out hx117_6
                          replace p117 := eq_true p117
                          replace q117 := eq_true q117
                          refine start_ (n := 38) (S := fun w' => w'.cell? ⟨gb115, 0, none⟩ = some (.int .i64 ((rd_T53 l0 x16_2).f0)) ∧ w'.cell? ⟨gb115, 1, none⟩ = some (.int .i64 ((rd_T53 l0 x16_2).f1)) ∧ w'.cell? ⟨gb115, 2, none⟩ = some (.int .i64 ((rd_T53 l0 x16_2).f2)) ∧ w'.cell? ⟨gb115, 3, none⟩ = some (.int .i64 ((rd_T53 l0 x16_2).f3)) ∧ w'.cell? ⟨gb115, 4, none⟩ = some (.int .i64 ((rd_T53 l0 x16_2).f4)) ∧ w'.cell? ⟨gb115, 5, none⟩ = some (.int .i64 ((rd_T53 l0 x16_2).f5)) ∧ w'.cell? ⟨gb115, 6, none⟩ = some (.int .i64 ((rd_T53 l0 x16_2).f6)) ∧ w'.cell? (ad114.add (((ji14)).toNat * 7)) = some (.int .i64 ((rd_T53 l0 (ji14)).f0)) ∧ w'.cell? ⟨(ad114.add (((ji14)).toNat * 7)).block, (ad114.add (((ji14)).toNat * 7)).off + 1, none⟩ = some (.int .i64 ((rd_T53 l0 (ji14)).f1)) ∧ w'.cell? ⟨(ad114.add (((ji14)).toNat * 7)).block, (ad114.add (((ji14)).toNat * 7)).off + 2, none⟩ = some (.int .i64 ((rd_T53 l0 (ji14)).f2)) ∧ w'.cell? ⟨(ad114.add (((ji14)).toNat * 7)).block, (ad114.add (((ji14)).toNat * 7)).off + 3, none⟩ = some (.int .i64 ((rd_T53 l0 (ji14)).f3)) ∧ w'.cell? ⟨(ad114.add (((ji14)).toNat * 7)).block, (ad114.add (((ji14)).toNat * 7)).off + 4, none⟩ = some (.int .i64 ((rd_T53 l0 (ji14)).f4)) ∧ w'.cell? ⟨(ad114.add (((ji14)).toNat * 7)).block, (ad114.add (((ji14)).toNat * 7)).off + 5, none⟩ = some (.int .i64 ((rd_T53 l0 (ji14)).f5)) ∧ w'.cell? ⟨(ad114.add (((ji14)).toNat * 7)).block, (ad114.add (((ji14)).toNat * 7)).off + 6, none⟩ = some (.int .i64 ((rd_T53 l0 (ji14)).f6))) (ds := []) #[false, false, false, false, false, false, false, false, false, false, false, false, false, false, false, false, false, false, false, false, false, false, false, false, false, false, false, false, false, false, false, false, false, false, false, false, false, false] (by kernel_rfl) rfl rfl ⟨(blk_cell BK115.out 0).trans rfl, (blk_cell BK115.out 1).trans rfl, (blk_cell BK115.out 2).trans rfl, (blk_cell BK115.out 3).trans rfl, (blk_cell BK115.out 4).trans rfl, (blk_cell BK115.out 5).trans rfl, (blk_cell BK115.out 6).trans rfl, ((HB.out.cell (World.block_lt_of_cell? w _ hw117_0)).trans hw117_0), ((HB.out.cell (World.block_lt_of_cell? w _ hw117_1)).trans hw117_1), ((HB.out.cell (World.block_lt_of_cell? w _ hw117_2)).trans hw117_2), ((HB.out.cell (World.block_lt_of_cell? w _ hw117_3)).trans hw117_3), ((HB.out.cell (World.block_lt_of_cell? w _ hw117_4)).trans hw117_4), ((HB.out.cell (World.block_lt_of_cell? w _ hw117_5)).trans hw117_5), ((HB.out.cell (World.block_lt_of_cell? w _ hw117_6)).trans hw117_6)⟩ (fun hHeld => ?_); refine with_tabW subchannel_session.tab7 subchannel_session.bits7 (fun HT_ HW_ => ?_)
                          generalize w28.drew = w29 at BK115 HB hx117_0 hx117_1 hx117_2 hx117_3 hx117_4 hx117_5 hx117_6 hHeld ⊢
                          refine pure_ (i := 0) (N := some 21) (v := ?_) (a' := ?_) (mS 38 1) rfl rfl (any_of HT_.out (by kernel_rfl)) (fun _ _ _ h => h) (Or.inl ⟨by rfl, ?_⟩) ?_ ?_
                          rotate_left
                          · intro w'
                            go_simp
                            with_reducible rfl
                          rotate_left
                          · simp only [Act.put, List.setIfInBounds_toArray, List.set_cons_zero, List.set_cons_succ, i64_w, i32_w]
                            rfl
                          refine take_ (i := 1) (N := some 22) (v := ?_) (a' := ?_) (mS 38 3) rfl rfl (take_ofW HT_.out HW_.out (by kernel_rfl)) (fun _ _ _ h => h) (Or.inl ⟨by rfl, ?_⟩) hHeld ?_ ?_
                          rotate_left
                          · rintro w' ⟨s0, s1, s2, s3, s4, s5, s6, s7, s8, s9, s10, s11, s12, s13⟩
                            go_simp
                            with_reducible rfl
                          rotate_left
                          · simp only [Act.put, List.setIfInBounds_toArray, List.set_cons_zero, List.set_cons_succ, i64_w, i32_w]
                            rfl
                          refine one_ (i := 2) (N := some 23) (mS 38 7) rfl rfl (one_of HT_.out (by kernel_rfl)) (by decide) (fun K hK => ?_)
                          refine goes_ Try.func26 (by kernel_rfl) rfl #[.int .i64 ((rd_T53 l0 x16_2).f0), .int .i64 1, .int .i64 99] (by rfl) rfl rfl (by (try simp only [List.map_toArray, List.map_cons, List.map_nil]); first | done | rfl | (simp only [List.length_drop, List.length_take]; rfl)) ?_
                          with_reducible refine (subchannel_between.calls ((rd_T53 l0 x16_2).f0) 1 99 true _ A11.out).mono ?_
                          rintro e w' ⟨rfl, ⟨nd, rfl⟩⟩
                          refine ⟨_, rfl, ?_⟩
                          refine hK.out _ _ ⟨(blk_cell BK115.out 0).trans rfl, (blk_cell BK115.out 1).trans rfl, (blk_cell BK115.out 2).trans rfl, (blk_cell BK115.out 3).trans rfl, (blk_cell BK115.out 4).trans rfl, (blk_cell BK115.out 5).trans rfl, (blk_cell BK115.out 6).trans rfl, ((HB.out.cell (World.block_lt_of_cell? w _ hw117_0)).trans hw117_0), ((HB.out.cell (World.block_lt_of_cell? w _ hw117_1)).trans hw117_1), ((HB.out.cell (World.block_lt_of_cell? w _ hw117_2)).trans hw117_2), ((HB.out.cell (World.block_lt_of_cell? w _ hw117_3)).trans hw117_3), ((HB.out.cell (World.block_lt_of_cell? w _ hw117_4)).trans hw117_4), ((HB.out.cell (World.block_lt_of_cell? w _ hw117_5)).trans hw117_5), ((HB.out.cell (World.block_lt_of_cell? w _ hw117_6)).trans hw117_6)⟩ (fun hHeld => ?_)
                          clear hK K
                          refine norm_ (a' := ?_) ?_ ?_
                          rotate_left
                          · show Act.put _ (some 23) _ = _
                            simp only [Act.put, List.setIfInBounds_toArray, List.set_cons_zero, List.set_cons_succ, i64_w, i32_w]
                            rfl
                          refine pure_ (i := 3) (N := some 24) (v := ?_) (a' := ?_) (mS 38 15) rfl rfl (any_of HT_.out (by kernel_rfl)) (fun _ _ _ h => h) (Or.inl ⟨by rfl, ?_⟩) ?_ ?_
                          rotate_left
                          · intro w'
                            go_simp
                            with_reducible rfl
                          rotate_left
                          · simp only [Act.put, List.setIfInBounds_toArray, List.set_cons_zero, List.set_cons_succ, i64_w, i32_w]
                            rfl
                          refine pure_ (i := 4) (N := some 25) (v := ?_) (a' := ?_) (mS 38 31) rfl rfl (any_of HT_.out (by kernel_rfl)) (fun _ _ _ h => h) (Or.inl ⟨by rfl, ?_⟩) ?_ ?_
                          rotate_left
                          · intro w'
                            go_simp
                            with_reducible rfl
                          rotate_left
                          · simp only [Act.put, List.setIfInBounds_toArray, List.set_cons_zero, List.set_cons_succ, i64_w, i32_w]
                            rfl
                          refine pure_ (i := 5) (N := some 26) (v := ?_) (a' := ?_) (mS 38 63) rfl rfl (any_of HT_.out (by kernel_rfl)) (fun _ _ _ h => h) (Or.inl ⟨by rfl, ?_⟩) ?_ ?_
                          rotate_left
                          · intro w'
                            go_simp
                            with_reducible rfl
                          rotate_left
                          · simp only [Act.put, List.setIfInBounds_toArray, List.set_cons_zero, List.set_cons_succ, i64_w, i32_w]
                            rfl
                          refine pure_ (i := 6) (N := some 27) (v := ?_) (a' := ?_) (mS 38 127) rfl rfl (any_of HT_.out (by kernel_rfl)) (fun _ _ _ h => h) (Or.inl ⟨by rfl, ?_⟩) ?_ ?_
                          rotate_left
                          · intro w'
                            go_simp
                            with_reducible rfl
                          rotate_left
                          · simp only [Act.put, List.setIfInBounds_toArray, List.set_cons_zero, List.set_cons_succ, i64_w, i32_w]
                            rfl
                          refine pure_ (i := 7) (N := some 28) (v := ?_) (a' := ?_) (mS 38 255) rfl rfl (any_of HT_.out (by kernel_rfl)) (fun _ _ _ h => h) (Or.inl ⟨by rfl, ?_⟩) ?_ ?_
                          rotate_left
                          · intro w'
                            go_simp
                            with_reducible rfl
                          rotate_left
                          · simp only [Act.put, List.setIfInBounds_toArray, List.set_cons_zero, List.set_cons_succ, i64_w, i32_w]
                            rfl
                          refine pure_ (i := 8) (N := some 29) (v := ?_) (a' := ?_) (mS 38 511) rfl rfl (any_of HT_.out (by kernel_rfl)) (fun _ _ _ h => h) (Or.inl ⟨by rfl, ?_⟩) ?_ ?_
                          rotate_left
                          · intro w'
                            go_simp
                            with_reducible rfl
                          rotate_left
                          · simp only [Act.put, List.setIfInBounds_toArray, List.set_cons_zero, List.set_cons_succ, i64_w, i32_w]
                            rfl
                          refine pure_ (i := 10) (N := some 31) (v := ?_) (a' := ?_) (mS 38 1535) rfl rfl (any_of HT_.out (by kernel_rfl)) (fun _ _ _ h => h) (Or.inl ⟨by rfl, ?_⟩) ?_ ?_
                          rotate_left
                          · intro w'
                            go_simp
                            with_reducible rfl
                          rotate_left
                          · simp only [Act.put, List.setIfInBounds_toArray, List.set_cons_zero, List.set_cons_succ, i64_w, i32_w]
                            rfl
                          refine pure_ (i := 11) (N := some 32) (v := ?_) (a' := ?_) (mS 38 3583) rfl rfl (any_of HT_.out (by kernel_rfl)) (fun _ _ _ h => h) (Or.inl ⟨by rfl, ?_⟩) ?_ ?_
                          rotate_left
                          · intro w'
                            go_simp
                            with_reducible rfl
                          rotate_left
                          · simp only [Act.put, List.setIfInBounds_toArray, List.set_cons_zero, List.set_cons_succ, i64_w, i32_w]
                            rfl
                          refine pure_ (i := 12) (N := some 33) (v := ?_) (a' := ?_) (mS 38 7679) rfl rfl (any_of HT_.out (by kernel_rfl)) (fun _ _ _ h => h) (Or.inl ⟨by rfl, ?_⟩) ?_ ?_
                          rotate_left
                          · intro w'
                            go_simp
                            with_reducible rfl
                          rotate_left
                          · simp only [Act.put, List.setIfInBounds_toArray, List.set_cons_zero, List.set_cons_succ, i64_w, i32_w]
                            rfl
                          refine pure_ (i := 13) (N := some 34) (v := ?_) (a' := ?_) (mS 38 15871) rfl rfl (any_of HT_.out (by kernel_rfl)) (fun _ _ _ h => h) (Or.inl ⟨by rfl, ?_⟩) ?_ ?_
                          rotate_left
                          · intro w'
                            go_simp
                            with_reducible rfl
                          rotate_left
                          · simp only [Act.put, List.setIfInBounds_toArray, List.set_cons_zero, List.set_cons_succ, i64_w, i32_w]
                            rfl
                          refine pure_ (i := 14) (N := some 35) (v := ?_) (a' := ?_) (mS 38 32255) rfl rfl (any_of HT_.out (by kernel_rfl)) (fun _ _ _ h => h) (Or.inl ⟨by rfl, ?_⟩) ?_ ?_
                          rotate_left
                          · intro w'
                            go_simp
                            with_reducible rfl
                          rotate_left
                          · simp only [Act.put, List.setIfInBounds_toArray, List.set_cons_zero, List.set_cons_succ, i64_w, i32_w]
                            rfl
                          refine take_ (i := 9) (N := some 30) (v := ?_) (a' := ?_) (mS 38 32767) rfl rfl (take_ofW HT_.out HW_.out (by kernel_rfl)) (fun _ _ _ h => h) (Or.inl ⟨by rfl, ?_⟩) hHeld ?_ ?_
                          rotate_left
                          · rintro w' ⟨s0, s1, s2, s3, s4, s5, s6, s7, s8, s9, s10, s11, s12, s13⟩
                            go_simp
                            with_reducible rfl
                          rotate_left
                          · simp only [Act.put, List.setIfInBounds_toArray, List.set_cons_zero, List.set_cons_succ, i64_w, i32_w]
                            rfl
                          refine take_ (i := 15) (N := some 36) (v := ?_) (a' := ?_) (mS 38 65535) rfl rfl (take_ofW HT_.out HW_.out (by kernel_rfl)) (fun _ _ _ h => h) (Or.inl ⟨by rfl, ?_⟩) hHeld ?_ ?_
                          rotate_left
                          · rintro w' ⟨s0, s1, s2, s3, s4, s5, s6, s7, s8, s9, s10, s11, s12, s13⟩
                            go_simp
                            with_reducible rfl
                          rotate_left
                          · simp only [Act.put, List.setIfInBounds_toArray, List.set_cons_zero, List.set_cons_succ, i64_w, i32_w]
                            rfl
                          refine pure_ (i := 16) (N := some 37) (v := ?_) (a' := ?_) (mS 38 131071) rfl rfl (any_of HT_.out (by kernel_rfl)) (fun _ _ _ h => h) (Or.inl ⟨by rfl, ?_⟩) ?_ ?_
                          rotate_left
                          · intro w'
                            go_simp
                            with_reducible rfl
                          rotate_left
                          · simp only [Act.put, List.setIfInBounds_toArray, List.set_cons_zero, List.set_cons_succ, i64_w, i32_w]
                            rfl
                          refine pure_ (i := 17) (N := some 38) (v := ?_) (a' := ?_) (mS 38 262143) rfl rfl (any_of HT_.out (by kernel_rfl)) (fun _ _ _ h => h) (Or.inl ⟨by rfl, ?_⟩) ?_ ?_
                          rotate_left
                          · intro w'
                            go_simp
                            with_reducible rfl
                          rotate_left
                          · simp only [Act.put, List.setIfInBounds_toArray, List.set_cons_zero, List.set_cons_succ, i64_w, i32_w]
                            rfl
                          refine pure_ (i := 18) (N := some 39) (v := ?_) (a' := ?_) (mS 38 524287) rfl rfl (any_of HT_.out (by kernel_rfl)) (fun _ _ _ h => h) (Or.inl ⟨by rfl, ?_⟩) ?_ ?_
                          rotate_left
                          · intro w'
                            go_simp
                            with_reducible rfl
                          rotate_left
                          · simp only [Act.put, List.setIfInBounds_toArray, List.set_cons_zero, List.set_cons_succ, i64_w, i32_w]
                            rfl
                          refine pure_ (i := 19) (N := some 40) (v := ?_) (a' := ?_) (mS 38 1048575) rfl rfl (any_of HT_.out (by kernel_rfl)) (fun _ _ _ h => h) (Or.inl ⟨by rfl, ?_⟩) ?_ ?_
                          rotate_left
                          · intro w'
                            go_simp
                            with_reducible rfl
                          rotate_left
                          · simp only [Act.put, List.setIfInBounds_toArray, List.set_cons_zero, List.set_cons_succ, i64_w, i32_w]
                            rfl
                          refine pure_ (i := 20) (N := some 41) (v := ?_) (a' := ?_) (mS 38 2097151) rfl rfl (any_of HT_.out (by kernel_rfl)) (fun _ _ _ h => h) (Or.inl ⟨by rfl, ?_⟩) ?_ ?_
                          rotate_left
                          · intro w'
                            go_simp
                            with_reducible rfl
                          rotate_left
                          · simp only [Act.put, List.setIfInBounds_toArray, List.set_cons_zero, List.set_cons_succ, i64_w, i32_w]
                            rfl
                          refine pure_ (i := 21) (N := some 42) (v := ?_) (a' := ?_) (mS 38 4194303) rfl rfl (any_of HT_.out (by kernel_rfl)) (fun _ _ _ h => h) (Or.inl ⟨by rfl, ?_⟩) ?_ ?_
                          rotate_left
                          · intro w'
                            go_simp
                            with_reducible rfl
                          rotate_left
                          · simp only [Act.put, List.setIfInBounds_toArray, List.set_cons_zero, List.set_cons_succ, i64_w, i32_w]
                            rfl
                          refine pure_ (i := 23) (N := some 44) (v := ?_) (a' := ?_) (mS 38 12582911) rfl rfl (any_of HT_.out (by kernel_rfl)) (fun _ _ _ h => h) (Or.inl ⟨by rfl, ?_⟩) ?_ ?_
                          rotate_left
                          · intro w'
                            go_simp
                            with_reducible rfl
                          rotate_left
                          · simp only [Act.put, List.setIfInBounds_toArray, List.set_cons_zero, List.set_cons_succ, i64_w, i32_w]
                            rfl
                          refine take_ (i := 22) (N := some 43) (v := ?_) (a' := ?_) (mS 38 16777215) rfl rfl (take_ofW HT_.out HW_.out (by kernel_rfl)) (fun _ _ _ h => h) (Or.inl ⟨by rfl, ?_⟩) hHeld ?_ ?_
                          rotate_left
                          · rintro w' ⟨s0, s1, s2, s3, s4, s5, s6, s7, s8, s9, s10, s11, s12, s13⟩
                            go_simp
                            with_reducible rfl
                          rotate_left
                          · simp only [Act.put, List.setIfInBounds_toArray, List.set_cons_zero, List.set_cons_succ, i64_w, i32_w]
                            rfl
                          refine one_ (i := 24) (N := some 45) (mS 38 33554431) rfl rfl (one_of HT_.out (by kernel_rfl)) (by decide) (fun K hK => ?_)
                          refine goes_ Try.func26 (by kernel_rfl) rfl #[.int .i64 ((rd_T53 l0 x16_2).f2), .int .i64 x3_2, .int .i64 449849] (by rfl) rfl rfl (by (try simp only [List.map_toArray, List.map_cons, List.map_nil]); first | done | rfl | (simp only [List.length_drop, List.length_take]; rfl)) ?_
                          with_reducible refine (subchannel_between.calls ((rd_T53 l0 x16_2).f2) x3_2 449849 false _ A18.out).mono ?_
                          rintro e w' ⟨rfl, ⟨nd, rfl⟩⟩
                          refine ⟨_, rfl, ?_⟩
                          refine hK.out _ _ ⟨(blk_cell BK115.out 0).trans rfl, (blk_cell BK115.out 1).trans rfl, (blk_cell BK115.out 2).trans rfl, (blk_cell BK115.out 3).trans rfl, (blk_cell BK115.out 4).trans rfl, (blk_cell BK115.out 5).trans rfl, (blk_cell BK115.out 6).trans rfl, ((HB.out.cell (World.block_lt_of_cell? w _ hw117_0)).trans hw117_0), ((HB.out.cell (World.block_lt_of_cell? w _ hw117_1)).trans hw117_1), ((HB.out.cell (World.block_lt_of_cell? w _ hw117_2)).trans hw117_2), ((HB.out.cell (World.block_lt_of_cell? w _ hw117_3)).trans hw117_3), ((HB.out.cell (World.block_lt_of_cell? w _ hw117_4)).trans hw117_4), ((HB.out.cell (World.block_lt_of_cell? w _ hw117_5)).trans hw117_5), ((HB.out.cell (World.block_lt_of_cell? w _ hw117_6)).trans hw117_6)⟩ (fun hHeld => ?_)
                          clear hK K
                          refine norm_ (a' := ?_) ?_ ?_
                          rotate_left
                          · show Act.put _ (some 45) _ = _
                            simp only [Act.put, List.setIfInBounds_toArray, List.set_cons_zero, List.set_cons_succ, i64_w, i32_w]
                            rfl
                          refine pure_ (i := 25) (N := some 46) (v := ?_) (a' := ?_) (mS 38 67108863) rfl rfl (any_of HT_.out (by kernel_rfl)) (fun _ _ _ h => h) (Or.inl ⟨by rfl, ?_⟩) ?_ ?_
                          rotate_left
                          · intro w'
                            go_simp
                            with_reducible rfl
                          rotate_left
                          · simp only [Act.put, List.setIfInBounds_toArray, List.set_cons_zero, List.set_cons_succ, i64_w, i32_w]
                            rfl
                          refine pure_ (i := 26) (N := some 47) (v := ?_) (a' := ?_) (mS 38 134217727) rfl rfl (any_of HT_.out (by kernel_rfl)) (fun _ _ _ h => h) (Or.inl ⟨by rfl, ?_⟩) ?_ ?_
                          rotate_left
                          · intro w'
                            go_simp
                            with_reducible rfl
                          rotate_left
                          · simp only [Act.put, List.setIfInBounds_toArray, List.set_cons_zero, List.set_cons_succ, i64_w, i32_w]
                            rfl
                          refine pure_ (i := 27) (N := some 48) (v := ?_) (a' := ?_) (mS 38 268435455) rfl rfl (any_of HT_.out (by kernel_rfl)) (fun _ _ _ h => h) (Or.inl ⟨by rfl, ?_⟩) ?_ ?_
                          rotate_left
                          · intro w'
                            go_simp
                            with_reducible rfl
                          rotate_left
                          · simp only [Act.put, List.setIfInBounds_toArray, List.set_cons_zero, List.set_cons_succ, i64_w, i32_w]
                            rfl
                          refine pure_ (i := 28) (N := some 49) (v := undef) (a' := ?_) (mS 38 536870911) rfl rfl (any_of HT_.out (by kernel_rfl)) (fun _ _ _ h => h) (Or.inr ⟨by rfl, rfl⟩) ?_ ?_
                          rotate_left
                          · simp only [Act.put, List.setIfInBounds_toArray, List.set_cons_zero, List.set_cons_succ, i64_w, i32_w]
                            rfl
                          refine pure_ (i := 29) (N := some 50) (v := undef) (a' := ?_) (mS 38 1073741823) rfl rfl (any_of HT_.out (by kernel_rfl)) (fun _ _ _ h => h) (Or.inr ⟨by rfl, rfl⟩) ?_ ?_
                          rotate_left
                          · simp only [Act.put, List.setIfInBounds_toArray, List.set_cons_zero, List.set_cons_succ, i64_w, i32_w]
                            rfl
                          refine pure_ (i := 30) (N := some 51) (v := undef) (a' := ?_) (mS 38 2147483647) rfl rfl (any_of HT_.out (by kernel_rfl)) (fun _ _ _ h => h) (Or.inr ⟨by rfl, rfl⟩) ?_ ?_
                          rotate_left
                          · simp only [Act.put, List.setIfInBounds_toArray, List.set_cons_zero, List.set_cons_succ, i64_w, i32_w]
                            rfl
                          refine pure_ (i := 31) (N := some 52) (v := undef) (a' := ?_) (mS 38 4294967295) rfl rfl (any_of HT_.out (by kernel_rfl)) (fun _ _ _ h => h) (Or.inr ⟨by rfl, rfl⟩) ?_ ?_
                          rotate_left
                          · simp only [Act.put, List.setIfInBounds_toArray, List.set_cons_zero, List.set_cons_succ, i64_w, i32_w]
                            rfl
                          refine pure_ (i := 32) (N := some 53) (v := ?_) (a' := ?_) (mS 38 8589934591) rfl rfl (any_of HT_.out (by kernel_rfl)) (fun _ _ _ h => h) (Or.inl ⟨by rfl, ?_⟩) ?_ ?_
                          rotate_left
                          · intro w'
                            go_simp
                            with_reducible rfl
                          rotate_left
                          · simp only [Act.put, List.setIfInBounds_toArray, List.set_cons_zero, List.set_cons_succ, i64_w, i32_w]
                            rfl
                          refine pure_ (i := 33) (N := some 54) (v := ?_) (a' := ?_) (mS 38 17179869183) rfl rfl (any_of HT_.out (by kernel_rfl)) (fun _ _ _ h => h) (Or.inl ⟨by rfl, ?_⟩) ?_ ?_
                          rotate_left
                          · intro w'
                            go_simp
                            with_reducible rfl
                          rotate_left
                          · simp only [Act.put, List.setIfInBounds_toArray, List.set_cons_zero, List.set_cons_succ, i64_w, i32_w]
                            rfl
                          refine pure_ (i := 34) (N := some 55) (v := undef) (a' := ?_) (mS 38 34359738367) rfl rfl (any_of HT_.out (by kernel_rfl)) (fun _ _ _ h => h) (Or.inr ⟨by rfl, rfl⟩) ?_ ?_
                          rotate_left
                          · simp only [Act.put, List.setIfInBounds_toArray, List.set_cons_zero, List.set_cons_succ, i64_w, i32_w]
                            rfl
                          refine pure_ (i := 35) (N := some 56) (v := undef) (a' := ?_) (mS 38 68719476735) rfl rfl (any_of HT_.out (by kernel_rfl)) (fun _ _ _ h => h) (Or.inr ⟨by rfl, rfl⟩) ?_ ?_
                          rotate_left
                          · simp only [Act.put, List.setIfInBounds_toArray, List.set_cons_zero, List.set_cons_succ, i64_w, i32_w]
                            rfl
                          refine pure_ (i := 36) (N := some 57) (v := undef) (a' := ?_) (mS 38 137438953471) rfl rfl (any_of HT_.out (by kernel_rfl)) (fun _ _ _ h => h) (Or.inr ⟨by rfl, rfl⟩) ?_ ?_
                          rotate_left
                          · simp only [Act.put, List.setIfInBounds_toArray, List.set_cons_zero, List.set_cons_succ, i64_w, i32_w]
                            rfl
                          refine pure_ (i := 37) (N := some 58) (v := ?_) (a' := ?_) (mS 38 274877906943) rfl rfl (any_of HT_.out (by kernel_rfl)) (fun _ _ _ h => h) (Or.inl ⟨by rfl, ?_⟩) ?_ ?_
                          rotate_left
                          · intro w'
                            go_simp
                            with_reducible rfl
                          rotate_left
                          · simp only [Act.put, List.setIfInBounds_toArray, List.set_cons_zero, List.set_cons_succ, i64_w, i32_w]
                            rfl
                          refine done_ (done_of HT_.out (by kernel_rfl)) ?_
                          try go_wp2
                          go_meet
                          case rel => exact ⟨_, (true), (by first | rfl | (simp; done) | (simp [*]; done)), H', ⟨by have := HJ1.out; have := HK2.out; first | omega | exact Nat.le_refl _⟩, ⟨by (with_reducible repeat (first | refine blk_drewN ?_ _ | refine blk_drew ?_ | refine blk_alloc ?_ _)); exact BK115.out⟩, ⟨by repeat (first | (with_reducible first | exact HB.out | apply below_alloc | apply pw_below_drewN | apply below_drew1 | refine below_set ?_ GE115.out) | exact HB.out)⟩⟩
                      · rw [if_neg c17] at H
                        have c17b0 : (((rd_T53 l0 x16_2).f0) == (wrap64 (((rd_T53 l0 (ji14)).f0) + 1))) = false := beq_eq_false_iff_ne.mpr c17
                        have c17b1 : (((rd_T53 l0 x16_2).f0) != (wrap64 (((rd_T53 l0 (ji14)).f0) + 1))) = true := bne_iff_ne.mpr c17
                        have H' := Aside0.mk H
                        clear H
                        try go_wp2
                        have n0_ : Aside0 ((((((((w9.setCell ⟨gb115, 0, none⟩ (.int .i64 ((rd_T53 l0 x16_2).f0))).setCell ⟨gb115, 1, none⟩ (.int .i64 ((rd_T53 l0 x16_2).f1))).setCell ⟨gb115, 2, none⟩ (.int .i64 ((rd_T53 l0 x16_2).f2))).setCell ⟨gb115, 3, none⟩ (.int .i64 ((rd_T53 l0 x16_2).f3))).setCell ⟨gb115, 4, none⟩ (.int .i64 ((rd_T53 l0 x16_2).f4))).setCell ⟨gb115, 5, none⟩ (.int .i64 ((rd_T53 l0 x16_2).f5))).setCell ⟨gb115, 6, none⟩ (.int .i64 ((rd_T53 l0 x16_2).f6))).heap[gb115]? = some (.cells #[.int .i64 ((rd_T53 l0 x16_2).f0), .int .i64 ((rd_T53 l0 x16_2).f1), .int .i64 ((rd_T53 l0 x16_2).f2), .int .i64 ((rd_T53 l0 x16_2).f3), .int .i64 ((rd_T53 l0 x16_2).f4), .int .i64 ((rd_T53 l0 x16_2).f5), .int .i64 ((rd_T53 l0 x16_2).f6)] 53 (0, 0))) := ⟨by (with_reducible repeat (first | refine blk_drewN ?_ _ | refine blk_drew ?_ | refine blk_alloc ?_ _)); refine blk_put (cs := #[.int .i64 ((rd_T53 l0 x16_2).f0), .int .i64 ((rd_T53 l0 x16_2).f1), .int .i64 ((rd_T53 l0 x16_2).f2), .int .i64 ((rd_T53 l0 x16_2).f3), .int .i64 ((rd_T53 l0 x16_2).f4), .int .i64 ((rd_T53 l0 x16_2).f5), .int .i64 0]) ?_ 6 _ rfl; (with_reducible repeat (first | refine blk_drewN ?_ _ | refine blk_drew ?_ | refine blk_alloc ?_ _)); refine blk_put (cs := #[.int .i64 ((rd_T53 l0 x16_2).f0), .int .i64 ((rd_T53 l0 x16_2).f1), .int .i64 ((rd_T53 l0 x16_2).f2), .int .i64 ((rd_T53 l0 x16_2).f3), .int .i64 ((rd_T53 l0 x16_2).f4), .int .i64 0, .int .i64 0]) ?_ 5 _ rfl; (with_reducible repeat (first | refine blk_drewN ?_ _ | refine blk_drew ?_ | refine blk_alloc ?_ _)); refine blk_put (cs := #[.int .i64 ((rd_T53 l0 x16_2).f0), .int .i64 ((rd_T53 l0 x16_2).f1), .int .i64 ((rd_T53 l0 x16_2).f2), .int .i64 ((rd_T53 l0 x16_2).f3), .int .i64 0, .int .i64 0, .int .i64 0]) ?_ 4 _ rfl; (with_reducible repeat (first | refine blk_drewN ?_ _ | refine blk_drew ?_ | refine blk_alloc ?_ _)); refine blk_put (cs := #[.int .i64 ((rd_T53 l0 x16_2).f0), .int .i64 ((rd_T53 l0 x16_2).f1), .int .i64 ((rd_T53 l0 x16_2).f2), .int .i64 0, .int .i64 0, .int .i64 0, .int .i64 0]) ?_ 3 _ rfl; (with_reducible repeat (first | refine blk_drewN ?_ _ | refine blk_drew ?_ | refine blk_alloc ?_ _)); refine blk_put (cs := #[.int .i64 ((rd_T53 l0 x16_2).f0), .int .i64 ((rd_T53 l0 x16_2).f1), .int .i64 0, .int .i64 0, .int .i64 0, .int .i64 0, .int .i64 0]) ?_ 2 _ rfl; (with_reducible repeat (first | refine blk_drewN ?_ _ | refine blk_drew ?_ | refine blk_alloc ?_ _)); refine blk_put (cs := #[.int .i64 ((rd_T53 l0 x16_2).f0), .int .i64 0, .int .i64 0, .int .i64 0, .int .i64 0, .int .i64 0, .int .i64 0]) ?_ 1 _ rfl; (with_reducible repeat (first | refine blk_drewN ?_ _ | refine blk_drew ?_ | refine blk_alloc ?_ _)); refine blk_put (cs := #[.int .i64 0, .int .i64 0, .int .i64 0, .int .i64 0, .int .i64 0, .int .i64 0, .int .i64 0]) ?_ 0 _ rfl; (with_reducible repeat (first | refine blk_drewN ?_ _ | refine blk_drew ?_ | refine blk_alloc ?_ _)); exact BK115.out⟩
                        have n1_ : Aside0 (Below w.heap.size w (((((((w9.setCell ⟨gb115, 0, none⟩ (.int .i64 ((rd_T53 l0 x16_2).f0))).setCell ⟨gb115, 1, none⟩ (.int .i64 ((rd_T53 l0 x16_2).f1))).setCell ⟨gb115, 2, none⟩ (.int .i64 ((rd_T53 l0 x16_2).f2))).setCell ⟨gb115, 3, none⟩ (.int .i64 ((rd_T53 l0 x16_2).f3))).setCell ⟨gb115, 4, none⟩ (.int .i64 ((rd_T53 l0 x16_2).f4))).setCell ⟨gb115, 5, none⟩ (.int .i64 ((rd_T53 l0 x16_2).f5))).setCell ⟨gb115, 6, none⟩ (.int .i64 ((rd_T53 l0 x16_2).f6)))) := ⟨by repeat (first | (with_reducible first | exact HB.out | apply below_alloc | apply pw_below_drewN | apply below_drew1 | refine below_set ?_ GE115.out) | exact HB.out)⟩
                        (try clear BK115)
                        (try clear HB)
                        generalize (((((((w9.setCell ⟨gb115, 0, none⟩ (.int .i64 ((rd_T53 l0 x16_2).f0))).setCell ⟨gb115, 1, none⟩ (.int .i64 ((rd_T53 l0 x16_2).f1))).setCell ⟨gb115, 2, none⟩ (.int .i64 ((rd_T53 l0 x16_2).f2))).setCell ⟨gb115, 3, none⟩ (.int .i64 ((rd_T53 l0 x16_2).f3))).setCell ⟨gb115, 4, none⟩ (.int .i64 ((rd_T53 l0 x16_2).f4))).setCell ⟨gb115, 5, none⟩ (.int .i64 ((rd_T53 l0 x16_2).f5))).setCell ⟨gb115, 6, none⟩ (.int .i64 ((rd_T53 l0 x16_2).f6))) = w30 at n0_ n1_ ⊢
                        have BK115 := n0_
                        have HB := n1_
                        clear n0_ n1_
                        have n0_ := Aside0.mk (blk_drew BK115.out)
                        have n1_ := Aside0.mk (below_drew1 HB.out)
                        clear BK115
                        clear HB
                        have BK115 := n0_
                        have HB := n1_
                        clear n0_ n1_
                        have p117 : 0 ≤ ((ji14) : Int) := of_decide_eq_true (by first | (with_reducible assumption) | assumption)
                        have q117 : (ji14) < (l0.length : Int) := of_decide_eq_true (by first | (with_reducible assumption) | assumption)
                        obtain ⟨ad117, e117, hx117_0, hx117_1, hx117_2, hx117_3, hx117_4, hx117_5, hx117_6⟩ := at_T53 HR0.out (ji14) p117 q117
                        have hw117_6 := hx117_6
                        have hw117_5 := hx117_5
                        have hw117_4 := hx117_4
                        have hw117_3 := hx117_3
                        have hw117_2 := hx117_2
                        have hw117_1 := hx117_1
                        have hw117_0 := hx117_0
                        obtain rfl : ad114 = ad117 := (by injection e117)
                        replace hx117_0 := upc HB.out hx117_0
                        replace hx117_1 := upc HB.out hx117_1
                        replace hx117_2 := upc HB.out hx117_2
                        replace hx117_3 := upc HB.out hx117_3
                        replace hx117_4 := upc HB.out hx117_4
                        replace hx117_5 := upc HB.out hx117_5
                        replace hx117_6 := upc HB.out hx117_6
                        replace p117 := eq_true p117
                        replace q117 := eq_true q117
                        refine start_ (n := 38) (S := fun w' => w'.cell? ⟨gb115, 0, none⟩ = some (.int .i64 ((rd_T53 l0 x16_2).f0)) ∧ w'.cell? ⟨gb115, 1, none⟩ = some (.int .i64 ((rd_T53 l0 x16_2).f1)) ∧ w'.cell? ⟨gb115, 2, none⟩ = some (.int .i64 ((rd_T53 l0 x16_2).f2)) ∧ w'.cell? ⟨gb115, 3, none⟩ = some (.int .i64 ((rd_T53 l0 x16_2).f3)) ∧ w'.cell? ⟨gb115, 4, none⟩ = some (.int .i64 ((rd_T53 l0 x16_2).f4)) ∧ w'.cell? ⟨gb115, 5, none⟩ = some (.int .i64 ((rd_T53 l0 x16_2).f5)) ∧ w'.cell? ⟨gb115, 6, none⟩ = some (.int .i64 ((rd_T53 l0 x16_2).f6)) ∧ w'.cell? (ad114.add (((ji14)).toNat * 7)) = some (.int .i64 ((rd_T53 l0 (ji14)).f0)) ∧ w'.cell? ⟨(ad114.add (((ji14)).toNat * 7)).block, (ad114.add (((ji14)).toNat * 7)).off + 1, none⟩ = some (.int .i64 ((rd_T53 l0 (ji14)).f1)) ∧ w'.cell? ⟨(ad114.add (((ji14)).toNat * 7)).block, (ad114.add (((ji14)).toNat * 7)).off + 2, none⟩ = some (.int .i64 ((rd_T53 l0 (ji14)).f2)) ∧ w'.cell? ⟨(ad114.add (((ji14)).toNat * 7)).block, (ad114.add (((ji14)).toNat * 7)).off + 3, none⟩ = some (.int .i64 ((rd_T53 l0 (ji14)).f3)) ∧ w'.cell? ⟨(ad114.add (((ji14)).toNat * 7)).block, (ad114.add (((ji14)).toNat * 7)).off + 4, none⟩ = some (.int .i64 ((rd_T53 l0 (ji14)).f4)) ∧ w'.cell? ⟨(ad114.add (((ji14)).toNat * 7)).block, (ad114.add (((ji14)).toNat * 7)).off + 5, none⟩ = some (.int .i64 ((rd_T53 l0 (ji14)).f5)) ∧ w'.cell? ⟨(ad114.add (((ji14)).toNat * 7)).block, (ad114.add (((ji14)).toNat * 7)).off + 6, none⟩ = some (.int .i64 ((rd_T53 l0 (ji14)).f6))) (ds := []) #[false, false, false, false, false, false, false, false, false, false, false, false, false, false, false, false, false, false, false, false, false, false, false, false, false, false, false, false, false, false, false, false, false, false, false, false, false, false] (by kernel_rfl) rfl rfl ⟨(blk_cell BK115.out 0).trans rfl, (blk_cell BK115.out 1).trans rfl, (blk_cell BK115.out 2).trans rfl, (blk_cell BK115.out 3).trans rfl, (blk_cell BK115.out 4).trans rfl, (blk_cell BK115.out 5).trans rfl, (blk_cell BK115.out 6).trans rfl, ((HB.out.cell (World.block_lt_of_cell? w _ hw117_0)).trans hw117_0), ((HB.out.cell (World.block_lt_of_cell? w _ hw117_1)).trans hw117_1), ((HB.out.cell (World.block_lt_of_cell? w _ hw117_2)).trans hw117_2), ((HB.out.cell (World.block_lt_of_cell? w _ hw117_3)).trans hw117_3), ((HB.out.cell (World.block_lt_of_cell? w _ hw117_4)).trans hw117_4), ((HB.out.cell (World.block_lt_of_cell? w _ hw117_5)).trans hw117_5), ((HB.out.cell (World.block_lt_of_cell? w _ hw117_6)).trans hw117_6)⟩ (fun hHeld => ?_); refine with_tabW subchannel_session.tab7 subchannel_session.bits7 (fun HT_ HW_ => ?_)
                        generalize w30.drew = w31 at BK115 HB hx117_0 hx117_1 hx117_2 hx117_3 hx117_4 hx117_5 hx117_6 hHeld ⊢
                        refine pure_ (i := 0) (N := some 21) (v := ?_) (a' := ?_) (mS 38 1) rfl rfl (any_of HT_.out (by kernel_rfl)) (fun _ _ _ h => h) (Or.inl ⟨by rfl, ?_⟩) ?_ ?_
                        rotate_left
                        · intro w'
                          go_simp
                          with_reducible rfl
                        rotate_left
                        · simp only [Act.put, List.setIfInBounds_toArray, List.set_cons_zero, List.set_cons_succ, i64_w, i32_w]
                          rfl
                        refine take_ (i := 1) (N := some 22) (v := ?_) (a' := ?_) (mS 38 3) rfl rfl (take_ofW HT_.out HW_.out (by kernel_rfl)) (fun _ _ _ h => h) (Or.inl ⟨by rfl, ?_⟩) hHeld ?_ ?_
                        rotate_left
                        · rintro w' ⟨s0, s1, s2, s3, s4, s5, s6, s7, s8, s9, s10, s11, s12, s13⟩
                          go_simp
                          with_reducible rfl
                        rotate_left
                        · simp only [Act.put, List.setIfInBounds_toArray, List.set_cons_zero, List.set_cons_succ, i64_w, i32_w]
                          rfl
                        refine one_ (i := 2) (N := some 23) (mS 38 7) rfl rfl (one_of HT_.out (by kernel_rfl)) (by decide) (fun K hK => ?_)
                        refine goes_ Try.func26 (by kernel_rfl) rfl #[.int .i64 ((rd_T53 l0 x16_2).f0), .int .i64 1, .int .i64 99] (by rfl) rfl rfl (by (try simp only [List.map_toArray, List.map_cons, List.map_nil]); first | done | rfl | (simp only [List.length_drop, List.length_take]; rfl)) ?_
                        with_reducible refine (subchannel_between.calls ((rd_T53 l0 x16_2).f0) 1 99 true _ A11.out).mono ?_
                        rintro e w' ⟨rfl, ⟨nd, rfl⟩⟩
                        refine ⟨_, rfl, ?_⟩
                        refine hK.out _ _ ⟨(blk_cell BK115.out 0).trans rfl, (blk_cell BK115.out 1).trans rfl, (blk_cell BK115.out 2).trans rfl, (blk_cell BK115.out 3).trans rfl, (blk_cell BK115.out 4).trans rfl, (blk_cell BK115.out 5).trans rfl, (blk_cell BK115.out 6).trans rfl, ((HB.out.cell (World.block_lt_of_cell? w _ hw117_0)).trans hw117_0), ((HB.out.cell (World.block_lt_of_cell? w _ hw117_1)).trans hw117_1), ((HB.out.cell (World.block_lt_of_cell? w _ hw117_2)).trans hw117_2), ((HB.out.cell (World.block_lt_of_cell? w _ hw117_3)).trans hw117_3), ((HB.out.cell (World.block_lt_of_cell? w _ hw117_4)).trans hw117_4), ((HB.out.cell (World.block_lt_of_cell? w _ hw117_5)).trans hw117_5), ((HB.out.cell (World.block_lt_of_cell? w _ hw117_6)).trans hw117_6)⟩ (fun hHeld => ?_)
                        clear hK K
                        refine norm_ (a' := ?_) ?_ ?_
                        rotate_left
                        · show Act.put _ (some 23) _ = _
                          simp only [Act.put, List.setIfInBounds_toArray, List.set_cons_zero, List.set_cons_succ, i64_w, i32_w]
                          rfl
                        refine pure_ (i := 3) (N := some 24) (v := ?_) (a' := ?_) (mS 38 15) rfl rfl (any_of HT_.out (by kernel_rfl)) (fun _ _ _ h => h) (Or.inl ⟨by rfl, ?_⟩) ?_ ?_
                        rotate_left
                        · intro w'
                          go_simp
                          with_reducible rfl
                        rotate_left
                        · simp only [Act.put, List.setIfInBounds_toArray, List.set_cons_zero, List.set_cons_succ, i64_w, i32_w]
                          rfl
                        refine pure_ (i := 4) (N := some 25) (v := ?_) (a' := ?_) (mS 38 31) rfl rfl (any_of HT_.out (by kernel_rfl)) (fun _ _ _ h => h) (Or.inl ⟨by rfl, ?_⟩) ?_ ?_
                        rotate_left
                        · intro w'
                          go_simp
                          with_reducible rfl
                        rotate_left
                        · simp only [Act.put, List.setIfInBounds_toArray, List.set_cons_zero, List.set_cons_succ, i64_w, i32_w]
                          rfl
                        refine pure_ (i := 5) (N := some 26) (v := ?_) (a' := ?_) (mS 38 63) rfl rfl (any_of HT_.out (by kernel_rfl)) (fun _ _ _ h => h) (Or.inl ⟨by rfl, ?_⟩) ?_ ?_
                        rotate_left
                        · intro w'
                          go_simp
                          with_reducible rfl
                        rotate_left
                        · simp only [Act.put, List.setIfInBounds_toArray, List.set_cons_zero, List.set_cons_succ, i64_w, i32_w]
                          rfl
                        refine pure_ (i := 6) (N := some 27) (v := ?_) (a' := ?_) (mS 38 127) rfl rfl (any_of HT_.out (by kernel_rfl)) (fun _ _ _ h => h) (Or.inl ⟨by rfl, ?_⟩) ?_ ?_
                        rotate_left
                        · intro w'
                          go_simp
                          with_reducible rfl
                        rotate_left
                        · simp only [Act.put, List.setIfInBounds_toArray, List.set_cons_zero, List.set_cons_succ, i64_w, i32_w]
                          rfl
                        refine pure_ (i := 7) (N := some 28) (v := ?_) (a' := ?_) (mS 38 255) rfl rfl (any_of HT_.out (by kernel_rfl)) (fun _ _ _ h => h) (Or.inl ⟨by rfl, ?_⟩) ?_ ?_
                        rotate_left
                        · intro w'
                          go_simp
                          with_reducible rfl
                        rotate_left
                        · simp only [Act.put, List.setIfInBounds_toArray, List.set_cons_zero, List.set_cons_succ, i64_w, i32_w]
                          rfl
                        refine pure_ (i := 8) (N := some 29) (v := ?_) (a' := ?_) (mS 38 511) rfl rfl (any_of HT_.out (by kernel_rfl)) (fun _ _ _ h => h) (Or.inl ⟨by rfl, ?_⟩) ?_ ?_
                        rotate_left
                        · intro w'
                          go_simp
                          with_reducible rfl
                        rotate_left
                        · simp only [Act.put, List.setIfInBounds_toArray, List.set_cons_zero, List.set_cons_succ, i64_w, i32_w]
                          rfl
                        refine pure_ (i := 10) (N := some 31) (v := ?_) (a' := ?_) (mS 38 1535) rfl rfl (any_of HT_.out (by kernel_rfl)) (fun _ _ _ h => h) (Or.inl ⟨by rfl, ?_⟩) ?_ ?_
                        rotate_left
                        · intro w'
                          go_simp
                          with_reducible rfl
                        rotate_left
                        · simp only [Act.put, List.setIfInBounds_toArray, List.set_cons_zero, List.set_cons_succ, i64_w, i32_w]
                          rfl
                        refine pure_ (i := 11) (N := some 32) (v := ?_) (a' := ?_) (mS 38 3583) rfl rfl (any_of HT_.out (by kernel_rfl)) (fun _ _ _ h => h) (Or.inl ⟨by rfl, ?_⟩) ?_ ?_
                        rotate_left
                        · intro w'
                          go_simp
                          with_reducible rfl
                        rotate_left
                        · simp only [Act.put, List.setIfInBounds_toArray, List.set_cons_zero, List.set_cons_succ, i64_w, i32_w]
                          rfl
                        refine pure_ (i := 12) (N := some 33) (v := ?_) (a' := ?_) (mS 38 7679) rfl rfl (any_of HT_.out (by kernel_rfl)) (fun _ _ _ h => h) (Or.inl ⟨by rfl, ?_⟩) ?_ ?_
                        rotate_left
                        · intro w'
                          go_simp
                          with_reducible rfl
                        rotate_left
                        · simp only [Act.put, List.setIfInBounds_toArray, List.set_cons_zero, List.set_cons_succ, i64_w, i32_w]
                          rfl
                        refine pure_ (i := 13) (N := some 34) (v := ?_) (a' := ?_) (mS 38 15871) rfl rfl (any_of HT_.out (by kernel_rfl)) (fun _ _ _ h => h) (Or.inl ⟨by rfl, ?_⟩) ?_ ?_
                        rotate_left
                        · intro w'
                          go_simp
                          with_reducible rfl
                        rotate_left
                        · simp only [Act.put, List.setIfInBounds_toArray, List.set_cons_zero, List.set_cons_succ, i64_w, i32_w]
                          rfl
                        refine pure_ (i := 14) (N := some 35) (v := ?_) (a' := ?_) (mS 38 32255) rfl rfl (any_of HT_.out (by kernel_rfl)) (fun _ _ _ h => h) (Or.inl ⟨by rfl, ?_⟩) ?_ ?_
                        rotate_left
                        · intro w'
                          go_simp
                          with_reducible rfl
                        rotate_left
                        · simp only [Act.put, List.setIfInBounds_toArray, List.set_cons_zero, List.set_cons_succ, i64_w, i32_w]
                          rfl
                        refine take_ (i := 9) (N := some 30) (v := ?_) (a' := ?_) (mS 38 32767) rfl rfl (take_ofW HT_.out HW_.out (by kernel_rfl)) (fun _ _ _ h => h) (Or.inl ⟨by rfl, ?_⟩) hHeld ?_ ?_
                        rotate_left
                        · rintro w' ⟨s0, s1, s2, s3, s4, s5, s6, s7, s8, s9, s10, s11, s12, s13⟩
                          go_simp
                          with_reducible rfl
                        rotate_left
                        · simp only [Act.put, List.setIfInBounds_toArray, List.set_cons_zero, List.set_cons_succ, i64_w, i32_w]
                          rfl
                        refine take_ (i := 15) (N := some 36) (v := ?_) (a' := ?_) (mS 38 65535) rfl rfl (take_ofW HT_.out HW_.out (by kernel_rfl)) (fun _ _ _ h => h) (Or.inl ⟨by rfl, ?_⟩) hHeld ?_ ?_
                        rotate_left
                        · rintro w' ⟨s0, s1, s2, s3, s4, s5, s6, s7, s8, s9, s10, s11, s12, s13⟩
                          go_simp
                          with_reducible rfl
                        rotate_left
                        · simp only [Act.put, List.setIfInBounds_toArray, List.set_cons_zero, List.set_cons_succ, i64_w, i32_w]
                          rfl
                        refine pure_ (i := 16) (N := some 37) (v := ?_) (a' := ?_) (mS 38 131071) rfl rfl (any_of HT_.out (by kernel_rfl)) (fun _ _ _ h => h) (Or.inl ⟨by rfl, ?_⟩) ?_ ?_
                        rotate_left
                        · intro w'
                          go_simp
                          with_reducible rfl
                        rotate_left
                        · simp only [Act.put, List.setIfInBounds_toArray, List.set_cons_zero, List.set_cons_succ, i64_w, i32_w]
                          rfl
                        refine pure_ (i := 17) (N := some 38) (v := ?_) (a' := ?_) (mS 38 262143) rfl rfl (any_of HT_.out (by kernel_rfl)) (fun _ _ _ h => h) (Or.inl ⟨by rfl, ?_⟩) ?_ ?_
                        rotate_left
                        · intro w'
                          go_simp
                          with_reducible rfl
                        rotate_left
                        · simp only [Act.put, List.setIfInBounds_toArray, List.set_cons_zero, List.set_cons_succ, i64_w, i32_w]
                          rfl
                        refine pure_ (i := 18) (N := some 39) (v := ?_) (a' := ?_) (mS 38 524287) rfl rfl (any_of HT_.out (by kernel_rfl)) (fun _ _ _ h => h) (Or.inl ⟨by rfl, ?_⟩) ?_ ?_
                        rotate_left
                        · intro w'
                          go_simp
                          with_reducible rfl
                        rotate_left
                        · simp only [Act.put, List.setIfInBounds_toArray, List.set_cons_zero, List.set_cons_succ, i64_w, i32_w]
                          rfl
                        refine pure_ (i := 19) (N := some 40) (v := ?_) (a' := ?_) (mS 38 1048575) rfl rfl (any_of HT_.out (by kernel_rfl)) (fun _ _ _ h => h) (Or.inl ⟨by rfl, ?_⟩) ?_ ?_
                        rotate_left
                        · intro w'
                          go_simp
                          with_reducible rfl
                        rotate_left
                        · simp only [Act.put, List.setIfInBounds_toArray, List.set_cons_zero, List.set_cons_succ, i64_w, i32_w]
                          rfl
                        refine pure_ (i := 20) (N := some 41) (v := ?_) (a' := ?_) (mS 38 2097151) rfl rfl (any_of HT_.out (by kernel_rfl)) (fun _ _ _ h => h) (Or.inl ⟨by rfl, ?_⟩) ?_ ?_
                        rotate_left
                        · intro w'
                          go_simp
                          with_reducible rfl
                        rotate_left
                        · simp only [Act.put, List.setIfInBounds_toArray, List.set_cons_zero, List.set_cons_succ, i64_w, i32_w]
                          rfl
                        refine pure_ (i := 21) (N := some 42) (v := undef) (a' := ?_) (mS 38 4194303) rfl rfl (any_of HT_.out (by kernel_rfl)) (fun _ _ _ h => h) (Or.inr ⟨by rfl, rfl⟩) ?_ ?_
                        rotate_left
                        · simp only [Act.put, List.setIfInBounds_toArray, List.set_cons_zero, List.set_cons_succ, i64_w, i32_w]
                          rfl
                        refine pure_ (i := 22) (N := some 43) (v := undef) (a' := ?_) (mS 38 8388607) rfl rfl (any_of HT_.out (by kernel_rfl)) (fun _ _ _ h => h) (Or.inr ⟨by rfl, rfl⟩) ?_ ?_
                        rotate_left
                        · simp only [Act.put, List.setIfInBounds_toArray, List.set_cons_zero, List.set_cons_succ, i64_w, i32_w]
                          rfl
                        refine pure_ (i := 23) (N := some 44) (v := undef) (a' := ?_) (mS 38 16777215) rfl rfl (any_of HT_.out (by kernel_rfl)) (fun _ _ _ h => h) (Or.inr ⟨by rfl, rfl⟩) ?_ ?_
                        rotate_left
                        · simp only [Act.put, List.setIfInBounds_toArray, List.set_cons_zero, List.set_cons_succ, i64_w, i32_w]
                          rfl
                        refine pure_ (i := 24) (N := some 45) (v := undef) (a' := ?_) (mS 38 33554431) rfl rfl (any_of HT_.out (by kernel_rfl)) (fun _ _ _ h => h) (Or.inr ⟨by rfl, rfl⟩) ?_ ?_
                        rotate_left
                        · simp only [Act.put, List.setIfInBounds_toArray, List.set_cons_zero, List.set_cons_succ, i64_w, i32_w]
                          rfl
                        refine pure_ (i := 25) (N := some 46) (v := undef) (a' := ?_) (mS 38 67108863) rfl rfl (any_of HT_.out (by kernel_rfl)) (fun _ _ _ h => h) (Or.inr ⟨by rfl, rfl⟩) ?_ ?_
                        rotate_left
                        · simp only [Act.put, List.setIfInBounds_toArray, List.set_cons_zero, List.set_cons_succ, i64_w, i32_w]
                          rfl
                        refine pure_ (i := 26) (N := some 47) (v := ?_) (a' := ?_) (mS 38 134217727) rfl rfl (any_of HT_.out (by kernel_rfl)) (fun _ _ _ h => h) (Or.inl ⟨by rfl, ?_⟩) ?_ ?_
                        rotate_left
                        · intro w'
                          go_simp
                          with_reducible rfl
                        rotate_left
                        · simp only [Act.put, List.setIfInBounds_toArray, List.set_cons_zero, List.set_cons_succ, i64_w, i32_w]
                          rfl
                        refine pure_ (i := 27) (N := some 48) (v := ?_) (a' := ?_) (mS 38 268435455) rfl rfl (any_of HT_.out (by kernel_rfl)) (fun _ _ _ h => h) (Or.inl ⟨by rfl, ?_⟩) ?_ ?_
                        rotate_left
                        · intro w'
                          go_simp
                          with_reducible rfl
                        rotate_left
                        · simp only [Act.put, List.setIfInBounds_toArray, List.set_cons_zero, List.set_cons_succ, i64_w, i32_w]
                          rfl
                        refine pure_ (i := 28) (N := some 49) (v := undef) (a' := ?_) (mS 38 536870911) rfl rfl (any_of HT_.out (by kernel_rfl)) (fun _ _ _ h => h) (Or.inr ⟨by rfl, rfl⟩) ?_ ?_
                        rotate_left
                        · simp only [Act.put, List.setIfInBounds_toArray, List.set_cons_zero, List.set_cons_succ, i64_w, i32_w]
                          rfl
                        refine pure_ (i := 29) (N := some 50) (v := undef) (a' := ?_) (mS 38 1073741823) rfl rfl (any_of HT_.out (by kernel_rfl)) (fun _ _ _ h => h) (Or.inr ⟨by rfl, rfl⟩) ?_ ?_
                        rotate_left
                        · simp only [Act.put, List.setIfInBounds_toArray, List.set_cons_zero, List.set_cons_succ, i64_w, i32_w]
                          rfl
                        refine pure_ (i := 30) (N := some 51) (v := undef) (a' := ?_) (mS 38 2147483647) rfl rfl (any_of HT_.out (by kernel_rfl)) (fun _ _ _ h => h) (Or.inr ⟨by rfl, rfl⟩) ?_ ?_
                        rotate_left
                        · simp only [Act.put, List.setIfInBounds_toArray, List.set_cons_zero, List.set_cons_succ, i64_w, i32_w]
                          rfl
                        refine pure_ (i := 31) (N := some 52) (v := undef) (a' := ?_) (mS 38 4294967295) rfl rfl (any_of HT_.out (by kernel_rfl)) (fun _ _ _ h => h) (Or.inr ⟨by rfl, rfl⟩) ?_ ?_
                        rotate_left
                        · simp only [Act.put, List.setIfInBounds_toArray, List.set_cons_zero, List.set_cons_succ, i64_w, i32_w]
                          rfl
                        refine pure_ (i := 32) (N := some 53) (v := ?_) (a' := ?_) (mS 38 8589934591) rfl rfl (any_of HT_.out (by kernel_rfl)) (fun _ _ _ h => h) (Or.inl ⟨by rfl, ?_⟩) ?_ ?_
                        rotate_left
                        · intro w'
                          go_simp
                          with_reducible rfl
                        rotate_left
                        · simp only [Act.put, List.setIfInBounds_toArray, List.set_cons_zero, List.set_cons_succ, i64_w, i32_w]
                          rfl
                        refine pure_ (i := 33) (N := some 54) (v := ?_) (a' := ?_) (mS 38 17179869183) rfl rfl (any_of HT_.out (by kernel_rfl)) (fun _ _ _ h => h) (Or.inl ⟨by rfl, ?_⟩) ?_ ?_
                        rotate_left
                        · intro w'
                          go_simp
                          with_reducible rfl
                        rotate_left
                        · simp only [Act.put, List.setIfInBounds_toArray, List.set_cons_zero, List.set_cons_succ, i64_w, i32_w]
                          rfl
                        refine pure_ (i := 34) (N := some 55) (v := undef) (a' := ?_) (mS 38 34359738367) rfl rfl (any_of HT_.out (by kernel_rfl)) (fun _ _ _ h => h) (Or.inr ⟨by rfl, rfl⟩) ?_ ?_
                        rotate_left
                        · simp only [Act.put, List.setIfInBounds_toArray, List.set_cons_zero, List.set_cons_succ, i64_w, i32_w]
                          rfl
                        refine pure_ (i := 35) (N := some 56) (v := undef) (a' := ?_) (mS 38 68719476735) rfl rfl (any_of HT_.out (by kernel_rfl)) (fun _ _ _ h => h) (Or.inr ⟨by rfl, rfl⟩) ?_ ?_
                        rotate_left
                        · simp only [Act.put, List.setIfInBounds_toArray, List.set_cons_zero, List.set_cons_succ, i64_w, i32_w]
                          rfl
                        refine pure_ (i := 36) (N := some 57) (v := undef) (a' := ?_) (mS 38 137438953471) rfl rfl (any_of HT_.out (by kernel_rfl)) (fun _ _ _ h => h) (Or.inr ⟨by rfl, rfl⟩) ?_ ?_
                        rotate_left
                        · simp only [Act.put, List.setIfInBounds_toArray, List.set_cons_zero, List.set_cons_succ, i64_w, i32_w]
                          rfl
                        refine pure_ (i := 37) (N := some 58) (v := ?_) (a' := ?_) (mS 38 274877906943) rfl rfl (any_of HT_.out (by kernel_rfl)) (fun _ _ _ h => h) (Or.inl ⟨by rfl, ?_⟩) ?_ ?_
                        rotate_left
                        · intro w'
                          go_simp
                          with_reducible rfl
                        rotate_left
                        · simp only [Act.put, List.setIfInBounds_toArray, List.set_cons_zero, List.set_cons_succ, i64_w, i32_w]
                          rfl
                        refine done_ (done_of HT_.out (by kernel_rfl)) ?_
                        try go_wp2
                        go_meet
                        case rel => exact ⟨_, (true), (by first | rfl | (simp; done) | (simp [*]; done)), H', ⟨by have := HJ1.out; have := HK2.out; first | omega | exact Nat.le_refl _⟩, ⟨by (with_reducible repeat (first | refine blk_drewN ?_ _ | refine blk_drew ?_ | refine blk_alloc ?_ _)); exact BK115.out⟩, ⟨by repeat (first | (with_reducible first | exact HB.out | apply below_alloc | apply pw_below_drewN | apply below_drew1 | refine below_set ?_ GE115.out) | exact HB.out)⟩⟩
                    · rw [if_neg c16] at H
                      exact absurd H (by simp)
                  · rw [if_neg c15] at H
                    exact absurd H (by simp)
                · rw [if_neg c13] at H
                  have c13b0 : decide (0 < x16_2) = false := decide_eq_false c13
                  clear c13
                  (first | rw [c13b0] | (simp only [i64_w, i32_w]; rw [c13b0]) | skip)
                  replace H := Option.bind_eq_some_iff.mp H
                  obtain ⟨t121, A320, H⟩ := H
                  replace H : (if t121 = true then ((subchannel_between.f ((rd_T53 l0 x16_2).f3) 1 449849).bind fun t122 => (if t122 = true then ((subchannel_end.f ((rd_T53 l0 x16_2).f0) ((rd_T53 l0 x16_2).f1) ((rd_T53 l0 x16_2).f2) ((rd_T53 l0 x16_2).f3) ((rd_T53 l0 x16_2).f4) ((rd_T53 l0 x16_2).f5) ((rd_T53 l0 x16_2).f6)).bind fun t123 => (subchannel_session.j2 k2 l0 l0 (l0.length : Int) x16_2 (decide (t123 > 449849)) ((rd_T53 l0 x16_2).f0) ((rd_T53 l0 x16_2).f1) ((rd_T53 l0 x16_2).f2) ((rd_T53 l0 x16_2).f3) ((rd_T53 l0 x16_2).f4) ((rd_T53 l0 x16_2).f5) ((rd_T53 l0 x16_2).f6))) else (subchannel_session.j2 k2 l0 l0 (l0.length : Int) x16_2 true ((rd_T53 l0 x16_2).f0) ((rd_T53 l0 x16_2).f1) ((rd_T53 l0 x16_2).f2) ((rd_T53 l0 x16_2).f3) ((rd_T53 l0 x16_2).f4) ((rd_T53 l0 x16_2).f5) ((rd_T53 l0 x16_2).f6)))) else (subchannel_session.j2 k2 l0 l0 (l0.length : Int) x16_2 true ((rd_T53 l0 x16_2).f0) ((rd_T53 l0 x16_2).f1) ((rd_T53 l0 x16_2).f2) ((rd_T53 l0 x16_2).f3) ((rd_T53 l0 x16_2).f4) ((rd_T53 l0 x16_2).f5) ((rd_T53 l0 x16_2).f6))) = some r := H
                  have A32 := Aside0.mk A320
                  clear A320
                  by_cases c33 : t121 = true
                  · subst c33
                    have H1 : ((subchannel_between.f ((rd_T53 l0 x16_2).f3) 1 449849).bind fun t122 => (if t122 = true then ((subchannel_end.f ((rd_T53 l0 x16_2).f0) ((rd_T53 l0 x16_2).f1) ((rd_T53 l0 x16_2).f2) ((rd_T53 l0 x16_2).f3) ((rd_T53 l0 x16_2).f4) ((rd_T53 l0 x16_2).f5) ((rd_T53 l0 x16_2).f6)).bind fun t123 => (subchannel_session.j2 k2 l0 l0 (l0.length : Int) x16_2 (decide (t123 > 449849)) ((rd_T53 l0 x16_2).f0) ((rd_T53 l0 x16_2).f1) ((rd_T53 l0 x16_2).f2) ((rd_T53 l0 x16_2).f3) ((rd_T53 l0 x16_2).f4) ((rd_T53 l0 x16_2).f5) ((rd_T53 l0 x16_2).f6))) else (subchannel_session.j2 k2 l0 l0 (l0.length : Int) x16_2 true ((rd_T53 l0 x16_2).f0) ((rd_T53 l0 x16_2).f1) ((rd_T53 l0 x16_2).f2) ((rd_T53 l0 x16_2).f3) ((rd_T53 l0 x16_2).f4) ((rd_T53 l0 x16_2).f5) ((rd_T53 l0 x16_2).f6)))) = some r := by rw [if_pos rfl] at H; exact H
                    clear H
                    have H := H1
                    clear H1
                    replace H := Option.bind_eq_some_iff.mp H
                    obtain ⟨t122, A340, H⟩ := H
                    replace H : (if t122 = true then ((subchannel_end.f ((rd_T53 l0 x16_2).f0) ((rd_T53 l0 x16_2).f1) ((rd_T53 l0 x16_2).f2) ((rd_T53 l0 x16_2).f3) ((rd_T53 l0 x16_2).f4) ((rd_T53 l0 x16_2).f5) ((rd_T53 l0 x16_2).f6)).bind fun t123 => (subchannel_session.j2 k2 l0 l0 (l0.length : Int) x16_2 (decide (t123 > 449849)) ((rd_T53 l0 x16_2).f0) ((rd_T53 l0 x16_2).f1) ((rd_T53 l0 x16_2).f2) ((rd_T53 l0 x16_2).f3) ((rd_T53 l0 x16_2).f4) ((rd_T53 l0 x16_2).f5) ((rd_T53 l0 x16_2).f6))) else (subchannel_session.j2 k2 l0 l0 (l0.length : Int) x16_2 true ((rd_T53 l0 x16_2).f0) ((rd_T53 l0 x16_2).f1) ((rd_T53 l0 x16_2).f2) ((rd_T53 l0 x16_2).f3) ((rd_T53 l0 x16_2).f4) ((rd_T53 l0 x16_2).f5) ((rd_T53 l0 x16_2).f6))) = some r := H
                    have A34 := Aside0.mk A340
                    clear A340
                    by_cases c35 : t122 = true
                    · subst c35
                      have H1 : ((subchannel_end.f ((rd_T53 l0 x16_2).f0) ((rd_T53 l0 x16_2).f1) ((rd_T53 l0 x16_2).f2) ((rd_T53 l0 x16_2).f3) ((rd_T53 l0 x16_2).f4) ((rd_T53 l0 x16_2).f5) ((rd_T53 l0 x16_2).f6)).bind fun t123 => (subchannel_session.j2 k2 l0 l0 (l0.length : Int) x16_2 (decide (t123 > 449849)) ((rd_T53 l0 x16_2).f0) ((rd_T53 l0 x16_2).f1) ((rd_T53 l0 x16_2).f2) ((rd_T53 l0 x16_2).f3) ((rd_T53 l0 x16_2).f4) ((rd_T53 l0 x16_2).f5) ((rd_T53 l0 x16_2).f6))) = some r := by rw [if_pos rfl] at H; exact H
                      clear H
                      have H := H1
                      clear H1
                      replace H := Option.bind_eq_some_iff.mp H
                      obtain ⟨t123, A360, H⟩ := H
                      replace H : (subchannel_session.j2 k2 l0 l0 (l0.length : Int) x16_2 (decide (t123 > 449849)) ((rd_T53 l0 x16_2).f0) ((rd_T53 l0 x16_2).f1) ((rd_T53 l0 x16_2).f2) ((rd_T53 l0 x16_2).f3) ((rd_T53 l0 x16_2).f4) ((rd_T53 l0 x16_2).f5) ((rd_T53 l0 x16_2).f6)) = some r := H
                      have A36 := Aside0.mk A360
                      clear A360
                      have H' := Aside0.mk H
                      clear H
                      try go_wp2
                      have n0_ : Aside0 ((((((((w9.setCell ⟨gb115, 0, none⟩ (.int .i64 ((rd_T53 l0 x16_2).f0))).setCell ⟨gb115, 1, none⟩ (.int .i64 ((rd_T53 l0 x16_2).f1))).setCell ⟨gb115, 2, none⟩ (.int .i64 ((rd_T53 l0 x16_2).f2))).setCell ⟨gb115, 3, none⟩ (.int .i64 ((rd_T53 l0 x16_2).f3))).setCell ⟨gb115, 4, none⟩ (.int .i64 ((rd_T53 l0 x16_2).f4))).setCell ⟨gb115, 5, none⟩ (.int .i64 ((rd_T53 l0 x16_2).f5))).setCell ⟨gb115, 6, none⟩ (.int .i64 ((rd_T53 l0 x16_2).f6))).heap[gb115]? = some (.cells #[.int .i64 ((rd_T53 l0 x16_2).f0), .int .i64 ((rd_T53 l0 x16_2).f1), .int .i64 ((rd_T53 l0 x16_2).f2), .int .i64 ((rd_T53 l0 x16_2).f3), .int .i64 ((rd_T53 l0 x16_2).f4), .int .i64 ((rd_T53 l0 x16_2).f5), .int .i64 ((rd_T53 l0 x16_2).f6)] 53 (0, 0))) := ⟨by (with_reducible repeat (first | refine blk_drewN ?_ _ | refine blk_drew ?_ | refine blk_alloc ?_ _)); refine blk_put (cs := #[.int .i64 ((rd_T53 l0 x16_2).f0), .int .i64 ((rd_T53 l0 x16_2).f1), .int .i64 ((rd_T53 l0 x16_2).f2), .int .i64 ((rd_T53 l0 x16_2).f3), .int .i64 ((rd_T53 l0 x16_2).f4), .int .i64 ((rd_T53 l0 x16_2).f5), .int .i64 0]) ?_ 6 _ rfl; (with_reducible repeat (first | refine blk_drewN ?_ _ | refine blk_drew ?_ | refine blk_alloc ?_ _)); refine blk_put (cs := #[.int .i64 ((rd_T53 l0 x16_2).f0), .int .i64 ((rd_T53 l0 x16_2).f1), .int .i64 ((rd_T53 l0 x16_2).f2), .int .i64 ((rd_T53 l0 x16_2).f3), .int .i64 ((rd_T53 l0 x16_2).f4), .int .i64 0, .int .i64 0]) ?_ 5 _ rfl; (with_reducible repeat (first | refine blk_drewN ?_ _ | refine blk_drew ?_ | refine blk_alloc ?_ _)); refine blk_put (cs := #[.int .i64 ((rd_T53 l0 x16_2).f0), .int .i64 ((rd_T53 l0 x16_2).f1), .int .i64 ((rd_T53 l0 x16_2).f2), .int .i64 ((rd_T53 l0 x16_2).f3), .int .i64 0, .int .i64 0, .int .i64 0]) ?_ 4 _ rfl; (with_reducible repeat (first | refine blk_drewN ?_ _ | refine blk_drew ?_ | refine blk_alloc ?_ _)); refine blk_put (cs := #[.int .i64 ((rd_T53 l0 x16_2).f0), .int .i64 ((rd_T53 l0 x16_2).f1), .int .i64 ((rd_T53 l0 x16_2).f2), .int .i64 0, .int .i64 0, .int .i64 0, .int .i64 0]) ?_ 3 _ rfl; (with_reducible repeat (first | refine blk_drewN ?_ _ | refine blk_drew ?_ | refine blk_alloc ?_ _)); refine blk_put (cs := #[.int .i64 ((rd_T53 l0 x16_2).f0), .int .i64 ((rd_T53 l0 x16_2).f1), .int .i64 0, .int .i64 0, .int .i64 0, .int .i64 0, .int .i64 0]) ?_ 2 _ rfl; (with_reducible repeat (first | refine blk_drewN ?_ _ | refine blk_drew ?_ | refine blk_alloc ?_ _)); refine blk_put (cs := #[.int .i64 ((rd_T53 l0 x16_2).f0), .int .i64 0, .int .i64 0, .int .i64 0, .int .i64 0, .int .i64 0, .int .i64 0]) ?_ 1 _ rfl; (with_reducible repeat (first | refine blk_drewN ?_ _ | refine blk_drew ?_ | refine blk_alloc ?_ _)); refine blk_put (cs := #[.int .i64 0, .int .i64 0, .int .i64 0, .int .i64 0, .int .i64 0, .int .i64 0, .int .i64 0]) ?_ 0 _ rfl; (with_reducible repeat (first | refine blk_drewN ?_ _ | refine blk_drew ?_ | refine blk_alloc ?_ _)); exact BK115.out⟩
                      have n1_ : Aside0 (Below w.heap.size w (((((((w9.setCell ⟨gb115, 0, none⟩ (.int .i64 ((rd_T53 l0 x16_2).f0))).setCell ⟨gb115, 1, none⟩ (.int .i64 ((rd_T53 l0 x16_2).f1))).setCell ⟨gb115, 2, none⟩ (.int .i64 ((rd_T53 l0 x16_2).f2))).setCell ⟨gb115, 3, none⟩ (.int .i64 ((rd_T53 l0 x16_2).f3))).setCell ⟨gb115, 4, none⟩ (.int .i64 ((rd_T53 l0 x16_2).f4))).setCell ⟨gb115, 5, none⟩ (.int .i64 ((rd_T53 l0 x16_2).f5))).setCell ⟨gb115, 6, none⟩ (.int .i64 ((rd_T53 l0 x16_2).f6)))) := ⟨by repeat (first | (with_reducible first | exact HB.out | apply below_alloc | apply pw_below_drewN | apply below_drew1 | refine below_set ?_ GE115.out) | exact HB.out)⟩
                      (try clear BK115)
                      (try clear HB)
                      generalize (((((((w9.setCell ⟨gb115, 0, none⟩ (.int .i64 ((rd_T53 l0 x16_2).f0))).setCell ⟨gb115, 1, none⟩ (.int .i64 ((rd_T53 l0 x16_2).f1))).setCell ⟨gb115, 2, none⟩ (.int .i64 ((rd_T53 l0 x16_2).f2))).setCell ⟨gb115, 3, none⟩ (.int .i64 ((rd_T53 l0 x16_2).f3))).setCell ⟨gb115, 4, none⟩ (.int .i64 ((rd_T53 l0 x16_2).f4))).setCell ⟨gb115, 5, none⟩ (.int .i64 ((rd_T53 l0 x16_2).f5))).setCell ⟨gb115, 6, none⟩ (.int .i64 ((rd_T53 l0 x16_2).f6))) = w37 at n0_ n1_ ⊢
                      have BK115 := n0_
                      have HB := n1_
                      clear n0_ n1_
                      have n0_ := Aside0.mk (blk_drew BK115.out)
                      have n1_ := Aside0.mk (below_drew1 HB.out)
                      clear BK115
                      clear HB
                      have BK115 := n0_
                      have HB := n1_
                      clear n0_ n1_
                      refine start_ (n := 38) (S := fun w' => w'.cell? ⟨gb115, 0, none⟩ = some (.int .i64 ((rd_T53 l0 x16_2).f0)) ∧ w'.cell? ⟨gb115, 1, none⟩ = some (.int .i64 ((rd_T53 l0 x16_2).f1)) ∧ w'.cell? ⟨gb115, 2, none⟩ = some (.int .i64 ((rd_T53 l0 x16_2).f2)) ∧ w'.cell? ⟨gb115, 3, none⟩ = some (.int .i64 ((rd_T53 l0 x16_2).f3)) ∧ w'.cell? ⟨gb115, 4, none⟩ = some (.int .i64 ((rd_T53 l0 x16_2).f4)) ∧ w'.cell? ⟨gb115, 5, none⟩ = some (.int .i64 ((rd_T53 l0 x16_2).f5)) ∧ w'.cell? ⟨gb115, 6, none⟩ = some (.int .i64 ((rd_T53 l0 x16_2).f6))) (ds := []) #[false, false, false, false, false, false, false, false, false, false, false, false, false, false, false, false, false, false, false, false, false, false, false, false, false, false, false, false, false, false, false, false, false, false, false, false, false, false] (by kernel_rfl) rfl rfl ⟨(blk_cell BK115.out 0).trans rfl, (blk_cell BK115.out 1).trans rfl, (blk_cell BK115.out 2).trans rfl, (blk_cell BK115.out 3).trans rfl, (blk_cell BK115.out 4).trans rfl, (blk_cell BK115.out 5).trans rfl, (blk_cell BK115.out 6).trans rfl⟩ (fun hHeld => ?_); refine with_tabW subchannel_session.tab7 subchannel_session.bits7 (fun HT_ HW_ => ?_)
                      generalize w37.drew = w38 at BK115 HB hHeld ⊢
                      refine pure_ (i := 0) (N := some 21) (v := ?_) (a' := ?_) (mS 38 1) rfl rfl (any_of HT_.out (by kernel_rfl)) (fun _ _ _ h => h) (Or.inl ⟨by rfl, ?_⟩) ?_ ?_
                      rotate_left
                      · intro w'
                        go_simp
                        with_reducible rfl
                      rotate_left
                      · simp only [Act.put, List.setIfInBounds_toArray, List.set_cons_zero, List.set_cons_succ, i64_w, i32_w]
                        rfl
                      refine take_ (i := 1) (N := some 22) (v := ?_) (a' := ?_) (mS 38 3) rfl rfl (take_ofW HT_.out HW_.out (by kernel_rfl)) (fun _ _ _ h => h) (Or.inl ⟨by rfl, ?_⟩) hHeld ?_ ?_
                      rotate_left
                      · rintro w' ⟨s0, s1, s2, s3, s4, s5, s6⟩
                        go_simp
                        with_reducible rfl
                      rotate_left
                      · simp only [Act.put, List.setIfInBounds_toArray, List.set_cons_zero, List.set_cons_succ, i64_w, i32_w]
                        rfl
                      refine one_ (i := 2) (N := some 23) (mS 38 7) rfl rfl (one_of HT_.out (by kernel_rfl)) (by decide) (fun K hK => ?_)
                      refine goes_ Try.func26 (by kernel_rfl) rfl #[.int .i64 ((rd_T53 l0 x16_2).f0), .int .i64 1, .int .i64 99] (by rfl) rfl rfl (by (try simp only [List.map_toArray, List.map_cons, List.map_nil]); first | done | rfl | (simp only [List.length_drop, List.length_take]; rfl)) ?_
                      with_reducible refine (subchannel_between.calls ((rd_T53 l0 x16_2).f0) 1 99 true _ A11.out).mono ?_
                      rintro e w' ⟨rfl, ⟨nd, rfl⟩⟩
                      refine ⟨_, rfl, ?_⟩
                      refine hK.out _ _ ⟨(blk_cell BK115.out 0).trans rfl, (blk_cell BK115.out 1).trans rfl, (blk_cell BK115.out 2).trans rfl, (blk_cell BK115.out 3).trans rfl, (blk_cell BK115.out 4).trans rfl, (blk_cell BK115.out 5).trans rfl, (blk_cell BK115.out 6).trans rfl⟩ (fun hHeld => ?_)
                      clear hK K
                      refine norm_ (a' := ?_) ?_ ?_
                      rotate_left
                      · show Act.put _ (some 23) _ = _
                        simp only [Act.put, List.setIfInBounds_toArray, List.set_cons_zero, List.set_cons_succ, i64_w, i32_w]
                        rfl
                      refine pure_ (i := 3) (N := some 24) (v := ?_) (a' := ?_) (mS 38 15) rfl rfl (any_of HT_.out (by kernel_rfl)) (fun _ _ _ h => h) (Or.inl ⟨by rfl, ?_⟩) ?_ ?_
                      rotate_left
                      · intro w'
                        go_simp
                        with_reducible rfl
                      rotate_left
                      · simp only [Act.put, List.setIfInBounds_toArray, List.set_cons_zero, List.set_cons_succ, i64_w, i32_w]
                        rfl
                      refine pure_ (i := 4) (N := some 25) (v := ?_) (a' := ?_) (mS 38 31) rfl rfl (any_of HT_.out (by kernel_rfl)) (fun _ _ _ h => h) (Or.inl ⟨by rfl, ?_⟩) ?_ ?_
                      rotate_left
                      · intro w'
                        go_simp
                        with_reducible rfl
                      rotate_left
                      · simp only [Act.put, List.setIfInBounds_toArray, List.set_cons_zero, List.set_cons_succ, i64_w, i32_w]
                        rfl
                      refine pure_ (i := 5) (N := some 26) (v := ?_) (a' := ?_) (mS 38 63) rfl rfl (any_of HT_.out (by kernel_rfl)) (fun _ _ _ h => h) (Or.inl ⟨by rfl, ?_⟩) ?_ ?_
                      rotate_left
                      · intro w'
                        go_simp
                        with_reducible rfl
                      rotate_left
                      · simp only [Act.put, List.setIfInBounds_toArray, List.set_cons_zero, List.set_cons_succ, i64_w, i32_w]
                        rfl
                      refine pure_ (i := 6) (N := some 27) (v := ?_) (a' := ?_) (mS 38 127) rfl rfl (any_of HT_.out (by kernel_rfl)) (fun _ _ _ h => h) (Or.inl ⟨by rfl, ?_⟩) ?_ ?_
                      rotate_left
                      · intro w'
                        go_simp
                        with_reducible rfl
                      rotate_left
                      · simp only [Act.put, List.setIfInBounds_toArray, List.set_cons_zero, List.set_cons_succ, i64_w, i32_w]
                        rfl
                      refine pure_ (i := 7) (N := some 28) (v := ?_) (a' := ?_) (mS 38 255) rfl rfl (any_of HT_.out (by kernel_rfl)) (fun _ _ _ h => h) (Or.inl ⟨by rfl, ?_⟩) ?_ ?_
                      rotate_left
                      · intro w'
                        go_simp
                        with_reducible rfl
                      rotate_left
                      · simp only [Act.put, List.setIfInBounds_toArray, List.set_cons_zero, List.set_cons_succ, i64_w, i32_w]
                        rfl
                      refine pure_ (i := 8) (N := some 29) (v := undef) (a' := ?_) (mS 38 511) rfl rfl (any_of HT_.out (by kernel_rfl)) (fun _ _ _ h => h) (Or.inr ⟨by rfl, rfl⟩) ?_ ?_
                      rotate_left
                      · simp only [Act.put, List.setIfInBounds_toArray, List.set_cons_zero, List.set_cons_succ, i64_w, i32_w]
                        rfl
                      refine pure_ (i := 9) (N := some 30) (v := undef) (a' := ?_) (mS 38 1023) rfl rfl (any_of HT_.out (by kernel_rfl)) (fun _ _ _ h => h) (Or.inr ⟨by rfl, rfl⟩) ?_ ?_
                      rotate_left
                      · simp only [Act.put, List.setIfInBounds_toArray, List.set_cons_zero, List.set_cons_succ, i64_w, i32_w]
                        rfl
                      refine pure_ (i := 10) (N := some 31) (v := undef) (a' := ?_) (mS 38 2047) rfl rfl (any_of HT_.out (by kernel_rfl)) (fun _ _ _ h => h) (Or.inr ⟨by rfl, rfl⟩) ?_ ?_
                      rotate_left
                      · simp only [Act.put, List.setIfInBounds_toArray, List.set_cons_zero, List.set_cons_succ, i64_w, i32_w]
                        rfl
                      refine pure_ (i := 11) (N := some 32) (v := undef) (a' := ?_) (mS 38 4095) rfl rfl (any_of HT_.out (by kernel_rfl)) (fun _ _ _ h => h) (Or.inr ⟨by rfl, rfl⟩) ?_ ?_
                      rotate_left
                      · simp only [Act.put, List.setIfInBounds_toArray, List.set_cons_zero, List.set_cons_succ, i64_w, i32_w]
                        rfl
                      refine pure_ (i := 12) (N := some 33) (v := undef) (a' := ?_) (mS 38 8191) rfl rfl (any_of HT_.out (by kernel_rfl)) (fun _ _ _ h => h) (Or.inr ⟨by rfl, rfl⟩) ?_ ?_
                      rotate_left
                      · simp only [Act.put, List.setIfInBounds_toArray, List.set_cons_zero, List.set_cons_succ, i64_w, i32_w]
                        rfl
                      refine pure_ (i := 13) (N := some 34) (v := undef) (a' := ?_) (mS 38 16383) rfl rfl (any_of HT_.out (by kernel_rfl)) (fun _ _ _ h => h) (Or.inr ⟨by rfl, rfl⟩) ?_ ?_
                      rotate_left
                      · simp only [Act.put, List.setIfInBounds_toArray, List.set_cons_zero, List.set_cons_succ, i64_w, i32_w]
                        rfl
                      refine pure_ (i := 14) (N := some 35) (v := undef) (a' := ?_) (mS 38 32767) rfl rfl (any_of HT_.out (by kernel_rfl)) (fun _ _ _ h => h) (Or.inr ⟨by rfl, rfl⟩) ?_ ?_
                      rotate_left
                      · simp only [Act.put, List.setIfInBounds_toArray, List.set_cons_zero, List.set_cons_succ, i64_w, i32_w]
                        rfl
                      refine pure_ (i := 15) (N := some 36) (v := undef) (a' := ?_) (mS 38 65535) rfl rfl (any_of HT_.out (by kernel_rfl)) (fun _ _ _ h => h) (Or.inr ⟨by rfl, rfl⟩) ?_ ?_
                      rotate_left
                      · simp only [Act.put, List.setIfInBounds_toArray, List.set_cons_zero, List.set_cons_succ, i64_w, i32_w]
                        rfl
                      refine pure_ (i := 16) (N := some 37) (v := undef) (a' := ?_) (mS 38 131071) rfl rfl (any_of HT_.out (by kernel_rfl)) (fun _ _ _ h => h) (Or.inr ⟨by rfl, rfl⟩) ?_ ?_
                      rotate_left
                      · simp only [Act.put, List.setIfInBounds_toArray, List.set_cons_zero, List.set_cons_succ, i64_w, i32_w]
                        rfl
                      refine pure_ (i := 17) (N := some 38) (v := undef) (a' := ?_) (mS 38 262143) rfl rfl (any_of HT_.out (by kernel_rfl)) (fun _ _ _ h => h) (Or.inr ⟨by rfl, rfl⟩) ?_ ?_
                      rotate_left
                      · simp only [Act.put, List.setIfInBounds_toArray, List.set_cons_zero, List.set_cons_succ, i64_w, i32_w]
                        rfl
                      refine pure_ (i := 18) (N := some 39) (v := ?_) (a' := ?_) (mS 38 524287) rfl rfl (any_of HT_.out (by kernel_rfl)) (fun _ _ _ h => h) (Or.inl ⟨by rfl, ?_⟩) ?_ ?_
                      rotate_left
                      · intro w'
                        go_simp
                        with_reducible rfl
                      rotate_left
                      · simp only [Act.put, List.setIfInBounds_toArray, List.set_cons_zero, List.set_cons_succ, i64_w, i32_w]
                        rfl
                      refine pure_ (i := 19) (N := some 40) (v := ?_) (a' := ?_) (mS 38 1048575) rfl rfl (any_of HT_.out (by kernel_rfl)) (fun _ _ _ h => h) (Or.inl ⟨by rfl, ?_⟩) ?_ ?_
                      rotate_left
                      · intro w'
                        go_simp
                        with_reducible rfl
                      rotate_left
                      · simp only [Act.put, List.setIfInBounds_toArray, List.set_cons_zero, List.set_cons_succ, i64_w, i32_w]
                        rfl
                      refine pure_ (i := 20) (N := some 41) (v := ?_) (a' := ?_) (mS 38 2097151) rfl rfl (any_of HT_.out (by kernel_rfl)) (fun _ _ _ h => h) (Or.inl ⟨by rfl, ?_⟩) ?_ ?_
                      rotate_left
                      · intro w'
                        go_simp
                        with_reducible rfl
                      rotate_left
                      · simp only [Act.put, List.setIfInBounds_toArray, List.set_cons_zero, List.set_cons_succ, i64_w, i32_w]
                        rfl
                      refine pure_ (i := 21) (N := some 42) (v := ?_) (a' := ?_) (mS 38 4194303) rfl rfl (any_of HT_.out (by kernel_rfl)) (fun _ _ _ h => h) (Or.inl ⟨by rfl, ?_⟩) ?_ ?_
                      rotate_left
                      · intro w'
                        go_simp
                        with_reducible rfl
                      rotate_left
                      · simp only [Act.put, List.setIfInBounds_toArray, List.set_cons_zero, List.set_cons_succ, i64_w, i32_w]
                        rfl
                      refine pure_ (i := 23) (N := some 44) (v := ?_) (a' := ?_) (mS 38 12582911) rfl rfl (any_of HT_.out (by kernel_rfl)) (fun _ _ _ h => h) (Or.inl ⟨by rfl, ?_⟩) ?_ ?_
                      rotate_left
                      · intro w'
                        go_simp
                        with_reducible rfl
                      rotate_left
                      · simp only [Act.put, List.setIfInBounds_toArray, List.set_cons_zero, List.set_cons_succ, i64_w, i32_w]
                        rfl
                      refine take_ (i := 22) (N := some 43) (v := ?_) (a' := ?_) (mS 38 16777215) rfl rfl (take_ofW HT_.out HW_.out (by kernel_rfl)) (fun _ _ _ h => h) (Or.inl ⟨by rfl, ?_⟩) hHeld ?_ ?_
                      rotate_left
                      · rintro w' ⟨s0, s1, s2, s3, s4, s5, s6⟩
                        go_simp
                        with_reducible rfl
                      rotate_left
                      · simp only [Act.put, List.setIfInBounds_toArray, List.set_cons_zero, List.set_cons_succ, i64_w, i32_w]
                        rfl
                      refine one_ (i := 24) (N := some 45) (mS 38 33554431) rfl rfl (one_of HT_.out (by kernel_rfl)) (by decide) (fun K hK => ?_)
                      refine goes_ Try.func26 (by kernel_rfl) rfl #[.int .i64 ((rd_T53 l0 x16_2).f2), .int .i64 x3_2, .int .i64 449849] (by rfl) rfl rfl (by (try simp only [List.map_toArray, List.map_cons, List.map_nil]); first | done | rfl | (simp only [List.length_drop, List.length_take]; rfl)) ?_
                      with_reducible refine (subchannel_between.calls ((rd_T53 l0 x16_2).f2) x3_2 449849 true _ A32.out).mono ?_
                      rintro e w' ⟨rfl, ⟨nd, rfl⟩⟩
                      refine ⟨_, rfl, ?_⟩
                      refine hK.out _ _ ⟨(blk_cell BK115.out 0).trans rfl, (blk_cell BK115.out 1).trans rfl, (blk_cell BK115.out 2).trans rfl, (blk_cell BK115.out 3).trans rfl, (blk_cell BK115.out 4).trans rfl, (blk_cell BK115.out 5).trans rfl, (blk_cell BK115.out 6).trans rfl⟩ (fun hHeld => ?_)
                      clear hK K
                      refine norm_ (a' := ?_) ?_ ?_
                      rotate_left
                      · show Act.put _ (some 45) _ = _
                        simp only [Act.put, List.setIfInBounds_toArray, List.set_cons_zero, List.set_cons_succ, i64_w, i32_w]
                        rfl
                      refine pure_ (i := 25) (N := some 46) (v := ?_) (a' := ?_) (mS 38 67108863) rfl rfl (any_of HT_.out (by kernel_rfl)) (fun _ _ _ h => h) (Or.inl ⟨by rfl, ?_⟩) ?_ ?_
                      rotate_left
                      · intro w'
                        go_simp
                        with_reducible rfl
                      rotate_left
                      · simp only [Act.put, List.setIfInBounds_toArray, List.set_cons_zero, List.set_cons_succ, i64_w, i32_w]
                        rfl
                      refine pure_ (i := 26) (N := some 47) (v := ?_) (a' := ?_) (mS 38 134217727) rfl rfl (any_of HT_.out (by kernel_rfl)) (fun _ _ _ h => h) (Or.inl ⟨by rfl, ?_⟩) ?_ ?_
                      rotate_left
                      · intro w'
                        go_simp
                        with_reducible rfl
                      rotate_left
                      · simp only [Act.put, List.setIfInBounds_toArray, List.set_cons_zero, List.set_cons_succ, i64_w, i32_w]
                        rfl
                      refine pure_ (i := 27) (N := some 48) (v := ?_) (a' := ?_) (mS 38 268435455) rfl rfl (any_of HT_.out (by kernel_rfl)) (fun _ _ _ h => h) (Or.inl ⟨by rfl, ?_⟩) ?_ ?_
                      rotate_left
                      · intro w'
                        go_simp
                        with_reducible rfl
                      rotate_left
                      · simp only [Act.put, List.setIfInBounds_toArray, List.set_cons_zero, List.set_cons_succ, i64_w, i32_w]
                        rfl
                      refine pure_ (i := 28) (N := some 49) (v := ?_) (a' := ?_) (mS 38 536870911) rfl rfl (any_of HT_.out (by kernel_rfl)) (fun _ _ _ h => h) (Or.inl ⟨by rfl, ?_⟩) ?_ ?_
                      rotate_left
                      · intro w'
                        go_simp
                        with_reducible rfl
                      rotate_left
                      · simp only [Act.put, List.setIfInBounds_toArray, List.set_cons_zero, List.set_cons_succ, i64_w, i32_w]
                        rfl
                      refine take_ (i := 29) (N := some 50) (v := ?_) (a' := ?_) (mS 38 1073741823) rfl rfl (take_ofW HT_.out HW_.out (by kernel_rfl)) (fun _ _ _ h => h) (Or.inl ⟨by rfl, ?_⟩) hHeld ?_ ?_
                      rotate_left
                      · rintro w' ⟨s0, s1, s2, s3, s4, s5, s6⟩
                        go_simp
                        with_reducible rfl
                      rotate_left
                      · simp only [Act.put, List.setIfInBounds_toArray, List.set_cons_zero, List.set_cons_succ, i64_w, i32_w]
                        rfl
                      refine one_ (i := 30) (N := some 51) (mS 38 2147483647) rfl rfl (one_of HT_.out (by kernel_rfl)) (by decide) (fun K hK => ?_)
                      refine goes_ Try.func26 (by kernel_rfl) rfl #[.int .i64 ((rd_T53 l0 x16_2).f3), .int .i64 1, .int .i64 449849] (by rfl) rfl rfl (by (try simp only [List.map_toArray, List.map_cons, List.map_nil]); first | done | rfl | (simp only [List.length_drop, List.length_take]; rfl)) ?_
                      with_reducible refine (subchannel_between.calls ((rd_T53 l0 x16_2).f3) 1 449849 true _ A34.out).mono ?_
                      rintro e w' ⟨rfl, ⟨nd, rfl⟩⟩
                      refine ⟨_, rfl, ?_⟩
                      refine hK.out _ _ ⟨(blk_cell BK115.out 0).trans rfl, (blk_cell BK115.out 1).trans rfl, (blk_cell BK115.out 2).trans rfl, (blk_cell BK115.out 3).trans rfl, (blk_cell BK115.out 4).trans rfl, (blk_cell BK115.out 5).trans rfl, (blk_cell BK115.out 6).trans rfl⟩ (fun hHeld => ?_)
                      clear hK K
                      refine norm_ (a' := ?_) ?_ ?_
                      rotate_left
                      · show Act.put _ (some 51) _ = _
                        simp only [Act.put, List.setIfInBounds_toArray, List.set_cons_zero, List.set_cons_succ, i64_w, i32_w]
                        rfl
                      refine pure_ (i := 31) (N := some 52) (v := ?_) (a' := ?_) (mS 38 4294967295) rfl rfl (any_of HT_.out (by kernel_rfl)) (fun _ _ _ h => h) (Or.inl ⟨by rfl, ?_⟩) ?_ ?_
                      rotate_left
                      · intro w'
                        go_simp
                        with_reducible rfl
                      rotate_left
                      · simp only [Act.put, List.setIfInBounds_toArray, List.set_cons_zero, List.set_cons_succ, i64_w, i32_w]
                        rfl
                      refine pure_ (i := 32) (N := some 53) (v := ?_) (a' := ?_) (mS 38 8589934591) rfl rfl (any_of HT_.out (by kernel_rfl)) (fun _ _ _ h => h) (Or.inl ⟨by rfl, ?_⟩) ?_ ?_
                      rotate_left
                      · intro w'
                        go_simp
                        with_reducible rfl
                      rotate_left
                      · simp only [Act.put, List.setIfInBounds_toArray, List.set_cons_zero, List.set_cons_succ, i64_w, i32_w]
                        rfl
                      refine pure_ (i := 33) (N := some 54) (v := ?_) (a' := ?_) (mS 38 17179869183) rfl rfl (any_of HT_.out (by kernel_rfl)) (fun _ _ _ h => h) (Or.inl ⟨by rfl, ?_⟩) ?_ ?_
                      rotate_left
                      · intro w'
                        go_simp
                        with_reducible rfl
                      rotate_left
                      · simp only [Act.put, List.setIfInBounds_toArray, List.set_cons_zero, List.set_cons_succ, i64_w, i32_w]
                        rfl
                      refine take_ (i := 34) (N := some 55) (v := ?_) (a' := ?_) (mS 38 34359738367) rfl rfl (take_ofW HT_.out HW_.out (by kernel_rfl)) (fun _ _ _ h => h) (Or.inl ⟨by rfl, ?_⟩) hHeld ?_ ?_
                      rotate_left
                      · rintro w' ⟨s0, s1, s2, s3, s4, s5, s6⟩
                        go_simp
                        with_reducible rfl
                      rotate_left
                      · simp only [Act.put, List.setIfInBounds_toArray, List.set_cons_zero, List.set_cons_succ, i64_w, i32_w]
                        rfl
                      refine one_ (i := 35) (N := some 56) (mS 38 68719476735) rfl rfl (one_of HT_.out (by kernel_rfl)) (by decide) (fun K hK => ?_)
                      refine goes_ Try.func30 (by kernel_rfl) rfl #[.agg #[.int .i64 ((rd_T53 l0 x16_2).f0), .int .i64 ((rd_T53 l0 x16_2).f1), .int .i64 ((rd_T53 l0 x16_2).f2), .int .i64 ((rd_T53 l0 x16_2).f3), .int .i64 ((rd_T53 l0 x16_2).f4), .int .i64 ((rd_T53 l0 x16_2).f5), .int .i64 ((rd_T53 l0 x16_2).f6)]] (by rfl) rfl rfl (by (try simp only [List.map_toArray, List.map_cons, List.map_nil]); first | done | rfl | (simp only [List.length_drop, List.length_take]; rfl)) ?_
                      with_reducible refine (subchannel_end.calls ((rd_T53 l0 x16_2).f0) ((rd_T53 l0 x16_2).f1) ((rd_T53 l0 x16_2).f2) ((rd_T53 l0 x16_2).f3) ((rd_T53 l0 x16_2).f4) ((rd_T53 l0 x16_2).f5) ((rd_T53 l0 x16_2).f6) t123 _ A36.out).mono ?_
                      rintro e w39 ⟨rfl, hb⟩
                      refine ⟨_, rfl, ?_⟩
                      have n0_ := Aside0.mk (blk_below (g := gb115) (o := .cells #[.int .i64 ((rd_T53 l0 x16_2).f0), .int .i64 ((rd_T53 l0 x16_2).f1), .int .i64 ((rd_T53 l0 x16_2).f2), .int .i64 ((rd_T53 l0 x16_2).f3), .int .i64 ((rd_T53 l0 x16_2).f4), .int .i64 ((rd_T53 l0 x16_2).f5), .int .i64 ((rd_T53 l0 x16_2).f6)] 53 (0, 0)) (by (with_reducible repeat (first | refine blk_drewN ?_ _ | refine blk_drew ?_ | refine blk_alloc ?_ _)); exact BK115.out) hb)
                      have n1_ := Aside0.mk (below_step (by repeat (first | (with_reducible first | exact HB.out | apply below_alloc | apply pw_below_drewN | apply below_drew1 | refine below_set ?_ GE115.out) | exact HB.out)) hb)
                      clear BK115
                      clear HB
                      have BK115 := n0_
                      have HB := n1_
                      clear n0_ n1_
                      (try clear hb)
                      (try clear hb2)
                      (try clear hk)
                      (try clear hi)
                      refine hK.out _ _ ⟨(blk_cell BK115.out 0).trans rfl, (blk_cell BK115.out 1).trans rfl, (blk_cell BK115.out 2).trans rfl, (blk_cell BK115.out 3).trans rfl, (blk_cell BK115.out 4).trans rfl, (blk_cell BK115.out 5).trans rfl, (blk_cell BK115.out 6).trans rfl⟩ (fun hHeld => ?_)
                      clear hK K
                      refine norm_ (a' := ?_) ?_ ?_
                      rotate_left
                      · show Act.put _ (some 56) _ = _
                        simp only [Act.put, List.setIfInBounds_toArray, List.set_cons_zero, List.set_cons_succ, i64_w, i32_w]
                        rfl
                      refine pure_ (i := 36) (N := some 57) (v := ?_) (a' := ?_) (mS 38 137438953471) rfl rfl (any_of HT_.out (by kernel_rfl)) (fun _ _ _ h => h) (Or.inl ⟨by rfl, ?_⟩) ?_ ?_
                      rotate_left
                      · intro w'
                        go_simp
                        with_reducible rfl
                      rotate_left
                      · simp only [Act.put, List.setIfInBounds_toArray, List.set_cons_zero, List.set_cons_succ, i64_w, i32_w]
                        rfl
                      refine pure_ (i := 37) (N := some 58) (v := ?_) (a' := ?_) (mS 38 274877906943) rfl rfl (any_of HT_.out (by kernel_rfl)) (fun _ _ _ h => h) (Or.inl ⟨by rfl, ?_⟩) ?_ ?_
                      rotate_left
                      · intro w'
                        go_simp
                        with_reducible rfl
                      rotate_left
                      · simp only [Act.put, List.setIfInBounds_toArray, List.set_cons_zero, List.set_cons_succ, i64_w, i32_w]
                        rfl
                      refine done_ (done_of HT_.out (by kernel_rfl)) ?_
                      try go_wp2
                      go_meet
                      case rel => exact ⟨_, (decide (t123 > 449849)), (by first | rfl | (simp; done) | (simp [*]; done)), H', ⟨by have := HJ1.out; have := HK2.out; first | omega | exact Nat.le_refl _⟩, ⟨by (with_reducible repeat (first | refine blk_drewN ?_ _ | refine blk_drew ?_ | refine blk_alloc ?_ _)); exact BK115.out⟩, ⟨by repeat (first | (with_reducible first | exact HB.out | apply below_alloc | apply pw_below_drewN | apply below_drew1 | refine below_set ?_ GE115.out) | exact HB.out)⟩⟩
                    · replace c35 := Bool.eq_false_iff.mpr c35
                      subst c35
                      have H1 : (subchannel_session.j2 k2 l0 l0 (l0.length : Int) x16_2 true ((rd_T53 l0 x16_2).f0) ((rd_T53 l0 x16_2).f1) ((rd_T53 l0 x16_2).f2) ((rd_T53 l0 x16_2).f3) ((rd_T53 l0 x16_2).f4) ((rd_T53 l0 x16_2).f5) ((rd_T53 l0 x16_2).f6)) = some r := by rw [if_neg (show ¬ (false = true) by decide)] at H; exact H
                      clear H
                      have H := H1
                      clear H1
                      have H' := Aside0.mk H
                      clear H
                      try go_wp2
                      have n0_ : Aside0 ((((((((w9.setCell ⟨gb115, 0, none⟩ (.int .i64 ((rd_T53 l0 x16_2).f0))).setCell ⟨gb115, 1, none⟩ (.int .i64 ((rd_T53 l0 x16_2).f1))).setCell ⟨gb115, 2, none⟩ (.int .i64 ((rd_T53 l0 x16_2).f2))).setCell ⟨gb115, 3, none⟩ (.int .i64 ((rd_T53 l0 x16_2).f3))).setCell ⟨gb115, 4, none⟩ (.int .i64 ((rd_T53 l0 x16_2).f4))).setCell ⟨gb115, 5, none⟩ (.int .i64 ((rd_T53 l0 x16_2).f5))).setCell ⟨gb115, 6, none⟩ (.int .i64 ((rd_T53 l0 x16_2).f6))).heap[gb115]? = some (.cells #[.int .i64 ((rd_T53 l0 x16_2).f0), .int .i64 ((rd_T53 l0 x16_2).f1), .int .i64 ((rd_T53 l0 x16_2).f2), .int .i64 ((rd_T53 l0 x16_2).f3), .int .i64 ((rd_T53 l0 x16_2).f4), .int .i64 ((rd_T53 l0 x16_2).f5), .int .i64 ((rd_T53 l0 x16_2).f6)] 53 (0, 0))) := ⟨by (with_reducible repeat (first | refine blk_drewN ?_ _ | refine blk_drew ?_ | refine blk_alloc ?_ _)); refine blk_put (cs := #[.int .i64 ((rd_T53 l0 x16_2).f0), .int .i64 ((rd_T53 l0 x16_2).f1), .int .i64 ((rd_T53 l0 x16_2).f2), .int .i64 ((rd_T53 l0 x16_2).f3), .int .i64 ((rd_T53 l0 x16_2).f4), .int .i64 ((rd_T53 l0 x16_2).f5), .int .i64 0]) ?_ 6 _ rfl; (with_reducible repeat (first | refine blk_drewN ?_ _ | refine blk_drew ?_ | refine blk_alloc ?_ _)); refine blk_put (cs := #[.int .i64 ((rd_T53 l0 x16_2).f0), .int .i64 ((rd_T53 l0 x16_2).f1), .int .i64 ((rd_T53 l0 x16_2).f2), .int .i64 ((rd_T53 l0 x16_2).f3), .int .i64 ((rd_T53 l0 x16_2).f4), .int .i64 0, .int .i64 0]) ?_ 5 _ rfl; (with_reducible repeat (first | refine blk_drewN ?_ _ | refine blk_drew ?_ | refine blk_alloc ?_ _)); refine blk_put (cs := #[.int .i64 ((rd_T53 l0 x16_2).f0), .int .i64 ((rd_T53 l0 x16_2).f1), .int .i64 ((rd_T53 l0 x16_2).f2), .int .i64 ((rd_T53 l0 x16_2).f3), .int .i64 0, .int .i64 0, .int .i64 0]) ?_ 4 _ rfl; (with_reducible repeat (first | refine blk_drewN ?_ _ | refine blk_drew ?_ | refine blk_alloc ?_ _)); refine blk_put (cs := #[.int .i64 ((rd_T53 l0 x16_2).f0), .int .i64 ((rd_T53 l0 x16_2).f1), .int .i64 ((rd_T53 l0 x16_2).f2), .int .i64 0, .int .i64 0, .int .i64 0, .int .i64 0]) ?_ 3 _ rfl; (with_reducible repeat (first | refine blk_drewN ?_ _ | refine blk_drew ?_ | refine blk_alloc ?_ _)); refine blk_put (cs := #[.int .i64 ((rd_T53 l0 x16_2).f0), .int .i64 ((rd_T53 l0 x16_2).f1), .int .i64 0, .int .i64 0, .int .i64 0, .int .i64 0, .int .i64 0]) ?_ 2 _ rfl; (with_reducible repeat (first | refine blk_drewN ?_ _ | refine blk_drew ?_ | refine blk_alloc ?_ _)); refine blk_put (cs := #[.int .i64 ((rd_T53 l0 x16_2).f0), .int .i64 0, .int .i64 0, .int .i64 0, .int .i64 0, .int .i64 0, .int .i64 0]) ?_ 1 _ rfl; (with_reducible repeat (first | refine blk_drewN ?_ _ | refine blk_drew ?_ | refine blk_alloc ?_ _)); refine blk_put (cs := #[.int .i64 0, .int .i64 0, .int .i64 0, .int .i64 0, .int .i64 0, .int .i64 0, .int .i64 0]) ?_ 0 _ rfl; (with_reducible repeat (first | refine blk_drewN ?_ _ | refine blk_drew ?_ | refine blk_alloc ?_ _)); exact BK115.out⟩
                      have n1_ : Aside0 (Below w.heap.size w (((((((w9.setCell ⟨gb115, 0, none⟩ (.int .i64 ((rd_T53 l0 x16_2).f0))).setCell ⟨gb115, 1, none⟩ (.int .i64 ((rd_T53 l0 x16_2).f1))).setCell ⟨gb115, 2, none⟩ (.int .i64 ((rd_T53 l0 x16_2).f2))).setCell ⟨gb115, 3, none⟩ (.int .i64 ((rd_T53 l0 x16_2).f3))).setCell ⟨gb115, 4, none⟩ (.int .i64 ((rd_T53 l0 x16_2).f4))).setCell ⟨gb115, 5, none⟩ (.int .i64 ((rd_T53 l0 x16_2).f5))).setCell ⟨gb115, 6, none⟩ (.int .i64 ((rd_T53 l0 x16_2).f6)))) := ⟨by repeat (first | (with_reducible first | exact HB.out | apply below_alloc | apply pw_below_drewN | apply below_drew1 | refine below_set ?_ GE115.out) | exact HB.out)⟩
                      (try clear BK115)
                      (try clear HB)
                      generalize (((((((w9.setCell ⟨gb115, 0, none⟩ (.int .i64 ((rd_T53 l0 x16_2).f0))).setCell ⟨gb115, 1, none⟩ (.int .i64 ((rd_T53 l0 x16_2).f1))).setCell ⟨gb115, 2, none⟩ (.int .i64 ((rd_T53 l0 x16_2).f2))).setCell ⟨gb115, 3, none⟩ (.int .i64 ((rd_T53 l0 x16_2).f3))).setCell ⟨gb115, 4, none⟩ (.int .i64 ((rd_T53 l0 x16_2).f4))).setCell ⟨gb115, 5, none⟩ (.int .i64 ((rd_T53 l0 x16_2).f5))).setCell ⟨gb115, 6, none⟩ (.int .i64 ((rd_T53 l0 x16_2).f6))) = w40 at n0_ n1_ ⊢
                      have BK115 := n0_
                      have HB := n1_
                      clear n0_ n1_
                      have n0_ := Aside0.mk (blk_drew BK115.out)
                      have n1_ := Aside0.mk (below_drew1 HB.out)
                      clear BK115
                      clear HB
                      have BK115 := n0_
                      have HB := n1_
                      clear n0_ n1_
                      refine start_ (n := 38) (S := fun w' => w'.cell? ⟨gb115, 0, none⟩ = some (.int .i64 ((rd_T53 l0 x16_2).f0)) ∧ w'.cell? ⟨gb115, 1, none⟩ = some (.int .i64 ((rd_T53 l0 x16_2).f1)) ∧ w'.cell? ⟨gb115, 2, none⟩ = some (.int .i64 ((rd_T53 l0 x16_2).f2)) ∧ w'.cell? ⟨gb115, 3, none⟩ = some (.int .i64 ((rd_T53 l0 x16_2).f3)) ∧ w'.cell? ⟨gb115, 4, none⟩ = some (.int .i64 ((rd_T53 l0 x16_2).f4)) ∧ w'.cell? ⟨gb115, 5, none⟩ = some (.int .i64 ((rd_T53 l0 x16_2).f5)) ∧ w'.cell? ⟨gb115, 6, none⟩ = some (.int .i64 ((rd_T53 l0 x16_2).f6))) (ds := []) #[false, false, false, false, false, false, false, false, false, false, false, false, false, false, false, false, false, false, false, false, false, false, false, false, false, false, false, false, false, false, false, false, false, false, false, false, false, false] (by kernel_rfl) rfl rfl ⟨(blk_cell BK115.out 0).trans rfl, (blk_cell BK115.out 1).trans rfl, (blk_cell BK115.out 2).trans rfl, (blk_cell BK115.out 3).trans rfl, (blk_cell BK115.out 4).trans rfl, (blk_cell BK115.out 5).trans rfl, (blk_cell BK115.out 6).trans rfl⟩ (fun hHeld => ?_); refine with_tabW subchannel_session.tab7 subchannel_session.bits7 (fun HT_ HW_ => ?_)
                      generalize w40.drew = w41 at BK115 HB hHeld ⊢
                      refine pure_ (i := 0) (N := some 21) (v := ?_) (a' := ?_) (mS 38 1) rfl rfl (any_of HT_.out (by kernel_rfl)) (fun _ _ _ h => h) (Or.inl ⟨by rfl, ?_⟩) ?_ ?_
                      rotate_left
                      · intro w'
                        go_simp
                        with_reducible rfl
                      rotate_left
                      · simp only [Act.put, List.setIfInBounds_toArray, List.set_cons_zero, List.set_cons_succ, i64_w, i32_w]
                        rfl
                      refine take_ (i := 1) (N := some 22) (v := ?_) (a' := ?_) (mS 38 3) rfl rfl (take_ofW HT_.out HW_.out (by kernel_rfl)) (fun _ _ _ h => h) (Or.inl ⟨by rfl, ?_⟩) hHeld ?_ ?_
                      rotate_left
                      · rintro w' ⟨s0, s1, s2, s3, s4, s5, s6⟩
                        go_simp
                        with_reducible rfl
                      rotate_left
                      · simp only [Act.put, List.setIfInBounds_toArray, List.set_cons_zero, List.set_cons_succ, i64_w, i32_w]
                        rfl
                      refine one_ (i := 2) (N := some 23) (mS 38 7) rfl rfl (one_of HT_.out (by kernel_rfl)) (by decide) (fun K hK => ?_)
                      refine goes_ Try.func26 (by kernel_rfl) rfl #[.int .i64 ((rd_T53 l0 x16_2).f0), .int .i64 1, .int .i64 99] (by rfl) rfl rfl (by (try simp only [List.map_toArray, List.map_cons, List.map_nil]); first | done | rfl | (simp only [List.length_drop, List.length_take]; rfl)) ?_
                      with_reducible refine (subchannel_between.calls ((rd_T53 l0 x16_2).f0) 1 99 true _ A11.out).mono ?_
                      rintro e w' ⟨rfl, ⟨nd, rfl⟩⟩
                      refine ⟨_, rfl, ?_⟩
                      refine hK.out _ _ ⟨(blk_cell BK115.out 0).trans rfl, (blk_cell BK115.out 1).trans rfl, (blk_cell BK115.out 2).trans rfl, (blk_cell BK115.out 3).trans rfl, (blk_cell BK115.out 4).trans rfl, (blk_cell BK115.out 5).trans rfl, (blk_cell BK115.out 6).trans rfl⟩ (fun hHeld => ?_)
                      clear hK K
                      refine norm_ (a' := ?_) ?_ ?_
                      rotate_left
                      · show Act.put _ (some 23) _ = _
                        simp only [Act.put, List.setIfInBounds_toArray, List.set_cons_zero, List.set_cons_succ, i64_w, i32_w]
                        rfl
                      refine pure_ (i := 3) (N := some 24) (v := ?_) (a' := ?_) (mS 38 15) rfl rfl (any_of HT_.out (by kernel_rfl)) (fun _ _ _ h => h) (Or.inl ⟨by rfl, ?_⟩) ?_ ?_
                      rotate_left
                      · intro w'
                        go_simp
                        with_reducible rfl
                      rotate_left
                      · simp only [Act.put, List.setIfInBounds_toArray, List.set_cons_zero, List.set_cons_succ, i64_w, i32_w]
                        rfl
                      refine pure_ (i := 4) (N := some 25) (v := ?_) (a' := ?_) (mS 38 31) rfl rfl (any_of HT_.out (by kernel_rfl)) (fun _ _ _ h => h) (Or.inl ⟨by rfl, ?_⟩) ?_ ?_
                      rotate_left
                      · intro w'
                        go_simp
                        with_reducible rfl
                      rotate_left
                      · simp only [Act.put, List.setIfInBounds_toArray, List.set_cons_zero, List.set_cons_succ, i64_w, i32_w]
                        rfl
                      refine pure_ (i := 5) (N := some 26) (v := ?_) (a' := ?_) (mS 38 63) rfl rfl (any_of HT_.out (by kernel_rfl)) (fun _ _ _ h => h) (Or.inl ⟨by rfl, ?_⟩) ?_ ?_
                      rotate_left
                      · intro w'
                        go_simp
                        with_reducible rfl
                      rotate_left
                      · simp only [Act.put, List.setIfInBounds_toArray, List.set_cons_zero, List.set_cons_succ, i64_w, i32_w]
                        rfl
                      refine pure_ (i := 6) (N := some 27) (v := ?_) (a' := ?_) (mS 38 127) rfl rfl (any_of HT_.out (by kernel_rfl)) (fun _ _ _ h => h) (Or.inl ⟨by rfl, ?_⟩) ?_ ?_
                      rotate_left
                      · intro w'
                        go_simp
                        with_reducible rfl
                      rotate_left
                      · simp only [Act.put, List.setIfInBounds_toArray, List.set_cons_zero, List.set_cons_succ, i64_w, i32_w]
                        rfl
                      refine pure_ (i := 7) (N := some 28) (v := ?_) (a' := ?_) (mS 38 255) rfl rfl (any_of HT_.out (by kernel_rfl)) (fun _ _ _ h => h) (Or.inl ⟨by rfl, ?_⟩) ?_ ?_
                      rotate_left
                      · intro w'
                        go_simp
                        with_reducible rfl
                      rotate_left
                      · simp only [Act.put, List.setIfInBounds_toArray, List.set_cons_zero, List.set_cons_succ, i64_w, i32_w]
                        rfl
                      refine pure_ (i := 8) (N := some 29) (v := undef) (a' := ?_) (mS 38 511) rfl rfl (any_of HT_.out (by kernel_rfl)) (fun _ _ _ h => h) (Or.inr ⟨by rfl, rfl⟩) ?_ ?_
                      rotate_left
                      · simp only [Act.put, List.setIfInBounds_toArray, List.set_cons_zero, List.set_cons_succ, i64_w, i32_w]
                        rfl
                      refine pure_ (i := 9) (N := some 30) (v := undef) (a' := ?_) (mS 38 1023) rfl rfl (any_of HT_.out (by kernel_rfl)) (fun _ _ _ h => h) (Or.inr ⟨by rfl, rfl⟩) ?_ ?_
                      rotate_left
                      · simp only [Act.put, List.setIfInBounds_toArray, List.set_cons_zero, List.set_cons_succ, i64_w, i32_w]
                        rfl
                      refine pure_ (i := 10) (N := some 31) (v := undef) (a' := ?_) (mS 38 2047) rfl rfl (any_of HT_.out (by kernel_rfl)) (fun _ _ _ h => h) (Or.inr ⟨by rfl, rfl⟩) ?_ ?_
                      rotate_left
                      · simp only [Act.put, List.setIfInBounds_toArray, List.set_cons_zero, List.set_cons_succ, i64_w, i32_w]
                        rfl
                      refine pure_ (i := 11) (N := some 32) (v := undef) (a' := ?_) (mS 38 4095) rfl rfl (any_of HT_.out (by kernel_rfl)) (fun _ _ _ h => h) (Or.inr ⟨by rfl, rfl⟩) ?_ ?_
                      rotate_left
                      · simp only [Act.put, List.setIfInBounds_toArray, List.set_cons_zero, List.set_cons_succ, i64_w, i32_w]
                        rfl
                      refine pure_ (i := 12) (N := some 33) (v := undef) (a' := ?_) (mS 38 8191) rfl rfl (any_of HT_.out (by kernel_rfl)) (fun _ _ _ h => h) (Or.inr ⟨by rfl, rfl⟩) ?_ ?_
                      rotate_left
                      · simp only [Act.put, List.setIfInBounds_toArray, List.set_cons_zero, List.set_cons_succ, i64_w, i32_w]
                        rfl
                      refine pure_ (i := 13) (N := some 34) (v := undef) (a' := ?_) (mS 38 16383) rfl rfl (any_of HT_.out (by kernel_rfl)) (fun _ _ _ h => h) (Or.inr ⟨by rfl, rfl⟩) ?_ ?_
                      rotate_left
                      · simp only [Act.put, List.setIfInBounds_toArray, List.set_cons_zero, List.set_cons_succ, i64_w, i32_w]
                        rfl
                      refine pure_ (i := 14) (N := some 35) (v := undef) (a' := ?_) (mS 38 32767) rfl rfl (any_of HT_.out (by kernel_rfl)) (fun _ _ _ h => h) (Or.inr ⟨by rfl, rfl⟩) ?_ ?_
                      rotate_left
                      · simp only [Act.put, List.setIfInBounds_toArray, List.set_cons_zero, List.set_cons_succ, i64_w, i32_w]
                        rfl
                      refine pure_ (i := 15) (N := some 36) (v := undef) (a' := ?_) (mS 38 65535) rfl rfl (any_of HT_.out (by kernel_rfl)) (fun _ _ _ h => h) (Or.inr ⟨by rfl, rfl⟩) ?_ ?_
                      rotate_left
                      · simp only [Act.put, List.setIfInBounds_toArray, List.set_cons_zero, List.set_cons_succ, i64_w, i32_w]
                        rfl
                      refine pure_ (i := 16) (N := some 37) (v := undef) (a' := ?_) (mS 38 131071) rfl rfl (any_of HT_.out (by kernel_rfl)) (fun _ _ _ h => h) (Or.inr ⟨by rfl, rfl⟩) ?_ ?_
                      rotate_left
                      · simp only [Act.put, List.setIfInBounds_toArray, List.set_cons_zero, List.set_cons_succ, i64_w, i32_w]
                        rfl
                      refine pure_ (i := 17) (N := some 38) (v := undef) (a' := ?_) (mS 38 262143) rfl rfl (any_of HT_.out (by kernel_rfl)) (fun _ _ _ h => h) (Or.inr ⟨by rfl, rfl⟩) ?_ ?_
                      rotate_left
                      · simp only [Act.put, List.setIfInBounds_toArray, List.set_cons_zero, List.set_cons_succ, i64_w, i32_w]
                        rfl
                      refine pure_ (i := 18) (N := some 39) (v := ?_) (a' := ?_) (mS 38 524287) rfl rfl (any_of HT_.out (by kernel_rfl)) (fun _ _ _ h => h) (Or.inl ⟨by rfl, ?_⟩) ?_ ?_
                      rotate_left
                      · intro w'
                        go_simp
                        with_reducible rfl
                      rotate_left
                      · simp only [Act.put, List.setIfInBounds_toArray, List.set_cons_zero, List.set_cons_succ, i64_w, i32_w]
                        rfl
                      refine pure_ (i := 19) (N := some 40) (v := ?_) (a' := ?_) (mS 38 1048575) rfl rfl (any_of HT_.out (by kernel_rfl)) (fun _ _ _ h => h) (Or.inl ⟨by rfl, ?_⟩) ?_ ?_
                      rotate_left
                      · intro w'
                        go_simp
                        with_reducible rfl
                      rotate_left
                      · simp only [Act.put, List.setIfInBounds_toArray, List.set_cons_zero, List.set_cons_succ, i64_w, i32_w]
                        rfl
                      refine pure_ (i := 20) (N := some 41) (v := ?_) (a' := ?_) (mS 38 2097151) rfl rfl (any_of HT_.out (by kernel_rfl)) (fun _ _ _ h => h) (Or.inl ⟨by rfl, ?_⟩) ?_ ?_
                      rotate_left
                      · intro w'
                        go_simp
                        with_reducible rfl
                      rotate_left
                      · simp only [Act.put, List.setIfInBounds_toArray, List.set_cons_zero, List.set_cons_succ, i64_w, i32_w]
                        rfl
                      refine pure_ (i := 21) (N := some 42) (v := ?_) (a' := ?_) (mS 38 4194303) rfl rfl (any_of HT_.out (by kernel_rfl)) (fun _ _ _ h => h) (Or.inl ⟨by rfl, ?_⟩) ?_ ?_
                      rotate_left
                      · intro w'
                        go_simp
                        with_reducible rfl
                      rotate_left
                      · simp only [Act.put, List.setIfInBounds_toArray, List.set_cons_zero, List.set_cons_succ, i64_w, i32_w]
                        rfl
                      refine pure_ (i := 23) (N := some 44) (v := ?_) (a' := ?_) (mS 38 12582911) rfl rfl (any_of HT_.out (by kernel_rfl)) (fun _ _ _ h => h) (Or.inl ⟨by rfl, ?_⟩) ?_ ?_
                      rotate_left
                      · intro w'
                        go_simp
                        with_reducible rfl
                      rotate_left
                      · simp only [Act.put, List.setIfInBounds_toArray, List.set_cons_zero, List.set_cons_succ, i64_w, i32_w]
                        rfl
                      refine take_ (i := 22) (N := some 43) (v := ?_) (a' := ?_) (mS 38 16777215) rfl rfl (take_ofW HT_.out HW_.out (by kernel_rfl)) (fun _ _ _ h => h) (Or.inl ⟨by rfl, ?_⟩) hHeld ?_ ?_
                      rotate_left
                      · rintro w' ⟨s0, s1, s2, s3, s4, s5, s6⟩
                        go_simp
                        with_reducible rfl
                      rotate_left
                      · simp only [Act.put, List.setIfInBounds_toArray, List.set_cons_zero, List.set_cons_succ, i64_w, i32_w]
                        rfl
                      refine one_ (i := 24) (N := some 45) (mS 38 33554431) rfl rfl (one_of HT_.out (by kernel_rfl)) (by decide) (fun K hK => ?_)
                      refine goes_ Try.func26 (by kernel_rfl) rfl #[.int .i64 ((rd_T53 l0 x16_2).f2), .int .i64 x3_2, .int .i64 449849] (by rfl) rfl rfl (by (try simp only [List.map_toArray, List.map_cons, List.map_nil]); first | done | rfl | (simp only [List.length_drop, List.length_take]; rfl)) ?_
                      with_reducible refine (subchannel_between.calls ((rd_T53 l0 x16_2).f2) x3_2 449849 true _ A32.out).mono ?_
                      rintro e w' ⟨rfl, ⟨nd, rfl⟩⟩
                      refine ⟨_, rfl, ?_⟩
                      refine hK.out _ _ ⟨(blk_cell BK115.out 0).trans rfl, (blk_cell BK115.out 1).trans rfl, (blk_cell BK115.out 2).trans rfl, (blk_cell BK115.out 3).trans rfl, (blk_cell BK115.out 4).trans rfl, (blk_cell BK115.out 5).trans rfl, (blk_cell BK115.out 6).trans rfl⟩ (fun hHeld => ?_)
                      clear hK K
                      refine norm_ (a' := ?_) ?_ ?_
                      rotate_left
                      · show Act.put _ (some 45) _ = _
                        simp only [Act.put, List.setIfInBounds_toArray, List.set_cons_zero, List.set_cons_succ, i64_w, i32_w]
                        rfl
                      refine pure_ (i := 25) (N := some 46) (v := ?_) (a' := ?_) (mS 38 67108863) rfl rfl (any_of HT_.out (by kernel_rfl)) (fun _ _ _ h => h) (Or.inl ⟨by rfl, ?_⟩) ?_ ?_
                      rotate_left
                      · intro w'
                        go_simp
                        with_reducible rfl
                      rotate_left
                      · simp only [Act.put, List.setIfInBounds_toArray, List.set_cons_zero, List.set_cons_succ, i64_w, i32_w]
                        rfl
                      refine pure_ (i := 26) (N := some 47) (v := ?_) (a' := ?_) (mS 38 134217727) rfl rfl (any_of HT_.out (by kernel_rfl)) (fun _ _ _ h => h) (Or.inl ⟨by rfl, ?_⟩) ?_ ?_
                      rotate_left
                      · intro w'
                        go_simp
                        with_reducible rfl
                      rotate_left
                      · simp only [Act.put, List.setIfInBounds_toArray, List.set_cons_zero, List.set_cons_succ, i64_w, i32_w]
                        rfl
                      refine pure_ (i := 27) (N := some 48) (v := ?_) (a' := ?_) (mS 38 268435455) rfl rfl (any_of HT_.out (by kernel_rfl)) (fun _ _ _ h => h) (Or.inl ⟨by rfl, ?_⟩) ?_ ?_
                      rotate_left
                      · intro w'
                        go_simp
                        with_reducible rfl
                      rotate_left
                      · simp only [Act.put, List.setIfInBounds_toArray, List.set_cons_zero, List.set_cons_succ, i64_w, i32_w]
                        rfl
                      refine pure_ (i := 28) (N := some 49) (v := ?_) (a' := ?_) (mS 38 536870911) rfl rfl (any_of HT_.out (by kernel_rfl)) (fun _ _ _ h => h) (Or.inl ⟨by rfl, ?_⟩) ?_ ?_
                      rotate_left
                      · intro w'
                        go_simp
                        with_reducible rfl
                      rotate_left
                      · simp only [Act.put, List.setIfInBounds_toArray, List.set_cons_zero, List.set_cons_succ, i64_w, i32_w]
                        rfl
                      refine take_ (i := 29) (N := some 50) (v := ?_) (a' := ?_) (mS 38 1073741823) rfl rfl (take_ofW HT_.out HW_.out (by kernel_rfl)) (fun _ _ _ h => h) (Or.inl ⟨by rfl, ?_⟩) hHeld ?_ ?_
                      rotate_left
                      · rintro w' ⟨s0, s1, s2, s3, s4, s5, s6⟩
                        go_simp
                        with_reducible rfl
                      rotate_left
                      · simp only [Act.put, List.setIfInBounds_toArray, List.set_cons_zero, List.set_cons_succ, i64_w, i32_w]
                        rfl
                      refine one_ (i := 30) (N := some 51) (mS 38 2147483647) rfl rfl (one_of HT_.out (by kernel_rfl)) (by decide) (fun K hK => ?_)
                      refine goes_ Try.func26 (by kernel_rfl) rfl #[.int .i64 ((rd_T53 l0 x16_2).f3), .int .i64 1, .int .i64 449849] (by rfl) rfl rfl (by (try simp only [List.map_toArray, List.map_cons, List.map_nil]); first | done | rfl | (simp only [List.length_drop, List.length_take]; rfl)) ?_
                      with_reducible refine (subchannel_between.calls ((rd_T53 l0 x16_2).f3) 1 449849 false _ A34.out).mono ?_
                      rintro e w' ⟨rfl, ⟨nd, rfl⟩⟩
                      refine ⟨_, rfl, ?_⟩
                      refine hK.out _ _ ⟨(blk_cell BK115.out 0).trans rfl, (blk_cell BK115.out 1).trans rfl, (blk_cell BK115.out 2).trans rfl, (blk_cell BK115.out 3).trans rfl, (blk_cell BK115.out 4).trans rfl, (blk_cell BK115.out 5).trans rfl, (blk_cell BK115.out 6).trans rfl⟩ (fun hHeld => ?_)
                      clear hK K
                      refine norm_ (a' := ?_) ?_ ?_
                      rotate_left
                      · show Act.put _ (some 51) _ = _
                        simp only [Act.put, List.setIfInBounds_toArray, List.set_cons_zero, List.set_cons_succ, i64_w, i32_w]
                        rfl
                      refine pure_ (i := 31) (N := some 52) (v := ?_) (a' := ?_) (mS 38 4294967295) rfl rfl (any_of HT_.out (by kernel_rfl)) (fun _ _ _ h => h) (Or.inl ⟨by rfl, ?_⟩) ?_ ?_
                      rotate_left
                      · intro w'
                        go_simp
                        with_reducible rfl
                      rotate_left
                      · simp only [Act.put, List.setIfInBounds_toArray, List.set_cons_zero, List.set_cons_succ, i64_w, i32_w]
                        rfl
                      refine pure_ (i := 32) (N := some 53) (v := ?_) (a' := ?_) (mS 38 8589934591) rfl rfl (any_of HT_.out (by kernel_rfl)) (fun _ _ _ h => h) (Or.inl ⟨by rfl, ?_⟩) ?_ ?_
                      rotate_left
                      · intro w'
                        go_simp
                        with_reducible rfl
                      rotate_left
                      · simp only [Act.put, List.setIfInBounds_toArray, List.set_cons_zero, List.set_cons_succ, i64_w, i32_w]
                        rfl
                      refine pure_ (i := 33) (N := some 54) (v := ?_) (a' := ?_) (mS 38 17179869183) rfl rfl (any_of HT_.out (by kernel_rfl)) (fun _ _ _ h => h) (Or.inl ⟨by rfl, ?_⟩) ?_ ?_
                      rotate_left
                      · intro w'
                        go_simp
                        with_reducible rfl
                      rotate_left
                      · simp only [Act.put, List.setIfInBounds_toArray, List.set_cons_zero, List.set_cons_succ, i64_w, i32_w]
                        rfl
                      refine pure_ (i := 34) (N := some 55) (v := undef) (a' := ?_) (mS 38 34359738367) rfl rfl (any_of HT_.out (by kernel_rfl)) (fun _ _ _ h => h) (Or.inr ⟨by rfl, rfl⟩) ?_ ?_
                      rotate_left
                      · simp only [Act.put, List.setIfInBounds_toArray, List.set_cons_zero, List.set_cons_succ, i64_w, i32_w]
                        rfl
                      refine pure_ (i := 35) (N := some 56) (v := undef) (a' := ?_) (mS 38 68719476735) rfl rfl (any_of HT_.out (by kernel_rfl)) (fun _ _ _ h => h) (Or.inr ⟨by rfl, rfl⟩) ?_ ?_
                      rotate_left
                      · simp only [Act.put, List.setIfInBounds_toArray, List.set_cons_zero, List.set_cons_succ, i64_w, i32_w]
                        rfl
                      refine pure_ (i := 36) (N := some 57) (v := undef) (a' := ?_) (mS 38 137438953471) rfl rfl (any_of HT_.out (by kernel_rfl)) (fun _ _ _ h => h) (Or.inr ⟨by rfl, rfl⟩) ?_ ?_
                      rotate_left
                      · simp only [Act.put, List.setIfInBounds_toArray, List.set_cons_zero, List.set_cons_succ, i64_w, i32_w]
                        rfl
                      refine pure_ (i := 37) (N := some 58) (v := ?_) (a' := ?_) (mS 38 274877906943) rfl rfl (any_of HT_.out (by kernel_rfl)) (fun _ _ _ h => h) (Or.inl ⟨by rfl, ?_⟩) ?_ ?_
                      rotate_left
                      · intro w'
                        go_simp
                        with_reducible rfl
                      rotate_left
                      · simp only [Act.put, List.setIfInBounds_toArray, List.set_cons_zero, List.set_cons_succ, i64_w, i32_w]
                        rfl
                      refine done_ (done_of HT_.out (by kernel_rfl)) ?_
                      try go_wp2
                      go_meet
                      case rel => exact ⟨_, (true), (by first | rfl | (simp; done) | (simp [*]; done)), H', ⟨by have := HJ1.out; have := HK2.out; first | omega | exact Nat.le_refl _⟩, ⟨by (with_reducible repeat (first | refine blk_drewN ?_ _ | refine blk_drew ?_ | refine blk_alloc ?_ _)); exact BK115.out⟩, ⟨by repeat (first | (with_reducible first | exact HB.out | apply below_alloc | apply pw_below_drewN | apply below_drew1 | refine below_set ?_ GE115.out) | exact HB.out)⟩⟩
                  · replace c33 := Bool.eq_false_iff.mpr c33
                    subst c33
                    have H1 : (subchannel_session.j2 k2 l0 l0 (l0.length : Int) x16_2 true ((rd_T53 l0 x16_2).f0) ((rd_T53 l0 x16_2).f1) ((rd_T53 l0 x16_2).f2) ((rd_T53 l0 x16_2).f3) ((rd_T53 l0 x16_2).f4) ((rd_T53 l0 x16_2).f5) ((rd_T53 l0 x16_2).f6)) = some r := by rw [if_neg (show ¬ (false = true) by decide)] at H; exact H
                    clear H
                    have H := H1
                    clear H1
                    have H' := Aside0.mk H
                    clear H
                    try go_wp2
                    have n0_ : Aside0 ((((((((w9.setCell ⟨gb115, 0, none⟩ (.int .i64 ((rd_T53 l0 x16_2).f0))).setCell ⟨gb115, 1, none⟩ (.int .i64 ((rd_T53 l0 x16_2).f1))).setCell ⟨gb115, 2, none⟩ (.int .i64 ((rd_T53 l0 x16_2).f2))).setCell ⟨gb115, 3, none⟩ (.int .i64 ((rd_T53 l0 x16_2).f3))).setCell ⟨gb115, 4, none⟩ (.int .i64 ((rd_T53 l0 x16_2).f4))).setCell ⟨gb115, 5, none⟩ (.int .i64 ((rd_T53 l0 x16_2).f5))).setCell ⟨gb115, 6, none⟩ (.int .i64 ((rd_T53 l0 x16_2).f6))).heap[gb115]? = some (.cells #[.int .i64 ((rd_T53 l0 x16_2).f0), .int .i64 ((rd_T53 l0 x16_2).f1), .int .i64 ((rd_T53 l0 x16_2).f2), .int .i64 ((rd_T53 l0 x16_2).f3), .int .i64 ((rd_T53 l0 x16_2).f4), .int .i64 ((rd_T53 l0 x16_2).f5), .int .i64 ((rd_T53 l0 x16_2).f6)] 53 (0, 0))) := ⟨by (with_reducible repeat (first | refine blk_drewN ?_ _ | refine blk_drew ?_ | refine blk_alloc ?_ _)); refine blk_put (cs := #[.int .i64 ((rd_T53 l0 x16_2).f0), .int .i64 ((rd_T53 l0 x16_2).f1), .int .i64 ((rd_T53 l0 x16_2).f2), .int .i64 ((rd_T53 l0 x16_2).f3), .int .i64 ((rd_T53 l0 x16_2).f4), .int .i64 ((rd_T53 l0 x16_2).f5), .int .i64 0]) ?_ 6 _ rfl; (with_reducible repeat (first | refine blk_drewN ?_ _ | refine blk_drew ?_ | refine blk_alloc ?_ _)); refine blk_put (cs := #[.int .i64 ((rd_T53 l0 x16_2).f0), .int .i64 ((rd_T53 l0 x16_2).f1), .int .i64 ((rd_T53 l0 x16_2).f2), .int .i64 ((rd_T53 l0 x16_2).f3), .int .i64 ((rd_T53 l0 x16_2).f4), .int .i64 0, .int .i64 0]) ?_ 5 _ rfl; (with_reducible repeat (first | refine blk_drewN ?_ _ | refine blk_drew ?_ | refine blk_alloc ?_ _)); refine blk_put (cs := #[.int .i64 ((rd_T53 l0 x16_2).f0), .int .i64 ((rd_T53 l0 x16_2).f1), .int .i64 ((rd_T53 l0 x16_2).f2), .int .i64 ((rd_T53 l0 x16_2).f3), .int .i64 0, .int .i64 0, .int .i64 0]) ?_ 4 _ rfl; (with_reducible repeat (first | refine blk_drewN ?_ _ | refine blk_drew ?_ | refine blk_alloc ?_ _)); refine blk_put (cs := #[.int .i64 ((rd_T53 l0 x16_2).f0), .int .i64 ((rd_T53 l0 x16_2).f1), .int .i64 ((rd_T53 l0 x16_2).f2), .int .i64 0, .int .i64 0, .int .i64 0, .int .i64 0]) ?_ 3 _ rfl; (with_reducible repeat (first | refine blk_drewN ?_ _ | refine blk_drew ?_ | refine blk_alloc ?_ _)); refine blk_put (cs := #[.int .i64 ((rd_T53 l0 x16_2).f0), .int .i64 ((rd_T53 l0 x16_2).f1), .int .i64 0, .int .i64 0, .int .i64 0, .int .i64 0, .int .i64 0]) ?_ 2 _ rfl; (with_reducible repeat (first | refine blk_drewN ?_ _ | refine blk_drew ?_ | refine blk_alloc ?_ _)); refine blk_put (cs := #[.int .i64 ((rd_T53 l0 x16_2).f0), .int .i64 0, .int .i64 0, .int .i64 0, .int .i64 0, .int .i64 0, .int .i64 0]) ?_ 1 _ rfl; (with_reducible repeat (first | refine blk_drewN ?_ _ | refine blk_drew ?_ | refine blk_alloc ?_ _)); refine blk_put (cs := #[.int .i64 0, .int .i64 0, .int .i64 0, .int .i64 0, .int .i64 0, .int .i64 0, .int .i64 0]) ?_ 0 _ rfl; (with_reducible repeat (first | refine blk_drewN ?_ _ | refine blk_drew ?_ | refine blk_alloc ?_ _)); exact BK115.out⟩
                    have n1_ : Aside0 (Below w.heap.size w (((((((w9.setCell ⟨gb115, 0, none⟩ (.int .i64 ((rd_T53 l0 x16_2).f0))).setCell ⟨gb115, 1, none⟩ (.int .i64 ((rd_T53 l0 x16_2).f1))).setCell ⟨gb115, 2, none⟩ (.int .i64 ((rd_T53 l0 x16_2).f2))).setCell ⟨gb115, 3, none⟩ (.int .i64 ((rd_T53 l0 x16_2).f3))).setCell ⟨gb115, 4, none⟩ (.int .i64 ((rd_T53 l0 x16_2).f4))).setCell ⟨gb115, 5, none⟩ (.int .i64 ((rd_T53 l0 x16_2).f5))).setCell ⟨gb115, 6, none⟩ (.int .i64 ((rd_T53 l0 x16_2).f6)))) := ⟨by repeat (first | (with_reducible first | exact HB.out | apply below_alloc | apply pw_below_drewN | apply below_drew1 | refine below_set ?_ GE115.out) | exact HB.out)⟩
                    (try clear BK115)
                    (try clear HB)
                    generalize (((((((w9.setCell ⟨gb115, 0, none⟩ (.int .i64 ((rd_T53 l0 x16_2).f0))).setCell ⟨gb115, 1, none⟩ (.int .i64 ((rd_T53 l0 x16_2).f1))).setCell ⟨gb115, 2, none⟩ (.int .i64 ((rd_T53 l0 x16_2).f2))).setCell ⟨gb115, 3, none⟩ (.int .i64 ((rd_T53 l0 x16_2).f3))).setCell ⟨gb115, 4, none⟩ (.int .i64 ((rd_T53 l0 x16_2).f4))).setCell ⟨gb115, 5, none⟩ (.int .i64 ((rd_T53 l0 x16_2).f5))).setCell ⟨gb115, 6, none⟩ (.int .i64 ((rd_T53 l0 x16_2).f6))) = w42 at n0_ n1_ ⊢
                    have BK115 := n0_
                    have HB := n1_
                    clear n0_ n1_
                    have n0_ := Aside0.mk (blk_drew BK115.out)
                    have n1_ := Aside0.mk (below_drew1 HB.out)
                    clear BK115
                    clear HB
                    have BK115 := n0_
                    have HB := n1_
                    clear n0_ n1_
                    refine start_ (n := 38) (S := fun w' => w'.cell? ⟨gb115, 0, none⟩ = some (.int .i64 ((rd_T53 l0 x16_2).f0)) ∧ w'.cell? ⟨gb115, 1, none⟩ = some (.int .i64 ((rd_T53 l0 x16_2).f1)) ∧ w'.cell? ⟨gb115, 2, none⟩ = some (.int .i64 ((rd_T53 l0 x16_2).f2)) ∧ w'.cell? ⟨gb115, 3, none⟩ = some (.int .i64 ((rd_T53 l0 x16_2).f3)) ∧ w'.cell? ⟨gb115, 4, none⟩ = some (.int .i64 ((rd_T53 l0 x16_2).f4)) ∧ w'.cell? ⟨gb115, 5, none⟩ = some (.int .i64 ((rd_T53 l0 x16_2).f5)) ∧ w'.cell? ⟨gb115, 6, none⟩ = some (.int .i64 ((rd_T53 l0 x16_2).f6))) (ds := []) #[false, false, false, false, false, false, false, false, false, false, false, false, false, false, false, false, false, false, false, false, false, false, false, false, false, false, false, false, false, false, false, false, false, false, false, false, false, false] (by kernel_rfl) rfl rfl ⟨(blk_cell BK115.out 0).trans rfl, (blk_cell BK115.out 1).trans rfl, (blk_cell BK115.out 2).trans rfl, (blk_cell BK115.out 3).trans rfl, (blk_cell BK115.out 4).trans rfl, (blk_cell BK115.out 5).trans rfl, (blk_cell BK115.out 6).trans rfl⟩ (fun hHeld => ?_); refine with_tabW subchannel_session.tab7 subchannel_session.bits7 (fun HT_ HW_ => ?_)
                    generalize w42.drew = w43 at BK115 HB hHeld ⊢
                    refine pure_ (i := 0) (N := some 21) (v := ?_) (a' := ?_) (mS 38 1) rfl rfl (any_of HT_.out (by kernel_rfl)) (fun _ _ _ h => h) (Or.inl ⟨by rfl, ?_⟩) ?_ ?_
                    rotate_left
                    · intro w'
                      go_simp
                      with_reducible rfl
                    rotate_left
                    · simp only [Act.put, List.setIfInBounds_toArray, List.set_cons_zero, List.set_cons_succ, i64_w, i32_w]
                      rfl
                    refine take_ (i := 1) (N := some 22) (v := ?_) (a' := ?_) (mS 38 3) rfl rfl (take_ofW HT_.out HW_.out (by kernel_rfl)) (fun _ _ _ h => h) (Or.inl ⟨by rfl, ?_⟩) hHeld ?_ ?_
                    rotate_left
                    · rintro w' ⟨s0, s1, s2, s3, s4, s5, s6⟩
                      go_simp
                      with_reducible rfl
                    rotate_left
                    · simp only [Act.put, List.setIfInBounds_toArray, List.set_cons_zero, List.set_cons_succ, i64_w, i32_w]
                      rfl
                    refine one_ (i := 2) (N := some 23) (mS 38 7) rfl rfl (one_of HT_.out (by kernel_rfl)) (by decide) (fun K hK => ?_)
                    refine goes_ Try.func26 (by kernel_rfl) rfl #[.int .i64 ((rd_T53 l0 x16_2).f0), .int .i64 1, .int .i64 99] (by rfl) rfl rfl (by (try simp only [List.map_toArray, List.map_cons, List.map_nil]); first | done | rfl | (simp only [List.length_drop, List.length_take]; rfl)) ?_
                    with_reducible refine (subchannel_between.calls ((rd_T53 l0 x16_2).f0) 1 99 true _ A11.out).mono ?_
                    rintro e w' ⟨rfl, ⟨nd, rfl⟩⟩
                    refine ⟨_, rfl, ?_⟩
                    refine hK.out _ _ ⟨(blk_cell BK115.out 0).trans rfl, (blk_cell BK115.out 1).trans rfl, (blk_cell BK115.out 2).trans rfl, (blk_cell BK115.out 3).trans rfl, (blk_cell BK115.out 4).trans rfl, (blk_cell BK115.out 5).trans rfl, (blk_cell BK115.out 6).trans rfl⟩ (fun hHeld => ?_)
                    clear hK K
                    refine norm_ (a' := ?_) ?_ ?_
                    rotate_left
                    · show Act.put _ (some 23) _ = _
                      simp only [Act.put, List.setIfInBounds_toArray, List.set_cons_zero, List.set_cons_succ, i64_w, i32_w]
                      rfl
                    refine pure_ (i := 3) (N := some 24) (v := ?_) (a' := ?_) (mS 38 15) rfl rfl (any_of HT_.out (by kernel_rfl)) (fun _ _ _ h => h) (Or.inl ⟨by rfl, ?_⟩) ?_ ?_
                    rotate_left
                    · intro w'
                      go_simp
                      with_reducible rfl
                    rotate_left
                    · simp only [Act.put, List.setIfInBounds_toArray, List.set_cons_zero, List.set_cons_succ, i64_w, i32_w]
                      rfl
                    refine pure_ (i := 4) (N := some 25) (v := ?_) (a' := ?_) (mS 38 31) rfl rfl (any_of HT_.out (by kernel_rfl)) (fun _ _ _ h => h) (Or.inl ⟨by rfl, ?_⟩) ?_ ?_
                    rotate_left
                    · intro w'
                      go_simp
                      with_reducible rfl
                    rotate_left
                    · simp only [Act.put, List.setIfInBounds_toArray, List.set_cons_zero, List.set_cons_succ, i64_w, i32_w]
                      rfl
                    refine pure_ (i := 5) (N := some 26) (v := ?_) (a' := ?_) (mS 38 63) rfl rfl (any_of HT_.out (by kernel_rfl)) (fun _ _ _ h => h) (Or.inl ⟨by rfl, ?_⟩) ?_ ?_
                    rotate_left
                    · intro w'
                      go_simp
                      with_reducible rfl
                    rotate_left
                    · simp only [Act.put, List.setIfInBounds_toArray, List.set_cons_zero, List.set_cons_succ, i64_w, i32_w]
                      rfl
                    refine pure_ (i := 6) (N := some 27) (v := ?_) (a' := ?_) (mS 38 127) rfl rfl (any_of HT_.out (by kernel_rfl)) (fun _ _ _ h => h) (Or.inl ⟨by rfl, ?_⟩) ?_ ?_
                    rotate_left
                    · intro w'
                      go_simp
                      with_reducible rfl
                    rotate_left
                    · simp only [Act.put, List.setIfInBounds_toArray, List.set_cons_zero, List.set_cons_succ, i64_w, i32_w]
                      rfl
                    refine pure_ (i := 7) (N := some 28) (v := ?_) (a' := ?_) (mS 38 255) rfl rfl (any_of HT_.out (by kernel_rfl)) (fun _ _ _ h => h) (Or.inl ⟨by rfl, ?_⟩) ?_ ?_
                    rotate_left
                    · intro w'
                      go_simp
                      with_reducible rfl
                    rotate_left
                    · simp only [Act.put, List.setIfInBounds_toArray, List.set_cons_zero, List.set_cons_succ, i64_w, i32_w]
                      rfl
                    refine pure_ (i := 8) (N := some 29) (v := undef) (a' := ?_) (mS 38 511) rfl rfl (any_of HT_.out (by kernel_rfl)) (fun _ _ _ h => h) (Or.inr ⟨by rfl, rfl⟩) ?_ ?_
                    rotate_left
                    · simp only [Act.put, List.setIfInBounds_toArray, List.set_cons_zero, List.set_cons_succ, i64_w, i32_w]
                      rfl
                    refine pure_ (i := 9) (N := some 30) (v := undef) (a' := ?_) (mS 38 1023) rfl rfl (any_of HT_.out (by kernel_rfl)) (fun _ _ _ h => h) (Or.inr ⟨by rfl, rfl⟩) ?_ ?_
                    rotate_left
                    · simp only [Act.put, List.setIfInBounds_toArray, List.set_cons_zero, List.set_cons_succ, i64_w, i32_w]
                      rfl
                    refine pure_ (i := 10) (N := some 31) (v := undef) (a' := ?_) (mS 38 2047) rfl rfl (any_of HT_.out (by kernel_rfl)) (fun _ _ _ h => h) (Or.inr ⟨by rfl, rfl⟩) ?_ ?_
                    rotate_left
                    · simp only [Act.put, List.setIfInBounds_toArray, List.set_cons_zero, List.set_cons_succ, i64_w, i32_w]
                      rfl
                    refine pure_ (i := 11) (N := some 32) (v := undef) (a' := ?_) (mS 38 4095) rfl rfl (any_of HT_.out (by kernel_rfl)) (fun _ _ _ h => h) (Or.inr ⟨by rfl, rfl⟩) ?_ ?_
                    rotate_left
                    · simp only [Act.put, List.setIfInBounds_toArray, List.set_cons_zero, List.set_cons_succ, i64_w, i32_w]
                      rfl
                    refine pure_ (i := 12) (N := some 33) (v := undef) (a' := ?_) (mS 38 8191) rfl rfl (any_of HT_.out (by kernel_rfl)) (fun _ _ _ h => h) (Or.inr ⟨by rfl, rfl⟩) ?_ ?_
                    rotate_left
                    · simp only [Act.put, List.setIfInBounds_toArray, List.set_cons_zero, List.set_cons_succ, i64_w, i32_w]
                      rfl
                    refine pure_ (i := 13) (N := some 34) (v := undef) (a' := ?_) (mS 38 16383) rfl rfl (any_of HT_.out (by kernel_rfl)) (fun _ _ _ h => h) (Or.inr ⟨by rfl, rfl⟩) ?_ ?_
                    rotate_left
                    · simp only [Act.put, List.setIfInBounds_toArray, List.set_cons_zero, List.set_cons_succ, i64_w, i32_w]
                      rfl
                    refine pure_ (i := 14) (N := some 35) (v := undef) (a' := ?_) (mS 38 32767) rfl rfl (any_of HT_.out (by kernel_rfl)) (fun _ _ _ h => h) (Or.inr ⟨by rfl, rfl⟩) ?_ ?_
                    rotate_left
                    · simp only [Act.put, List.setIfInBounds_toArray, List.set_cons_zero, List.set_cons_succ, i64_w, i32_w]
                      rfl
                    refine pure_ (i := 15) (N := some 36) (v := undef) (a' := ?_) (mS 38 65535) rfl rfl (any_of HT_.out (by kernel_rfl)) (fun _ _ _ h => h) (Or.inr ⟨by rfl, rfl⟩) ?_ ?_
                    rotate_left
                    · simp only [Act.put, List.setIfInBounds_toArray, List.set_cons_zero, List.set_cons_succ, i64_w, i32_w]
                      rfl
                    refine pure_ (i := 16) (N := some 37) (v := undef) (a' := ?_) (mS 38 131071) rfl rfl (any_of HT_.out (by kernel_rfl)) (fun _ _ _ h => h) (Or.inr ⟨by rfl, rfl⟩) ?_ ?_
                    rotate_left
                    · simp only [Act.put, List.setIfInBounds_toArray, List.set_cons_zero, List.set_cons_succ, i64_w, i32_w]
                      rfl
                    refine pure_ (i := 17) (N := some 38) (v := undef) (a' := ?_) (mS 38 262143) rfl rfl (any_of HT_.out (by kernel_rfl)) (fun _ _ _ h => h) (Or.inr ⟨by rfl, rfl⟩) ?_ ?_
                    rotate_left
                    · simp only [Act.put, List.setIfInBounds_toArray, List.set_cons_zero, List.set_cons_succ, i64_w, i32_w]
                      rfl
                    refine pure_ (i := 18) (N := some 39) (v := ?_) (a' := ?_) (mS 38 524287) rfl rfl (any_of HT_.out (by kernel_rfl)) (fun _ _ _ h => h) (Or.inl ⟨by rfl, ?_⟩) ?_ ?_
                    rotate_left
                    · intro w'
                      go_simp
                      with_reducible rfl
                    rotate_left
                    · simp only [Act.put, List.setIfInBounds_toArray, List.set_cons_zero, List.set_cons_succ, i64_w, i32_w]
                      rfl
                    refine pure_ (i := 19) (N := some 40) (v := ?_) (a' := ?_) (mS 38 1048575) rfl rfl (any_of HT_.out (by kernel_rfl)) (fun _ _ _ h => h) (Or.inl ⟨by rfl, ?_⟩) ?_ ?_
                    rotate_left
                    · intro w'
                      go_simp
                      with_reducible rfl
                    rotate_left
                    · simp only [Act.put, List.setIfInBounds_toArray, List.set_cons_zero, List.set_cons_succ, i64_w, i32_w]
                      rfl
                    refine pure_ (i := 20) (N := some 41) (v := ?_) (a' := ?_) (mS 38 2097151) rfl rfl (any_of HT_.out (by kernel_rfl)) (fun _ _ _ h => h) (Or.inl ⟨by rfl, ?_⟩) ?_ ?_
                    rotate_left
                    · intro w'
                      go_simp
                      with_reducible rfl
                    rotate_left
                    · simp only [Act.put, List.setIfInBounds_toArray, List.set_cons_zero, List.set_cons_succ, i64_w, i32_w]
                      rfl
                    refine pure_ (i := 21) (N := some 42) (v := ?_) (a' := ?_) (mS 38 4194303) rfl rfl (any_of HT_.out (by kernel_rfl)) (fun _ _ _ h => h) (Or.inl ⟨by rfl, ?_⟩) ?_ ?_
                    rotate_left
                    · intro w'
                      go_simp
                      with_reducible rfl
                    rotate_left
                    · simp only [Act.put, List.setIfInBounds_toArray, List.set_cons_zero, List.set_cons_succ, i64_w, i32_w]
                      rfl
                    refine pure_ (i := 23) (N := some 44) (v := ?_) (a' := ?_) (mS 38 12582911) rfl rfl (any_of HT_.out (by kernel_rfl)) (fun _ _ _ h => h) (Or.inl ⟨by rfl, ?_⟩) ?_ ?_
                    rotate_left
                    · intro w'
                      go_simp
                      with_reducible rfl
                    rotate_left
                    · simp only [Act.put, List.setIfInBounds_toArray, List.set_cons_zero, List.set_cons_succ, i64_w, i32_w]
                      rfl
                    refine take_ (i := 22) (N := some 43) (v := ?_) (a' := ?_) (mS 38 16777215) rfl rfl (take_ofW HT_.out HW_.out (by kernel_rfl)) (fun _ _ _ h => h) (Or.inl ⟨by rfl, ?_⟩) hHeld ?_ ?_
                    rotate_left
                    · rintro w' ⟨s0, s1, s2, s3, s4, s5, s6⟩
                      go_simp
                      with_reducible rfl
                    rotate_left
                    · simp only [Act.put, List.setIfInBounds_toArray, List.set_cons_zero, List.set_cons_succ, i64_w, i32_w]
                      rfl
                    refine one_ (i := 24) (N := some 45) (mS 38 33554431) rfl rfl (one_of HT_.out (by kernel_rfl)) (by decide) (fun K hK => ?_)
                    refine goes_ Try.func26 (by kernel_rfl) rfl #[.int .i64 ((rd_T53 l0 x16_2).f2), .int .i64 x3_2, .int .i64 449849] (by rfl) rfl rfl (by (try simp only [List.map_toArray, List.map_cons, List.map_nil]); first | done | rfl | (simp only [List.length_drop, List.length_take]; rfl)) ?_
                    with_reducible refine (subchannel_between.calls ((rd_T53 l0 x16_2).f2) x3_2 449849 false _ A32.out).mono ?_
                    rintro e w' ⟨rfl, ⟨nd, rfl⟩⟩
                    refine ⟨_, rfl, ?_⟩
                    refine hK.out _ _ ⟨(blk_cell BK115.out 0).trans rfl, (blk_cell BK115.out 1).trans rfl, (blk_cell BK115.out 2).trans rfl, (blk_cell BK115.out 3).trans rfl, (blk_cell BK115.out 4).trans rfl, (blk_cell BK115.out 5).trans rfl, (blk_cell BK115.out 6).trans rfl⟩ (fun hHeld => ?_)
                    clear hK K
                    refine norm_ (a' := ?_) ?_ ?_
                    rotate_left
                    · show Act.put _ (some 45) _ = _
                      simp only [Act.put, List.setIfInBounds_toArray, List.set_cons_zero, List.set_cons_succ, i64_w, i32_w]
                      rfl
                    refine pure_ (i := 25) (N := some 46) (v := ?_) (a' := ?_) (mS 38 67108863) rfl rfl (any_of HT_.out (by kernel_rfl)) (fun _ _ _ h => h) (Or.inl ⟨by rfl, ?_⟩) ?_ ?_
                    rotate_left
                    · intro w'
                      go_simp
                      with_reducible rfl
                    rotate_left
                    · simp only [Act.put, List.setIfInBounds_toArray, List.set_cons_zero, List.set_cons_succ, i64_w, i32_w]
                      rfl
                    refine pure_ (i := 26) (N := some 47) (v := ?_) (a' := ?_) (mS 38 134217727) rfl rfl (any_of HT_.out (by kernel_rfl)) (fun _ _ _ h => h) (Or.inl ⟨by rfl, ?_⟩) ?_ ?_
                    rotate_left
                    · intro w'
                      go_simp
                      with_reducible rfl
                    rotate_left
                    · simp only [Act.put, List.setIfInBounds_toArray, List.set_cons_zero, List.set_cons_succ, i64_w, i32_w]
                      rfl
                    refine pure_ (i := 27) (N := some 48) (v := ?_) (a' := ?_) (mS 38 268435455) rfl rfl (any_of HT_.out (by kernel_rfl)) (fun _ _ _ h => h) (Or.inl ⟨by rfl, ?_⟩) ?_ ?_
                    rotate_left
                    · intro w'
                      go_simp
                      with_reducible rfl
                    rotate_left
                    · simp only [Act.put, List.setIfInBounds_toArray, List.set_cons_zero, List.set_cons_succ, i64_w, i32_w]
                      rfl
                    refine pure_ (i := 28) (N := some 49) (v := undef) (a' := ?_) (mS 38 536870911) rfl rfl (any_of HT_.out (by kernel_rfl)) (fun _ _ _ h => h) (Or.inr ⟨by rfl, rfl⟩) ?_ ?_
                    rotate_left
                    · simp only [Act.put, List.setIfInBounds_toArray, List.set_cons_zero, List.set_cons_succ, i64_w, i32_w]
                      rfl
                    refine pure_ (i := 29) (N := some 50) (v := undef) (a' := ?_) (mS 38 1073741823) rfl rfl (any_of HT_.out (by kernel_rfl)) (fun _ _ _ h => h) (Or.inr ⟨by rfl, rfl⟩) ?_ ?_
                    rotate_left
                    · simp only [Act.put, List.setIfInBounds_toArray, List.set_cons_zero, List.set_cons_succ, i64_w, i32_w]
                      rfl
                    refine pure_ (i := 30) (N := some 51) (v := undef) (a' := ?_) (mS 38 2147483647) rfl rfl (any_of HT_.out (by kernel_rfl)) (fun _ _ _ h => h) (Or.inr ⟨by rfl, rfl⟩) ?_ ?_
                    rotate_left
                    · simp only [Act.put, List.setIfInBounds_toArray, List.set_cons_zero, List.set_cons_succ, i64_w, i32_w]
                      rfl
                    refine pure_ (i := 31) (N := some 52) (v := undef) (a' := ?_) (mS 38 4294967295) rfl rfl (any_of HT_.out (by kernel_rfl)) (fun _ _ _ h => h) (Or.inr ⟨by rfl, rfl⟩) ?_ ?_
                    rotate_left
                    · simp only [Act.put, List.setIfInBounds_toArray, List.set_cons_zero, List.set_cons_succ, i64_w, i32_w]
                      rfl
                    refine pure_ (i := 32) (N := some 53) (v := ?_) (a' := ?_) (mS 38 8589934591) rfl rfl (any_of HT_.out (by kernel_rfl)) (fun _ _ _ h => h) (Or.inl ⟨by rfl, ?_⟩) ?_ ?_
                    rotate_left
                    · intro w'
                      go_simp
                      with_reducible rfl
                    rotate_left
                    · simp only [Act.put, List.setIfInBounds_toArray, List.set_cons_zero, List.set_cons_succ, i64_w, i32_w]
                      rfl
                    refine pure_ (i := 33) (N := some 54) (v := ?_) (a' := ?_) (mS 38 17179869183) rfl rfl (any_of HT_.out (by kernel_rfl)) (fun _ _ _ h => h) (Or.inl ⟨by rfl, ?_⟩) ?_ ?_
                    rotate_left
                    · intro w'
                      go_simp
                      with_reducible rfl
                    rotate_left
                    · simp only [Act.put, List.setIfInBounds_toArray, List.set_cons_zero, List.set_cons_succ, i64_w, i32_w]
                      rfl
                    refine pure_ (i := 34) (N := some 55) (v := undef) (a' := ?_) (mS 38 34359738367) rfl rfl (any_of HT_.out (by kernel_rfl)) (fun _ _ _ h => h) (Or.inr ⟨by rfl, rfl⟩) ?_ ?_
                    rotate_left
                    · simp only [Act.put, List.setIfInBounds_toArray, List.set_cons_zero, List.set_cons_succ, i64_w, i32_w]
                      rfl
                    refine pure_ (i := 35) (N := some 56) (v := undef) (a' := ?_) (mS 38 68719476735) rfl rfl (any_of HT_.out (by kernel_rfl)) (fun _ _ _ h => h) (Or.inr ⟨by rfl, rfl⟩) ?_ ?_
                    rotate_left
                    · simp only [Act.put, List.setIfInBounds_toArray, List.set_cons_zero, List.set_cons_succ, i64_w, i32_w]
                      rfl
                    refine pure_ (i := 36) (N := some 57) (v := undef) (a' := ?_) (mS 38 137438953471) rfl rfl (any_of HT_.out (by kernel_rfl)) (fun _ _ _ h => h) (Or.inr ⟨by rfl, rfl⟩) ?_ ?_
                    rotate_left
                    · simp only [Act.put, List.setIfInBounds_toArray, List.set_cons_zero, List.set_cons_succ, i64_w, i32_w]
                      rfl
                    refine pure_ (i := 37) (N := some 58) (v := ?_) (a' := ?_) (mS 38 274877906943) rfl rfl (any_of HT_.out (by kernel_rfl)) (fun _ _ _ h => h) (Or.inl ⟨by rfl, ?_⟩) ?_ ?_
                    rotate_left
                    · intro w'
                      go_simp
                      with_reducible rfl
                    rotate_left
                    · simp only [Act.put, List.setIfInBounds_toArray, List.set_cons_zero, List.set_cons_succ, i64_w, i32_w]
                      rfl
                    refine done_ (done_of HT_.out (by kernel_rfl)) ?_
                    try go_wp2
                    go_meet
                    case rel => exact ⟨_, (true), (by first | rfl | (simp; done) | (simp [*]; done)), H', ⟨by have := HJ1.out; have := HK2.out; first | omega | exact Nat.le_refl _⟩, ⟨by (with_reducible repeat (first | refine blk_drewN ?_ _ | refine blk_drew ?_ | refine blk_alloc ?_ _)); exact BK115.out⟩, ⟨by repeat (first | (with_reducible first | exact HB.out | apply below_alloc | apply pw_below_drewN | apply below_drew1 | refine below_set ?_ GE115.out) | exact HB.out)⟩⟩
              · replace c12 := Bool.eq_false_iff.mpr c12
                subst c12
                have H1 : (subchannel_session.j2 k2 l0 l0 (l0.length : Int) x16_2 true ((rd_T53 l0 x16_2).f0) ((rd_T53 l0 x16_2).f1) ((rd_T53 l0 x16_2).f2) ((rd_T53 l0 x16_2).f3) ((rd_T53 l0 x16_2).f4) ((rd_T53 l0 x16_2).f5) ((rd_T53 l0 x16_2).f6)) = some r := by rw [if_neg (show ¬ (false = true) by decide)] at H; exact H
                clear H
                have H := H1
                clear H1
                have H' := Aside0.mk H
                clear H
                try go_wp2
                have n0_ : Aside0 ((((((((w9.setCell ⟨gb115, 0, none⟩ (.int .i64 ((rd_T53 l0 x16_2).f0))).setCell ⟨gb115, 1, none⟩ (.int .i64 ((rd_T53 l0 x16_2).f1))).setCell ⟨gb115, 2, none⟩ (.int .i64 ((rd_T53 l0 x16_2).f2))).setCell ⟨gb115, 3, none⟩ (.int .i64 ((rd_T53 l0 x16_2).f3))).setCell ⟨gb115, 4, none⟩ (.int .i64 ((rd_T53 l0 x16_2).f4))).setCell ⟨gb115, 5, none⟩ (.int .i64 ((rd_T53 l0 x16_2).f5))).setCell ⟨gb115, 6, none⟩ (.int .i64 ((rd_T53 l0 x16_2).f6))).heap[gb115]? = some (.cells #[.int .i64 ((rd_T53 l0 x16_2).f0), .int .i64 ((rd_T53 l0 x16_2).f1), .int .i64 ((rd_T53 l0 x16_2).f2), .int .i64 ((rd_T53 l0 x16_2).f3), .int .i64 ((rd_T53 l0 x16_2).f4), .int .i64 ((rd_T53 l0 x16_2).f5), .int .i64 ((rd_T53 l0 x16_2).f6)] 53 (0, 0))) := ⟨by (with_reducible repeat (first | refine blk_drewN ?_ _ | refine blk_drew ?_ | refine blk_alloc ?_ _)); refine blk_put (cs := #[.int .i64 ((rd_T53 l0 x16_2).f0), .int .i64 ((rd_T53 l0 x16_2).f1), .int .i64 ((rd_T53 l0 x16_2).f2), .int .i64 ((rd_T53 l0 x16_2).f3), .int .i64 ((rd_T53 l0 x16_2).f4), .int .i64 ((rd_T53 l0 x16_2).f5), .int .i64 0]) ?_ 6 _ rfl; (with_reducible repeat (first | refine blk_drewN ?_ _ | refine blk_drew ?_ | refine blk_alloc ?_ _)); refine blk_put (cs := #[.int .i64 ((rd_T53 l0 x16_2).f0), .int .i64 ((rd_T53 l0 x16_2).f1), .int .i64 ((rd_T53 l0 x16_2).f2), .int .i64 ((rd_T53 l0 x16_2).f3), .int .i64 ((rd_T53 l0 x16_2).f4), .int .i64 0, .int .i64 0]) ?_ 5 _ rfl; (with_reducible repeat (first | refine blk_drewN ?_ _ | refine blk_drew ?_ | refine blk_alloc ?_ _)); refine blk_put (cs := #[.int .i64 ((rd_T53 l0 x16_2).f0), .int .i64 ((rd_T53 l0 x16_2).f1), .int .i64 ((rd_T53 l0 x16_2).f2), .int .i64 ((rd_T53 l0 x16_2).f3), .int .i64 0, .int .i64 0, .int .i64 0]) ?_ 4 _ rfl; (with_reducible repeat (first | refine blk_drewN ?_ _ | refine blk_drew ?_ | refine blk_alloc ?_ _)); refine blk_put (cs := #[.int .i64 ((rd_T53 l0 x16_2).f0), .int .i64 ((rd_T53 l0 x16_2).f1), .int .i64 ((rd_T53 l0 x16_2).f2), .int .i64 0, .int .i64 0, .int .i64 0, .int .i64 0]) ?_ 3 _ rfl; (with_reducible repeat (first | refine blk_drewN ?_ _ | refine blk_drew ?_ | refine blk_alloc ?_ _)); refine blk_put (cs := #[.int .i64 ((rd_T53 l0 x16_2).f0), .int .i64 ((rd_T53 l0 x16_2).f1), .int .i64 0, .int .i64 0, .int .i64 0, .int .i64 0, .int .i64 0]) ?_ 2 _ rfl; (with_reducible repeat (first | refine blk_drewN ?_ _ | refine blk_drew ?_ | refine blk_alloc ?_ _)); refine blk_put (cs := #[.int .i64 ((rd_T53 l0 x16_2).f0), .int .i64 0, .int .i64 0, .int .i64 0, .int .i64 0, .int .i64 0, .int .i64 0]) ?_ 1 _ rfl; (with_reducible repeat (first | refine blk_drewN ?_ _ | refine blk_drew ?_ | refine blk_alloc ?_ _)); refine blk_put (cs := #[.int .i64 0, .int .i64 0, .int .i64 0, .int .i64 0, .int .i64 0, .int .i64 0, .int .i64 0]) ?_ 0 _ rfl; (with_reducible repeat (first | refine blk_drewN ?_ _ | refine blk_drew ?_ | refine blk_alloc ?_ _)); exact BK115.out⟩
                have n1_ : Aside0 (Below w.heap.size w (((((((w9.setCell ⟨gb115, 0, none⟩ (.int .i64 ((rd_T53 l0 x16_2).f0))).setCell ⟨gb115, 1, none⟩ (.int .i64 ((rd_T53 l0 x16_2).f1))).setCell ⟨gb115, 2, none⟩ (.int .i64 ((rd_T53 l0 x16_2).f2))).setCell ⟨gb115, 3, none⟩ (.int .i64 ((rd_T53 l0 x16_2).f3))).setCell ⟨gb115, 4, none⟩ (.int .i64 ((rd_T53 l0 x16_2).f4))).setCell ⟨gb115, 5, none⟩ (.int .i64 ((rd_T53 l0 x16_2).f5))).setCell ⟨gb115, 6, none⟩ (.int .i64 ((rd_T53 l0 x16_2).f6)))) := ⟨by repeat (first | (with_reducible first | exact HB.out | apply below_alloc | apply pw_below_drewN | apply below_drew1 | refine below_set ?_ GE115.out) | exact HB.out)⟩
                (try clear BK115)
                (try clear HB)
                generalize (((((((w9.setCell ⟨gb115, 0, none⟩ (.int .i64 ((rd_T53 l0 x16_2).f0))).setCell ⟨gb115, 1, none⟩ (.int .i64 ((rd_T53 l0 x16_2).f1))).setCell ⟨gb115, 2, none⟩ (.int .i64 ((rd_T53 l0 x16_2).f2))).setCell ⟨gb115, 3, none⟩ (.int .i64 ((rd_T53 l0 x16_2).f3))).setCell ⟨gb115, 4, none⟩ (.int .i64 ((rd_T53 l0 x16_2).f4))).setCell ⟨gb115, 5, none⟩ (.int .i64 ((rd_T53 l0 x16_2).f5))).setCell ⟨gb115, 6, none⟩ (.int .i64 ((rd_T53 l0 x16_2).f6))) = w44 at n0_ n1_ ⊢
                have BK115 := n0_
                have HB := n1_
                clear n0_ n1_
                have n0_ := Aside0.mk (blk_drew BK115.out)
                have n1_ := Aside0.mk (below_drew1 HB.out)
                clear BK115
                clear HB
                have BK115 := n0_
                have HB := n1_
                clear n0_ n1_
                refine start_ (n := 38) (S := fun w' => w'.cell? ⟨gb115, 0, none⟩ = some (.int .i64 ((rd_T53 l0 x16_2).f0)) ∧ w'.cell? ⟨gb115, 1, none⟩ = some (.int .i64 ((rd_T53 l0 x16_2).f1)) ∧ w'.cell? ⟨gb115, 2, none⟩ = some (.int .i64 ((rd_T53 l0 x16_2).f2)) ∧ w'.cell? ⟨gb115, 3, none⟩ = some (.int .i64 ((rd_T53 l0 x16_2).f3)) ∧ w'.cell? ⟨gb115, 4, none⟩ = some (.int .i64 ((rd_T53 l0 x16_2).f4)) ∧ w'.cell? ⟨gb115, 5, none⟩ = some (.int .i64 ((rd_T53 l0 x16_2).f5)) ∧ w'.cell? ⟨gb115, 6, none⟩ = some (.int .i64 ((rd_T53 l0 x16_2).f6))) (ds := []) #[false, false, false, false, false, false, false, false, false, false, false, false, false, false, false, false, false, false, false, false, false, false, false, false, false, false, false, false, false, false, false, false, false, false, false, false, false, false] (by kernel_rfl) rfl rfl ⟨(blk_cell BK115.out 0).trans rfl, (blk_cell BK115.out 1).trans rfl, (blk_cell BK115.out 2).trans rfl, (blk_cell BK115.out 3).trans rfl, (blk_cell BK115.out 4).trans rfl, (blk_cell BK115.out 5).trans rfl, (blk_cell BK115.out 6).trans rfl⟩ (fun hHeld => ?_); refine with_tabW subchannel_session.tab7 subchannel_session.bits7 (fun HT_ HW_ => ?_)
                generalize w44.drew = w45 at BK115 HB hHeld ⊢
                refine pure_ (i := 0) (N := some 21) (v := ?_) (a' := ?_) (mS 38 1) rfl rfl (any_of HT_.out (by kernel_rfl)) (fun _ _ _ h => h) (Or.inl ⟨by rfl, ?_⟩) ?_ ?_
                rotate_left
                · intro w'
                  go_simp
                  with_reducible rfl
                rotate_left
                · simp only [Act.put, List.setIfInBounds_toArray, List.set_cons_zero, List.set_cons_succ, i64_w, i32_w]
                  rfl
                refine take_ (i := 1) (N := some 22) (v := ?_) (a' := ?_) (mS 38 3) rfl rfl (take_ofW HT_.out HW_.out (by kernel_rfl)) (fun _ _ _ h => h) (Or.inl ⟨by rfl, ?_⟩) hHeld ?_ ?_
                rotate_left
                · rintro w' ⟨s0, s1, s2, s3, s4, s5, s6⟩
                  go_simp
                  with_reducible rfl
                rotate_left
                · simp only [Act.put, List.setIfInBounds_toArray, List.set_cons_zero, List.set_cons_succ, i64_w, i32_w]
                  rfl
                refine one_ (i := 2) (N := some 23) (mS 38 7) rfl rfl (one_of HT_.out (by kernel_rfl)) (by decide) (fun K hK => ?_)
                refine goes_ Try.func26 (by kernel_rfl) rfl #[.int .i64 ((rd_T53 l0 x16_2).f0), .int .i64 1, .int .i64 99] (by rfl) rfl rfl (by (try simp only [List.map_toArray, List.map_cons, List.map_nil]); first | done | rfl | (simp only [List.length_drop, List.length_take]; rfl)) ?_
                with_reducible refine (subchannel_between.calls ((rd_T53 l0 x16_2).f0) 1 99 false _ A11.out).mono ?_
                rintro e w' ⟨rfl, ⟨nd, rfl⟩⟩
                refine ⟨_, rfl, ?_⟩
                refine hK.out _ _ ⟨(blk_cell BK115.out 0).trans rfl, (blk_cell BK115.out 1).trans rfl, (blk_cell BK115.out 2).trans rfl, (blk_cell BK115.out 3).trans rfl, (blk_cell BK115.out 4).trans rfl, (blk_cell BK115.out 5).trans rfl, (blk_cell BK115.out 6).trans rfl⟩ (fun hHeld => ?_)
                clear hK K
                refine norm_ (a' := ?_) ?_ ?_
                rotate_left
                · show Act.put _ (some 23) _ = _
                  simp only [Act.put, List.setIfInBounds_toArray, List.set_cons_zero, List.set_cons_succ, i64_w, i32_w]
                  rfl
                refine pure_ (i := 3) (N := some 24) (v := ?_) (a' := ?_) (mS 38 15) rfl rfl (any_of HT_.out (by kernel_rfl)) (fun _ _ _ h => h) (Or.inl ⟨by rfl, ?_⟩) ?_ ?_
                rotate_left
                · intro w'
                  go_simp
                  with_reducible rfl
                rotate_left
                · simp only [Act.put, List.setIfInBounds_toArray, List.set_cons_zero, List.set_cons_succ, i64_w, i32_w]
                  rfl
                refine pure_ (i := 4) (N := some 25) (v := ?_) (a' := ?_) (mS 38 31) rfl rfl (any_of HT_.out (by kernel_rfl)) (fun _ _ _ h => h) (Or.inl ⟨by rfl, ?_⟩) ?_ ?_
                rotate_left
                · intro w'
                  go_simp
                  with_reducible rfl
                rotate_left
                · simp only [Act.put, List.setIfInBounds_toArray, List.set_cons_zero, List.set_cons_succ, i64_w, i32_w]
                  rfl
                refine pure_ (i := 5) (N := some 26) (v := undef) (a' := ?_) (mS 38 63) rfl rfl (any_of HT_.out (by kernel_rfl)) (fun _ _ _ h => h) (Or.inr ⟨by rfl, rfl⟩) ?_ ?_
                rotate_left
                · simp only [Act.put, List.setIfInBounds_toArray, List.set_cons_zero, List.set_cons_succ, i64_w, i32_w]
                  rfl
                refine pure_ (i := 6) (N := some 27) (v := undef) (a' := ?_) (mS 38 127) rfl rfl (any_of HT_.out (by kernel_rfl)) (fun _ _ _ h => h) (Or.inr ⟨by rfl, rfl⟩) ?_ ?_
                rotate_left
                · simp only [Act.put, List.setIfInBounds_toArray, List.set_cons_zero, List.set_cons_succ, i64_w, i32_w]
                  rfl
                refine pure_ (i := 7) (N := some 28) (v := undef) (a' := ?_) (mS 38 255) rfl rfl (any_of HT_.out (by kernel_rfl)) (fun _ _ _ h => h) (Or.inr ⟨by rfl, rfl⟩) ?_ ?_
                rotate_left
                · simp only [Act.put, List.setIfInBounds_toArray, List.set_cons_zero, List.set_cons_succ, i64_w, i32_w]
                  rfl
                refine pure_ (i := 8) (N := some 29) (v := undef) (a' := ?_) (mS 38 511) rfl rfl (any_of HT_.out (by kernel_rfl)) (fun _ _ _ h => h) (Or.inr ⟨by rfl, rfl⟩) ?_ ?_
                rotate_left
                · simp only [Act.put, List.setIfInBounds_toArray, List.set_cons_zero, List.set_cons_succ, i64_w, i32_w]
                  rfl
                refine pure_ (i := 9) (N := some 30) (v := undef) (a' := ?_) (mS 38 1023) rfl rfl (any_of HT_.out (by kernel_rfl)) (fun _ _ _ h => h) (Or.inr ⟨by rfl, rfl⟩) ?_ ?_
                rotate_left
                · simp only [Act.put, List.setIfInBounds_toArray, List.set_cons_zero, List.set_cons_succ, i64_w, i32_w]
                  rfl
                refine pure_ (i := 10) (N := some 31) (v := undef) (a' := ?_) (mS 38 2047) rfl rfl (any_of HT_.out (by kernel_rfl)) (fun _ _ _ h => h) (Or.inr ⟨by rfl, rfl⟩) ?_ ?_
                rotate_left
                · simp only [Act.put, List.setIfInBounds_toArray, List.set_cons_zero, List.set_cons_succ, i64_w, i32_w]
                  rfl
                refine pure_ (i := 11) (N := some 32) (v := undef) (a' := ?_) (mS 38 4095) rfl rfl (any_of HT_.out (by kernel_rfl)) (fun _ _ _ h => h) (Or.inr ⟨by rfl, rfl⟩) ?_ ?_
                rotate_left
                · simp only [Act.put, List.setIfInBounds_toArray, List.set_cons_zero, List.set_cons_succ, i64_w, i32_w]
                  rfl
                refine pure_ (i := 12) (N := some 33) (v := undef) (a' := ?_) (mS 38 8191) rfl rfl (any_of HT_.out (by kernel_rfl)) (fun _ _ _ h => h) (Or.inr ⟨by rfl, rfl⟩) ?_ ?_
                rotate_left
                · simp only [Act.put, List.setIfInBounds_toArray, List.set_cons_zero, List.set_cons_succ, i64_w, i32_w]
                  rfl
                refine pure_ (i := 13) (N := some 34) (v := undef) (a' := ?_) (mS 38 16383) rfl rfl (any_of HT_.out (by kernel_rfl)) (fun _ _ _ h => h) (Or.inr ⟨by rfl, rfl⟩) ?_ ?_
                rotate_left
                · simp only [Act.put, List.setIfInBounds_toArray, List.set_cons_zero, List.set_cons_succ, i64_w, i32_w]
                  rfl
                refine pure_ (i := 14) (N := some 35) (v := undef) (a' := ?_) (mS 38 32767) rfl rfl (any_of HT_.out (by kernel_rfl)) (fun _ _ _ h => h) (Or.inr ⟨by rfl, rfl⟩) ?_ ?_
                rotate_left
                · simp only [Act.put, List.setIfInBounds_toArray, List.set_cons_zero, List.set_cons_succ, i64_w, i32_w]
                  rfl
                refine pure_ (i := 15) (N := some 36) (v := undef) (a' := ?_) (mS 38 65535) rfl rfl (any_of HT_.out (by kernel_rfl)) (fun _ _ _ h => h) (Or.inr ⟨by rfl, rfl⟩) ?_ ?_
                rotate_left
                · simp only [Act.put, List.setIfInBounds_toArray, List.set_cons_zero, List.set_cons_succ, i64_w, i32_w]
                  rfl
                refine pure_ (i := 16) (N := some 37) (v := undef) (a' := ?_) (mS 38 131071) rfl rfl (any_of HT_.out (by kernel_rfl)) (fun _ _ _ h => h) (Or.inr ⟨by rfl, rfl⟩) ?_ ?_
                rotate_left
                · simp only [Act.put, List.setIfInBounds_toArray, List.set_cons_zero, List.set_cons_succ, i64_w, i32_w]
                  rfl
                refine pure_ (i := 17) (N := some 38) (v := undef) (a' := ?_) (mS 38 262143) rfl rfl (any_of HT_.out (by kernel_rfl)) (fun _ _ _ h => h) (Or.inr ⟨by rfl, rfl⟩) ?_ ?_
                rotate_left
                · simp only [Act.put, List.setIfInBounds_toArray, List.set_cons_zero, List.set_cons_succ, i64_w, i32_w]
                  rfl
                refine pure_ (i := 18) (N := some 39) (v := undef) (a' := ?_) (mS 38 524287) rfl rfl (any_of HT_.out (by kernel_rfl)) (fun _ _ _ h => h) (Or.inr ⟨by rfl, rfl⟩) ?_ ?_
                rotate_left
                · simp only [Act.put, List.setIfInBounds_toArray, List.set_cons_zero, List.set_cons_succ, i64_w, i32_w]
                  rfl
                refine pure_ (i := 19) (N := some 40) (v := ?_) (a' := ?_) (mS 38 1048575) rfl rfl (any_of HT_.out (by kernel_rfl)) (fun _ _ _ h => h) (Or.inl ⟨by rfl, ?_⟩) ?_ ?_
                rotate_left
                · intro w'
                  go_simp
                  with_reducible rfl
                rotate_left
                · simp only [Act.put, List.setIfInBounds_toArray, List.set_cons_zero, List.set_cons_succ, i64_w, i32_w]
                  rfl
                refine pure_ (i := 20) (N := some 41) (v := ?_) (a' := ?_) (mS 38 2097151) rfl rfl (any_of HT_.out (by kernel_rfl)) (fun _ _ _ h => h) (Or.inl ⟨by rfl, ?_⟩) ?_ ?_
                rotate_left
                · intro w'
                  go_simp
                  with_reducible rfl
                rotate_left
                · simp only [Act.put, List.setIfInBounds_toArray, List.set_cons_zero, List.set_cons_succ, i64_w, i32_w]
                  rfl
                refine pure_ (i := 21) (N := some 42) (v := undef) (a' := ?_) (mS 38 4194303) rfl rfl (any_of HT_.out (by kernel_rfl)) (fun _ _ _ h => h) (Or.inr ⟨by rfl, rfl⟩) ?_ ?_
                rotate_left
                · simp only [Act.put, List.setIfInBounds_toArray, List.set_cons_zero, List.set_cons_succ, i64_w, i32_w]
                  rfl
                refine pure_ (i := 22) (N := some 43) (v := undef) (a' := ?_) (mS 38 8388607) rfl rfl (any_of HT_.out (by kernel_rfl)) (fun _ _ _ h => h) (Or.inr ⟨by rfl, rfl⟩) ?_ ?_
                rotate_left
                · simp only [Act.put, List.setIfInBounds_toArray, List.set_cons_zero, List.set_cons_succ, i64_w, i32_w]
                  rfl
                refine pure_ (i := 23) (N := some 44) (v := undef) (a' := ?_) (mS 38 16777215) rfl rfl (any_of HT_.out (by kernel_rfl)) (fun _ _ _ h => h) (Or.inr ⟨by rfl, rfl⟩) ?_ ?_
                rotate_left
                · simp only [Act.put, List.setIfInBounds_toArray, List.set_cons_zero, List.set_cons_succ, i64_w, i32_w]
                  rfl
                refine pure_ (i := 24) (N := some 45) (v := undef) (a' := ?_) (mS 38 33554431) rfl rfl (any_of HT_.out (by kernel_rfl)) (fun _ _ _ h => h) (Or.inr ⟨by rfl, rfl⟩) ?_ ?_
                rotate_left
                · simp only [Act.put, List.setIfInBounds_toArray, List.set_cons_zero, List.set_cons_succ, i64_w, i32_w]
                  rfl
                refine pure_ (i := 25) (N := some 46) (v := undef) (a' := ?_) (mS 38 67108863) rfl rfl (any_of HT_.out (by kernel_rfl)) (fun _ _ _ h => h) (Or.inr ⟨by rfl, rfl⟩) ?_ ?_
                rotate_left
                · simp only [Act.put, List.setIfInBounds_toArray, List.set_cons_zero, List.set_cons_succ, i64_w, i32_w]
                  rfl
                refine pure_ (i := 26) (N := some 47) (v := ?_) (a' := ?_) (mS 38 134217727) rfl rfl (any_of HT_.out (by kernel_rfl)) (fun _ _ _ h => h) (Or.inl ⟨by rfl, ?_⟩) ?_ ?_
                rotate_left
                · intro w'
                  go_simp
                  with_reducible rfl
                rotate_left
                · simp only [Act.put, List.setIfInBounds_toArray, List.set_cons_zero, List.set_cons_succ, i64_w, i32_w]
                  rfl
                refine pure_ (i := 27) (N := some 48) (v := ?_) (a' := ?_) (mS 38 268435455) rfl rfl (any_of HT_.out (by kernel_rfl)) (fun _ _ _ h => h) (Or.inl ⟨by rfl, ?_⟩) ?_ ?_
                rotate_left
                · intro w'
                  go_simp
                  with_reducible rfl
                rotate_left
                · simp only [Act.put, List.setIfInBounds_toArray, List.set_cons_zero, List.set_cons_succ, i64_w, i32_w]
                  rfl
                refine pure_ (i := 28) (N := some 49) (v := undef) (a' := ?_) (mS 38 536870911) rfl rfl (any_of HT_.out (by kernel_rfl)) (fun _ _ _ h => h) (Or.inr ⟨by rfl, rfl⟩) ?_ ?_
                rotate_left
                · simp only [Act.put, List.setIfInBounds_toArray, List.set_cons_zero, List.set_cons_succ, i64_w, i32_w]
                  rfl
                refine pure_ (i := 29) (N := some 50) (v := undef) (a' := ?_) (mS 38 1073741823) rfl rfl (any_of HT_.out (by kernel_rfl)) (fun _ _ _ h => h) (Or.inr ⟨by rfl, rfl⟩) ?_ ?_
                rotate_left
                · simp only [Act.put, List.setIfInBounds_toArray, List.set_cons_zero, List.set_cons_succ, i64_w, i32_w]
                  rfl
                refine pure_ (i := 30) (N := some 51) (v := undef) (a' := ?_) (mS 38 2147483647) rfl rfl (any_of HT_.out (by kernel_rfl)) (fun _ _ _ h => h) (Or.inr ⟨by rfl, rfl⟩) ?_ ?_
                rotate_left
                · simp only [Act.put, List.setIfInBounds_toArray, List.set_cons_zero, List.set_cons_succ, i64_w, i32_w]
                  rfl
                refine pure_ (i := 31) (N := some 52) (v := undef) (a' := ?_) (mS 38 4294967295) rfl rfl (any_of HT_.out (by kernel_rfl)) (fun _ _ _ h => h) (Or.inr ⟨by rfl, rfl⟩) ?_ ?_
                rotate_left
                · simp only [Act.put, List.setIfInBounds_toArray, List.set_cons_zero, List.set_cons_succ, i64_w, i32_w]
                  rfl
                refine pure_ (i := 32) (N := some 53) (v := ?_) (a' := ?_) (mS 38 8589934591) rfl rfl (any_of HT_.out (by kernel_rfl)) (fun _ _ _ h => h) (Or.inl ⟨by rfl, ?_⟩) ?_ ?_
                rotate_left
                · intro w'
                  go_simp
                  with_reducible rfl
                rotate_left
                · simp only [Act.put, List.setIfInBounds_toArray, List.set_cons_zero, List.set_cons_succ, i64_w, i32_w]
                  rfl
                refine pure_ (i := 33) (N := some 54) (v := ?_) (a' := ?_) (mS 38 17179869183) rfl rfl (any_of HT_.out (by kernel_rfl)) (fun _ _ _ h => h) (Or.inl ⟨by rfl, ?_⟩) ?_ ?_
                rotate_left
                · intro w'
                  go_simp
                  with_reducible rfl
                rotate_left
                · simp only [Act.put, List.setIfInBounds_toArray, List.set_cons_zero, List.set_cons_succ, i64_w, i32_w]
                  rfl
                refine pure_ (i := 34) (N := some 55) (v := undef) (a' := ?_) (mS 38 34359738367) rfl rfl (any_of HT_.out (by kernel_rfl)) (fun _ _ _ h => h) (Or.inr ⟨by rfl, rfl⟩) ?_ ?_
                rotate_left
                · simp only [Act.put, List.setIfInBounds_toArray, List.set_cons_zero, List.set_cons_succ, i64_w, i32_w]
                  rfl
                refine pure_ (i := 35) (N := some 56) (v := undef) (a' := ?_) (mS 38 68719476735) rfl rfl (any_of HT_.out (by kernel_rfl)) (fun _ _ _ h => h) (Or.inr ⟨by rfl, rfl⟩) ?_ ?_
                rotate_left
                · simp only [Act.put, List.setIfInBounds_toArray, List.set_cons_zero, List.set_cons_succ, i64_w, i32_w]
                  rfl
                refine pure_ (i := 36) (N := some 57) (v := undef) (a' := ?_) (mS 38 137438953471) rfl rfl (any_of HT_.out (by kernel_rfl)) (fun _ _ _ h => h) (Or.inr ⟨by rfl, rfl⟩) ?_ ?_
                rotate_left
                · simp only [Act.put, List.setIfInBounds_toArray, List.set_cons_zero, List.set_cons_succ, i64_w, i32_w]
                  rfl
                refine pure_ (i := 37) (N := some 58) (v := ?_) (a' := ?_) (mS 38 274877906943) rfl rfl (any_of HT_.out (by kernel_rfl)) (fun _ _ _ h => h) (Or.inl ⟨by rfl, ?_⟩) ?_ ?_
                rotate_left
                · intro w'
                  go_simp
                  with_reducible rfl
                rotate_left
                · simp only [Act.put, List.setIfInBounds_toArray, List.set_cons_zero, List.set_cons_succ, i64_w, i32_w]
                  rfl
                refine done_ (done_of HT_.out (by kernel_rfl)) ?_
                try go_wp2
                go_meet
                case rel => exact ⟨_, (true), (by first | rfl | (simp; done) | (simp [*]; done)), H', ⟨by have := HJ1.out; have := HK2.out; first | omega | exact Nat.le_refl _⟩, ⟨by (with_reducible repeat (first | refine blk_drewN ?_ _ | refine blk_drew ?_ | refine blk_alloc ?_ _)); exact BK115.out⟩, ⟨by repeat (first | (with_reducible first | exact HB.out | apply below_alloc | apply pw_below_drewN | apply below_drew1 | refine below_set ?_ GE115.out) | exact HB.out)⟩⟩
             case rest =>
              clear HC8
              try clear c1
              try clear c2
              try clear p2
              try clear c3
              try clear c12
              try clear c26
              try clear c33
              obtain ⟨kq, x58_7, rfl, HA, HJ7, BK115, HB⟩ := hcut
              cases kq with
              | zero => exact absurd HA.out (by simp [subchannel_session.j2])
              | succ kj7 =>
               have H := HA.out
               clear HA
               simp only [subchannel_session.j2] at H
               by_cases c46 : x58_7 = true
               · subst c46
                 have H1 : (some false) = some r := by rw [if_pos rfl] at H; exact H
                 clear H
                 have H := H1
                 clear H1
                 obtain rfl := Option.some.inj H
                 go_wp2
                 go_ret
                 exact ⟨by first | rfl | (simp [errW_none, errW_some] <;> rfl) | (simp [*, errW_none, errW_some] <;> rfl), by repeat (first | (with_reducible first | exact HB.out | apply below_alloc | apply pw_below_drewN | apply below_drew1 | refine below_set ?_ GE115.out) | exact HB.out)⟩
               · replace c46 := Bool.eq_false_iff.mpr c46
                 subst c46
                 have H1 : ((subchannel_end.f ((rd_T53 l0 x16_2).f0) ((rd_T53 l0 x16_2).f1) ((rd_T53 l0 x16_2).f2) ((rd_T53 l0 x16_2).f3) ((rd_T53 l0 x16_2).f4) ((rd_T53 l0 x16_2).f5) ((rd_T53 l0 x16_2).f6)).bind fun t124 => (subchannel_session.l0 kj7 l0 t124 l0 (l0.length : Int) (wrap64 (x16_2 + 1)))) = some r := by rw [if_neg (show ¬ (false = true) by decide)] at H; exact H
                 clear H
                 have H := H1
                 clear H1
                 replace H := Option.bind_eq_some_iff.mp H
                 obtain ⟨t124, A470, H⟩ := H
                 replace H : (subchannel_session.l0 kj7 l0 t124 l0 (l0.length : Int) (wrap64 (x16_2 + 1))) = some r := H
                 have A47 := Aside0.mk A470
                 clear A470
                 have H' := Aside0.mk H
                 clear H
                 obtain ⟨hcz48_0, hcz48_1, hcz48_2, hcz48_3, hcz48_4, hcz48_5, hcz48_6⟩ := cel7 BK115.out
                 obtain ⟨hfz48_0, hfz48_1, hfz48_2, hfz48_3, hfz48_4, hfz48_5, hfz48_6⟩ := frz7 BK115.out
                 go_wp2_with (first | ((with_reducible refine gate_callee (f := 30) rfl ?_); refine goesL_ (some 60) rfl rfl Try.func30 (by kernel_rfl) rfl #[.agg #[.int .i64 ((rd_T53 l0 x16_2).f0), .int .i64 ((rd_T53 l0 x16_2).f1), .int .i64 ((rd_T53 l0 x16_2).f2), .int .i64 ((rd_T53 l0 x16_2).f3), .int .i64 ((rd_T53 l0 x16_2).f4), .int .i64 ((rd_T53 l0 x16_2).f5), .int .i64 ((rd_T53 l0 x16_2).f6)]] rfl (by (try simp only [List.map_toArray, List.map_cons, List.map_nil]); first | done | rfl | (simp only [List.length_drop, List.length_take]; rfl)) ?_; (with_reducible refine (subchannel_end.calls ((rd_T53 l0 x16_2).f0) ((rd_T53 l0 x16_2).f1) ((rd_T53 l0 x16_2).f2) ((rd_T53 l0 x16_2).f3) ((rd_T53 l0 x16_2).f4) ((rd_T53 l0 x16_2).f5) ((rd_T53 l0 x16_2).f6) t124 _ A47.out).mono ?_); rintro e w49 ⟨rfl, hb⟩; refine ⟨_, rfl, ?_⟩; have n0_ := Aside0.mk (blk_below (g := gb115) (o := .cells #[.int .i64 ((rd_T53 l0 x16_2).f0), .int .i64 ((rd_T53 l0 x16_2).f1), .int .i64 ((rd_T53 l0 x16_2).f2), .int .i64 ((rd_T53 l0 x16_2).f3), .int .i64 ((rd_T53 l0 x16_2).f4), .int .i64 ((rd_T53 l0 x16_2).f5), .int .i64 ((rd_T53 l0 x16_2).f6)] 53 (0, 0)) (by (with_reducible repeat (first | refine blk_drewN ?_ _ | refine blk_drew ?_ | refine blk_alloc ?_ _)); exact BK115.out) hb); have n1_ := Aside0.mk (below_step (by repeat (first | (with_reducible first | exact HB.out | apply below_alloc | apply pw_below_drewN | apply below_drew1 | refine below_set ?_ GE115.out) | exact HB.out)) hb); clear BK115; clear HB; have BK115 := n0_; have HB := n1_; clear n0_ n1_; (try clear hb); (try clear hb2); (try clear hk); (try clear hi)))
                 go_roundg kj7
                 case measure => have := HJ1.out; have := HK2.out; have := HJ7.out; omega
                 case rel => exact ⟨(t124), (wrap64 (x16_2 + 1)), (by first | rfl | (simp; done) | (simp [*]; done)), (by first | rfl | (simp; done) | (simp [*]; done)), H', ⟨by have := HJ1.out; have := HK2.out; have := HJ7.out; omega⟩, ⟨by repeat (first | (with_reducible first | exact HB.out | apply below_alloc | apply pw_below_drewN | apply below_drew1 | refine below_set ?_ GE115.out) | exact HB.out)⟩⟩
           · rw [if_neg c7] at H
             exact absurd H (by simp)
         · rw [if_neg c6] at H
           exact absurd H (by simp)
       · rw [if_neg c5] at H
         have c5b0 : decide (x16_2 < (l0.length : Int)) = false := decide_eq_false c5
         clear c5
         obtain rfl := Option.some.inj H
         go_wp2
         go_ret
         exact ⟨by first | rfl | (simp [errW_none, errW_some] <;> rfl) | (simp [*, errW_none, errW_some] <;> rfl), by repeat (first | (with_reducible first | exact HB.out | apply below_alloc | apply pw_below_drewN | apply below_drew1) | exact HB.out)⟩
end Go.Proofs.Ytpmkibggmkibeaa.G
