/- Texts of one claim, merged by a program of this session; what is proved stands in the last of them. -/
import Derived.ChangeArms
import Derived.Deep.Slices
import Derived.Test.YtpmkibggmkibeaaKb1
import Derived.Test.YtpmkibggmkibeaaKb3
import Derived.Test.YtpmkibggmkibeaaKb4
namespace Go.Proofs.Ytpmkibggmkibeaa.G
open Go.RowKit Go.Proofs.YtpmkibggmkibeaaW.PrintWords Go.Proofs.YtpmkibggmkibeaaW.PrintLast Go.Proofs.YtpmkibggmkibeaaW.PrintMore
attribute [local go_sem] max2_int min2_int max_two min_two max_three min_three max_four min_four   -- for this text's walks alone
set_option linter.unusedVariables false
set_option linter.unusedSimpArgs false
attribute [local go_sem high] eqA25 eqA27
mutual
def masterdisclaw10_SubchannelCounts.j0 : Nat → Int → Int → Int → Bool → Int → Int → Int → Int → Int → Int → Int → Int → Int → Int → Int → Int → Int → Int → Int → Int → Int → Int → Option (Bool)
 | 0, _, _, _, _, _, _, _, _, _, _, _, _, _, _, _, _, _, _, _, _, _, _ => none
 | k + 1, x2, x8, x10, x42, x284000, x284001, x284002, x284003, x284004, x284005, x284006, x284007, x284008, x295000, x295001, x295002, x295003, x295004, x295005, x295006, x295007, x295008 => if x42 = true then (if x8 = 0 then (if x10 = 0 then (some true) else (some (x295000 == 0 && (x295001 == 0 && (x295002 == 0 && ((x295003 == 0 && (x295004 == 0 && (x295005 == 0))) && ((x295006 == 0 && (x295007 == 0 && (x295008 == 0)))))))))) else (if (x284000 == 0 && (x284001 == 0 && (x284002 == 0 && ((x284003 == 0 && (x284004 == 0 && (x284005 == 0))) && ((x284006 == 0 && (x284007 == 0 && (x284008 == 0)))))))) = true then (if x10 = 0 then (some true) else (some (x295000 == 0 && (x295001 == 0 && (x295002 == 0 && ((x295003 == 0 && (x295004 == 0 && (x295005 == 0))) && ((x295006 == 0 && (x295007 == 0 && (x295008 == 0)))))))))) else (none))) else ((address_ToLBA.f x284006 x284007 x284008).bind fun bt295 => ((address_Distance.f k x284006 x284007 x284008 x295006 x295007 x295008).bind fun bt297 => ((address_Distance.f k x284003 x284004 x284005 x295003 x295004 x295005).bind fun bt299 => ((subchannel_Encode.f x284000 x284001 x284002 x284003 x284004 x284005 x284006 x284007 x284008).bind fun bt301 => (if bt301.2 = 0 then (if bt295.1 = x2 then (if bt295.2 = 0 then (if bt297.1 = 1 then (if bt297.2 = 0 then (masterdisclaw10_SubchannelCounts.j1 k bt299.1 (bt299.2 != 0) x284000 x284001 x284002 x284003 x284004 x284005 x284006 x284007 x284008 x295000 x295001 x295002 x295003 x295004 x295005 x295006 x295007 x295008) else (masterdisclaw10_SubchannelCounts.j1 k bt299.1 true x284000 x284001 x284002 x284003 x284004 x284005 x284006 x284007 x284008 x295000 x295001 x295002 x295003 x295004 x295005 x295006 x295007 x295008)) else (masterdisclaw10_SubchannelCounts.j1 k bt299.1 true x284000 x284001 x284002 x284003 x284004 x284005 x284006 x284007 x284008 x295000 x295001 x295002 x295003 x295004 x295005 x295006 x295007 x295008)) else (masterdisclaw10_SubchannelCounts.j1 k bt299.1 true x284000 x284001 x284002 x284003 x284004 x284005 x284006 x284007 x284008 x295000 x295001 x295002 x295003 x295004 x295005 x295006 x295007 x295008)) else (masterdisclaw10_SubchannelCounts.j1 k bt299.1 true x284000 x284001 x284002 x284003 x284004 x284005 x284006 x284007 x284008 x295000 x295001 x295002 x295003 x295004 x295005 x295006 x295007 x295008)) else (masterdisclaw10_SubchannelCounts.j1 k bt299.1 true x284000 x284001 x284002 x284003 x284004 x284005 x284006 x284007 x284008 x295000 x295001 x295002 x295003 x295004 x295005 x295006 x295007 x295008))))))
def masterdisclaw10_SubchannelCounts.j1 : Nat → Int → Bool → Int → Int → Int → Int → Int → Int → Int → Int → Int → Int → Int → Int → Int → Int → Int → Int → Int → Int → Option (Bool)
 | 0, _, _, _, _, _, _, _, _, _, _, _, _, _, _, _, _, _, _, _, _ => none
 | k + 1, x13, x108, x284000, x284001, x284002, x284003, x284004, x284005, x284006, x284007, x284008, x295000, x295001, x295002, x295003, x295004, x295005, x295006, x295007, x295008 => if x108 = true then (none) else (if x284001 = x295001 then (if x284002 = x295002 then (if x284002 = 1 then (if x13 = 1 then (some true) else (if x284002 = 0 then (some (x13 == (-1))) else (none))) else (if x284002 = 0 then (some (x13 == (-1))) else (none))) else (if x295002 = 0 then (some true) else (some (x295003 == 0 && (x295004 == 0 && (x295005 == 0)))))) else (if x295002 = 0 then (some true) else (some (x295003 == 0 && (x295004 == 0 && (x295005 == 0))))))
end
def masterdisclaw10_SubchannelCounts.f (k : Nat) (l0 : List (S53)) (a1 : Int) (a2 : Int) : Option (Bool) := (masterdisclaw10_awake.f).bind fun t272 => (if t272 = true then (if (l0.length : Int) > 120 then (some true) else ((subchannel_Program.f l0 a1 a2).bind fun bt273 => ((subchannel_Program.f l0 a1 (wrap64 (a2 + 1))).bind fun bt284 => (if bt273.2.2.2.2.2.2.2.2.2 = 0 then (masterdisclaw10_SubchannelCounts.j0 k a2 bt273.2.2.2.2.2.2.2.2.2 bt284.2.2.2.2.2.2.2.2.2 (bt284.2.2.2.2.2.2.2.2.2 != 0) bt273.1 bt273.2.1 bt273.2.2.1 bt273.2.2.2.1 bt273.2.2.2.2.1 bt273.2.2.2.2.2.1 bt273.2.2.2.2.2.2.1 bt273.2.2.2.2.2.2.2.1 bt273.2.2.2.2.2.2.2.2.1 bt284.1 bt284.2.1 bt284.2.2.1 bt284.2.2.2.1 bt284.2.2.2.2.1 bt284.2.2.2.2.2.1 bt284.2.2.2.2.2.2.1 bt284.2.2.2.2.2.2.2.1 bt284.2.2.2.2.2.2.2.2.1) else (masterdisclaw10_SubchannelCounts.j0 k a2 bt273.2.2.2.2.2.2.2.2.2 bt284.2.2.2.2.2.2.2.2.2 true bt273.1 bt273.2.1 bt273.2.2.1 bt273.2.2.2.1 bt273.2.2.2.2.1 bt273.2.2.2.2.2.1 bt273.2.2.2.2.2.2.1 bt273.2.2.2.2.2.2.2.1 bt273.2.2.2.2.2.2.2.2.1 bt284.1 bt284.2.1 bt284.2.2.1 bt284.2.2.2.1 bt284.2.2.2.2.1 bt284.2.2.2.2.2.1 bt284.2.2.2.2.2.2.1 bt284.2.2.2.2.2.2.2.1 bt284.2.2.2.2.2.2.2.2.1))))) else (none))
theorem masterdisclaw10_SubchannelCounts.mono_l : ∀ k, (∀ y0 y1 y2 y3 y4 y5 y6 y7 y8 y9 y10 y11 y12 y13 y14 y15 y16 y17 y18 y19 y20 y21, LeO (masterdisclaw10_SubchannelCounts.j0 k y0 y1 y2 y3 y4 y5 y6 y7 y8 y9 y10 y11 y12 y13 y14 y15 y16 y17 y18 y19 y20 y21) (masterdisclaw10_SubchannelCounts.j0 (k + 1) y0 y1 y2 y3 y4 y5 y6 y7 y8 y9 y10 y11 y12 y13 y14 y15 y16 y17 y18 y19 y20 y21)) ∧ (∀ y0 y1 y2 y3 y4 y5 y6 y7 y8 y9 y10 y11 y12 y13 y14 y15 y16 y17 y18 y19, LeO (masterdisclaw10_SubchannelCounts.j1 k y0 y1 y2 y3 y4 y5 y6 y7 y8 y9 y10 y11 y12 y13 y14 y15 y16 y17 y18 y19) (masterdisclaw10_SubchannelCounts.j1 (k + 1) y0 y1 y2 y3 y4 y5 y6 y7 y8 y9 y10 y11 y12 y13 y14 y15 y16 y17 y18 y19))
 | 0 => ⟨fun _ _ _ _ _ _ _ _ _ _ _ _ _ _ _ _ _ _ _ _ _ _ r h => by simp [masterdisclaw10_SubchannelCounts.j0] at h, fun _ _ _ _ _ _ _ _ _ _ _ _ _ _ _ _ _ _ _ _ r h => by simp [masterdisclaw10_SubchannelCounts.j1] at h⟩
 | k + 1 => by
  obtain ⟨ih0, ih1⟩ := masterdisclaw10_SubchannelCounts.mono_l k
  refine ⟨?_, ?_⟩
  · intro y0 y1 y2 y3 y4 y5 y6 y7 y8 y9 y10 y11 y12 y13 y14 y15 y16 y17 y18 y19 y20 y21
    unfold masterdisclaw10_SubchannelCounts.j0
    repeat' first
    | (with_reducible exact ih0 _ _ _ _ _ _ _ _ _ _ _ _ _ _ _ _ _ _ _ _ _ _)
    | (with_reducible exact ih1 _ _ _ _ _ _ _ _ _ _ _ _ _ _ _ _ _ _ _ _)
    | (with_reducible exact address_Distance.mono _ _ _ _ _ _ _)
    | (with_reducible exact LeO.refl _)
    | (with_reducible exact LeO.none _)
    | (with_reducible refine LeO.ite ?_ ?_)
    | (with_reducible refine LeO.bind ?_ (fun _ => ?_))
    | exact ih0 _ _ _ _ _ _ _ _ _ _ _ _ _ _ _ _ _ _ _ _ _ _
    | exact ih1 _ _ _ _ _ _ _ _ _ _ _ _ _ _ _ _ _ _ _ _
    | exact address_Distance.mono _ _ _ _ _ _ _
    | exact LeO.none _
    | refine LeO.ite ?_ ?_
    | refine LeO.bind ?_ (fun _ => ?_)
  · intro y0 y1 y2 y3 y4 y5 y6 y7 y8 y9 y10 y11 y12 y13 y14 y15 y16 y17 y18 y19
    unfold masterdisclaw10_SubchannelCounts.j1
    repeat' first
    | (with_reducible exact ih0 _ _ _ _ _ _ _ _ _ _ _ _ _ _ _ _ _ _ _ _ _ _)
    | (with_reducible exact ih1 _ _ _ _ _ _ _ _ _ _ _ _ _ _ _ _ _ _ _ _)
    | (with_reducible exact address_Distance.mono _ _ _ _ _ _ _)
    | (with_reducible exact LeO.refl _)
    | (with_reducible exact LeO.none _)
    | (with_reducible refine LeO.ite ?_ ?_)
    | (with_reducible refine LeO.bind ?_ (fun _ => ?_))
    | exact ih0 _ _ _ _ _ _ _ _ _ _ _ _ _ _ _ _ _ _ _ _ _ _
    | exact ih1 _ _ _ _ _ _ _ _ _ _ _ _ _ _ _ _ _ _ _ _
    | exact address_Distance.mono _ _ _ _ _ _ _
    | exact LeO.none _
    | refine LeO.ite ?_ ?_
    | refine LeO.bind ?_ (fun _ => ?_)
theorem masterdisclaw10_SubchannelCounts.mono : ∀ a0 a1 a2 k, LeO (masterdisclaw10_SubchannelCounts.f k a0 a1 a2) (masterdisclaw10_SubchannelCounts.f (k + 1) a0 a1 a2) := by
 intro a0 a1 a2 k
 obtain ⟨ih0, ih1⟩ := masterdisclaw10_SubchannelCounts.mono_l k
 unfold masterdisclaw10_SubchannelCounts.f
 repeat' first
  | (with_reducible exact ih0 _ _ _ _ _ _ _ _ _ _ _ _ _ _ _ _ _ _ _ _ _ _)
  | (with_reducible exact ih1 _ _ _ _ _ _ _ _ _ _ _ _ _ _ _ _ _ _ _ _)
  | (with_reducible exact address_Distance.mono _ _ _ _ _ _ _)
  | (with_reducible exact LeO.refl _)
  | (with_reducible exact LeO.none _)
  | (with_reducible refine LeO.ite ?_ ?_)
  | (with_reducible refine LeO.bind ?_ (fun _ => ?_))
  | exact ih0 _ _ _ _ _ _ _ _ _ _ _ _ _ _ _ _ _ _ _ _ _ _
  | exact ih1 _ _ _ _ _ _ _ _ _ _ _ _ _ _ _ _ _ _ _ _
  | exact address_Distance.mono _ _ _ _ _ _ _
  | exact LeO.none _
  | refine LeO.ite ?_ ?_
  | refine LeO.bind ?_ (fun _ => ?_)
set_option maxHeartbeats 8000000 in
set_option maxRecDepth 100000 in
theorem masterdisclaw10_SubchannelCounts.calls (k : Nat) (A0 : Option Addr) (c0 : Nat) (l0 : List (S53)) (a1 : Int) (a2 : Int) (r : Bool) (w : World) (hr0 : Kd.C k53 w A0 l0.length l0) (hc0 : l0.length ≤ c0) (h : masterdisclaw10_SubchannelCounts.f k l0 a1 a2 = some r) :
 Calls Try.prog 4 #[.slice A0 l0.length c0, .int .i64 a1, .int .i64 a2] w fun e w' => e = .returned (.bool r) ∧ Below w.heap.size w w' := by
 have hu27 := Try.underlying27
 have hu25 := Try.underlying25
 have HR0 := Aside0.mk hr0
 have HC0 := Aside0.mk hc0
 clear hr0 hc0
 have HB := Aside0.mk (Below.refl w.heap.size w)
 have H : ((masterdisclaw10_awake.f).bind fun t272 => (if t272 = true then (if (l0.length : Int) > 120 then (some true) else ((subchannel_Program.f l0 a1 a2).bind fun bt273 => ((subchannel_Program.f l0 a1 (wrap64 (a2 + 1))).bind fun bt284 => (if bt273.2.2.2.2.2.2.2.2.2 = 0 then (masterdisclaw10_SubchannelCounts.j0 k a2 bt273.2.2.2.2.2.2.2.2.2 bt284.2.2.2.2.2.2.2.2.2 (bt284.2.2.2.2.2.2.2.2.2 != 0) bt273.1 bt273.2.1 bt273.2.2.1 bt273.2.2.2.1 bt273.2.2.2.2.1 bt273.2.2.2.2.2.1 bt273.2.2.2.2.2.2.1 bt273.2.2.2.2.2.2.2.1 bt273.2.2.2.2.2.2.2.2.1 bt284.1 bt284.2.1 bt284.2.2.1 bt284.2.2.2.1 bt284.2.2.2.2.1 bt284.2.2.2.2.2.1 bt284.2.2.2.2.2.2.1 bt284.2.2.2.2.2.2.2.1 bt284.2.2.2.2.2.2.2.2.1) else (masterdisclaw10_SubchannelCounts.j0 k a2 bt273.2.2.2.2.2.2.2.2.2 bt284.2.2.2.2.2.2.2.2.2 true bt273.1 bt273.2.1 bt273.2.2.1 bt273.2.2.2.1 bt273.2.2.2.2.1 bt273.2.2.2.2.2.1 bt273.2.2.2.2.2.2.1 bt273.2.2.2.2.2.2.2.1 bt273.2.2.2.2.2.2.2.2.1 bt284.1 bt284.2.1 bt284.2.2.1 bt284.2.2.2.1 bt284.2.2.2.2.1 bt284.2.2.2.2.2.1 bt284.2.2.2.2.2.2.1 bt284.2.2.2.2.2.2.2.1 bt284.2.2.2.2.2.2.2.2.1))))) else (none))) = some r := h
 clear h
 replace H := Option.bind_eq_some_iff.mp H
 obtain ⟨t272, A40, H⟩ := H
 replace H : (if t272 = true then (if (l0.length : Int) > 120 then (some true) else ((subchannel_Program.f l0 a1 a2).bind fun bt273 => ((subchannel_Program.f l0 a1 (wrap64 (a2 + 1))).bind fun bt284 => (if bt273.2.2.2.2.2.2.2.2.2 = 0 then (masterdisclaw10_SubchannelCounts.j0 k a2 bt273.2.2.2.2.2.2.2.2.2 bt284.2.2.2.2.2.2.2.2.2 (bt284.2.2.2.2.2.2.2.2.2 != 0) bt273.1 bt273.2.1 bt273.2.2.1 bt273.2.2.2.1 bt273.2.2.2.2.1 bt273.2.2.2.2.2.1 bt273.2.2.2.2.2.2.1 bt273.2.2.2.2.2.2.2.1 bt273.2.2.2.2.2.2.2.2.1 bt284.1 bt284.2.1 bt284.2.2.1 bt284.2.2.2.1 bt284.2.2.2.2.1 bt284.2.2.2.2.2.1 bt284.2.2.2.2.2.2.1 bt284.2.2.2.2.2.2.2.1 bt284.2.2.2.2.2.2.2.2.1) else (masterdisclaw10_SubchannelCounts.j0 k a2 bt273.2.2.2.2.2.2.2.2.2 bt284.2.2.2.2.2.2.2.2.2 true bt273.1 bt273.2.1 bt273.2.2.1 bt273.2.2.2.1 bt273.2.2.2.2.1 bt273.2.2.2.2.2.1 bt273.2.2.2.2.2.2.1 bt273.2.2.2.2.2.2.2.1 bt273.2.2.2.2.2.2.2.2.1 bt284.1 bt284.2.1 bt284.2.2.1 bt284.2.2.2.1 bt284.2.2.2.2.1 bt284.2.2.2.2.2.1 bt284.2.2.2.2.2.2.1 bt284.2.2.2.2.2.2.2.1 bt284.2.2.2.2.2.2.2.2.1))))) else (none)) = some r := H
 have A4 := Aside0.mk A40
 clear A40
 by_cases c5 : t272 = true
 · subst c5
   have H1 : (if (l0.length : Int) > 120 then (some true) else ((subchannel_Program.f l0 a1 a2).bind fun bt273 => ((subchannel_Program.f l0 a1 (wrap64 (a2 + 1))).bind fun bt284 => (if bt273.2.2.2.2.2.2.2.2.2 = 0 then (masterdisclaw10_SubchannelCounts.j0 k a2 bt273.2.2.2.2.2.2.2.2.2 bt284.2.2.2.2.2.2.2.2.2 (bt284.2.2.2.2.2.2.2.2.2 != 0) bt273.1 bt273.2.1 bt273.2.2.1 bt273.2.2.2.1 bt273.2.2.2.2.1 bt273.2.2.2.2.2.1 bt273.2.2.2.2.2.2.1 bt273.2.2.2.2.2.2.2.1 bt273.2.2.2.2.2.2.2.2.1 bt284.1 bt284.2.1 bt284.2.2.1 bt284.2.2.2.1 bt284.2.2.2.2.1 bt284.2.2.2.2.2.1 bt284.2.2.2.2.2.2.1 bt284.2.2.2.2.2.2.2.1 bt284.2.2.2.2.2.2.2.2.1) else (masterdisclaw10_SubchannelCounts.j0 k a2 bt273.2.2.2.2.2.2.2.2.2 bt284.2.2.2.2.2.2.2.2.2 true bt273.1 bt273.2.1 bt273.2.2.1 bt273.2.2.2.1 bt273.2.2.2.2.1 bt273.2.2.2.2.2.1 bt273.2.2.2.2.2.2.1 bt273.2.2.2.2.2.2.2.1 bt273.2.2.2.2.2.2.2.2.1 bt284.1 bt284.2.1 bt284.2.2.1 bt284.2.2.2.1 bt284.2.2.2.2.1 bt284.2.2.2.2.2.1 bt284.2.2.2.2.2.2.1 bt284.2.2.2.2.2.2.2.1 bt284.2.2.2.2.2.2.2.2.1))))) = some r := by rw [if_pos rfl] at H; exact H
   clear H
   have H := H1
   clear H1
   by_cases c6 : (l0.length : Int) > 120
   · rw [if_pos c6] at H
     have c6b0 : decide (120 < (l0.length : Int)) = true := decide_eq_true c6
     have c6b1 : decide (120 < l0.length) = true := decide_eq_true (by omega)
     clear c6
     obtain rfl := Option.some.inj H
     go_enter Try.func4, Try.ntmps4
     go_wp2_with (first | ((with_reducible refine gate_callee (f := 10) rfl ?_); refine goesL_ (some 17) rfl rfl Try.func10 (by kernel_rfl) rfl #[] rfl (by (try simp only [List.map_toArray, List.map_cons, List.map_nil]); first | done | rfl | (simp only [List.length_drop, List.length_take]; rfl)) ?_; (with_reducible refine (masterdisclaw10_awake.calls  true _ A4.out).mono ?_); rintro e w7 ⟨rfl, hb⟩; refine ⟨_, rfl, ?_⟩; have n0_ := Aside0.mk (below_step (by repeat (first | (with_reducible first | exact HB.out | apply below_alloc | apply pw_below_drewN | apply below_drew1) | exact HB.out)) hb); clear HB; have HB := n0_; clear n0_; (try clear hb); (try clear hb2); (try clear hk); (try clear hi)))
     go_ret
     exact ⟨by first | rfl | (simp [errW_none, errW_some] <;> rfl) | (simp [*, errW_none, errW_some] <;> rfl), by repeat (first | (with_reducible first | exact HB.out | apply below_alloc | apply pw_below_drewN | apply below_drew1) | exact HB.out)⟩
   · rw [if_neg c6] at H
     have c6b0 : decide (120 < (l0.length : Int)) = false := decide_eq_false c6
     have c6b1 : decide (120 < l0.length) = false := decide_eq_false (by omega)
     clear c6
     replace H := Option.bind_eq_some_iff.mp H
     obtain ⟨⟨t273, t274, t275, t276, t277, t278, t279, t280, t281, t282⟩, A80, H⟩ := H
     replace H : ((subchannel_Program.f l0 a1 (wrap64 (a2 + 1))).bind fun bt284 => (if t282 = 0 then (masterdisclaw10_SubchannelCounts.j0 k a2 t282 bt284.2.2.2.2.2.2.2.2.2 (bt284.2.2.2.2.2.2.2.2.2 != 0) t273 t274 t275 t276 t277 t278 t279 t280 t281 bt284.1 bt284.2.1 bt284.2.2.1 bt284.2.2.2.1 bt284.2.2.2.2.1 bt284.2.2.2.2.2.1 bt284.2.2.2.2.2.2.1 bt284.2.2.2.2.2.2.2.1 bt284.2.2.2.2.2.2.2.2.1) else (masterdisclaw10_SubchannelCounts.j0 k a2 t282 bt284.2.2.2.2.2.2.2.2.2 true t273 t274 t275 t276 t277 t278 t279 t280 t281 bt284.1 bt284.2.1 bt284.2.2.1 bt284.2.2.2.1 bt284.2.2.2.2.1 bt284.2.2.2.2.2.1 bt284.2.2.2.2.2.2.1 bt284.2.2.2.2.2.2.2.1 bt284.2.2.2.2.2.2.2.2.1))) = some r := H
     have A8 := Aside0.mk A80
     clear A80
     replace H := Option.bind_eq_some_iff.mp H
     obtain ⟨⟨t284, t285, t286, t287, t288, t289, t290, t291, t292, t293⟩, A90, H⟩ := H
     replace H : (if t282 = 0 then (masterdisclaw10_SubchannelCounts.j0 k a2 t282 t293 (t293 != 0) t273 t274 t275 t276 t277 t278 t279 t280 t281 t284 t285 t286 t287 t288 t289 t290 t291 t292) else (masterdisclaw10_SubchannelCounts.j0 k a2 t282 t293 true t273 t274 t275 t276 t277 t278 t279 t280 t281 t284 t285 t286 t287 t288 t289 t290 t291 t292)) = some r := H
     have A9 := Aside0.mk A90
     clear A90
     have HC10 := Aside0.mk H
     clear H
     go_enter Try.func4, Try.ntmps4
     go_upto_region 7 with (first | ((with_reducible refine gate_callee (f := 10) rfl ?_); refine goesL_ (some 17) rfl rfl Try.func10 (by kernel_rfl) rfl #[] rfl (by (try simp only [List.map_toArray, List.map_cons, List.map_nil]); first | done | rfl | (simp only [List.length_drop, List.length_take]; rfl)) ?_; (with_reducible refine (masterdisclaw10_awake.calls  true _ A4.out).mono ?_); rintro e w11 ⟨rfl, hb⟩; refine ⟨_, rfl, ?_⟩; have n0_ := Aside0.mk (below_step (by repeat (first | (with_reducible first | exact HB.out | apply below_alloc | apply pw_below_drewN | apply below_drew1) | exact HB.out)) hb); clear HB; have HB := n0_; clear n0_; (try clear hb); (try clear hb2); (try clear hk); (try clear hi)) | ((with_reducible refine gate_callee (f := 11) rfl ?_); refine goesL_ (some 26) rfl rfl Try.func11 (by kernel_rfl) rfl #[.slice A0 l0.length c0, .int .i64 a1, .int .i64 a2] rfl (by (try simp only [List.map_toArray, List.map_cons, List.map_nil]); first | done | rfl | (simp only [List.length_drop, List.length_take]; rfl)) ?_; (with_reducible refine (subchannel_Program.calls _ _ l0 a1 a2 t273 t274 t275 t276 t277 t278 t279 t280 t281 t282 _ ?side1 ?side2 A8.out).mono ?_); (case side1 => repeat (first | exact (Kd.C_below HR0.out HB.out) | (with_reducible refine Kd.C_alloc ?_ _) | (with_reducible refine Kd.C_drewN ?_ _) | (with_reducible refine Kd.C_drew ?_))); (case side2 => exact HC0.out); rintro e w12 ⟨rfl, hb⟩; refine ⟨_, rfl, ?_⟩; have n0_ := Aside0.mk (below_step (by repeat (first | (with_reducible first | exact HB.out | apply below_alloc | apply pw_below_drewN | apply below_drew1) | exact HB.out)) hb); clear HB; have HB := n0_; clear n0_; (try clear hb); (try clear hb2); (try clear hk); (try clear hi)) | ((with_reducible refine gate_dst (N := 7) rfl ?_); refine box_event ?hg (N := 7) ?hd (cs := #[.int .i64 0, .int .i64 0, .int .i64 0, .int .i64 0, .int .i64 0, .int .i64 0, .int .i64 0, .int .i64 0, .int .i64 0]) (t := 27) ?hr ?_; (case hd => rfl); (case hg => rfl); (case hr => first | (go_simp; done) | (go_simp; rfl)); intro gb283 hg w13 hbox hb; have n0_ := Aside0.mk (below_step (by repeat (first | (with_reducible first | exact HB.out | apply below_alloc | apply pw_below_drewN | apply below_drew1) | exact HB.out)) hb); have n1_ := Aside0.mk (hbox); have n2_ := Aside0.mk ((by rw [hg]; exact (below_size (by repeat (first | (with_reducible first | exact HB.out | apply below_alloc | apply pw_below_drewN | apply below_drew1) | exact HB.out))) : w.heap.size ≤ gb283)); have n3_ := Aside0.mk ((by rw [hg]; exact (below_size (by repeat (first | (with_reducible first | exact HB.out | apply below_alloc | apply pw_below_drewN | apply below_drew1) | exact HB.out))) : w.heap.size ≤ gb283)); clear HB; have HB := n0_; have BK283 := n1_; have GW283 := n2_; have GE283 := n3_; clear n0_ n1_ n2_ n3_; clear hb hbox hg; have hcz14_0 : w13.cell? ⟨gb283, 0, none⟩ = some (.int .i64 0) := (blk_cell BK283.out 0).trans rfl; have hcz14_1 : w13.cell? ⟨gb283, 1, none⟩ = some (.int .i64 0) := (blk_cell BK283.out 1).trans rfl; have hcz14_2 : w13.cell? ⟨gb283, 2, none⟩ = some (.int .i64 0) := (blk_cell BK283.out 2).trans rfl; have hcz14_3 : w13.cell? ⟨gb283, 3, none⟩ = some (.int .i64 0) := (blk_cell BK283.out 3).trans rfl; have hcz14_4 : w13.cell? ⟨gb283, 4, none⟩ = some (.int .i64 0) := (blk_cell BK283.out 4).trans rfl; have hcz14_5 : w13.cell? ⟨gb283, 5, none⟩ = some (.int .i64 0) := (blk_cell BK283.out 5).trans rfl; have hcz14_6 : w13.cell? ⟨gb283, 6, none⟩ = some (.int .i64 0) := (blk_cell BK283.out 6).trans rfl; have hcz14_7 : w13.cell? ⟨gb283, 7, none⟩ = some (.int .i64 0) := (blk_cell BK283.out 7).trans rfl; have hcz14_8 : w13.cell? ⟨gb283, 8, none⟩ = some (.int .i64 0) := (blk_cell BK283.out 8).trans rfl; have hfz14_0 := blk_frozen BK283.out 0; have hfz14_1 := blk_frozen BK283.out 1; have hfz14_2 := blk_frozen BK283.out 2; have hfz14_3 := blk_frozen BK283.out 3; have hfz14_4 := blk_frozen BK283.out 4; have hfz14_5 := blk_frozen BK283.out 5; have hfz14_6 := blk_frozen BK283.out 6; have hfz14_7 := blk_frozen BK283.out 7; have hfz14_8 := blk_frozen BK283.out 8) | ((with_reducible refine gate_callee (f := 11) rfl ?_); refine goesL_ (some 34) rfl rfl Try.func11 (by kernel_rfl) rfl #[.slice A0 l0.length c0, .int .i64 a1, .int .i64 (wrap64 (a2 + 1))] rfl (by (try simp only [List.map_toArray, List.map_cons, List.map_nil]); first | done | rfl | (simp only [List.length_drop, List.length_take]; rfl)) ?_; (with_reducible refine (subchannel_Program.calls _ _ l0 a1 (wrap64 (a2 + 1)) t284 t285 t286 t287 t288 t289 t290 t291 t292 t293 _ ?side1 ?side2 A9.out).mono ?_); (case side1 => exact Kd.C_below HR0.out (by repeat (first | (with_reducible first | exact HB.out | apply below_alloc | apply pw_below_drewN | apply below_drew1 | refine below_set ?_ GE283.out) | exact HB.out))); (case side2 => exact HC0.out); rintro e w15 ⟨rfl, hb⟩; refine ⟨_, rfl, ?_⟩; have n0_ := Aside0.mk (blk_below (g := gb283) (o := .cells #[.int .i64 t273, .int .i64 t274, .int .i64 t275, .int .i64 t276, .int .i64 t277, .int .i64 t278, .int .i64 t279, .int .i64 t280, .int .i64 t281] 27 (0, 0)) (by (with_reducible repeat (first | refine blk_drewN ?_ _ | refine blk_drew ?_ | refine blk_alloc ?_ _)); refine blk_put (cs := #[.int .i64 t273, .int .i64 t274, .int .i64 t275, .int .i64 t276, .int .i64 t277, .int .i64 t278, .int .i64 t279, .int .i64 t280, .int .i64 0]) ?_ 8 _ rfl; (with_reducible repeat (first | refine blk_drewN ?_ _ | refine blk_drew ?_ | refine blk_alloc ?_ _)); refine blk_put (cs := #[.int .i64 t273, .int .i64 t274, .int .i64 t275, .int .i64 t276, .int .i64 t277, .int .i64 t278, .int .i64 t279, .int .i64 0, .int .i64 0]) ?_ 7 _ rfl; (with_reducible repeat (first | refine blk_drewN ?_ _ | refine blk_drew ?_ | refine blk_alloc ?_ _)); refine blk_put (cs := #[.int .i64 t273, .int .i64 t274, .int .i64 t275, .int .i64 t276, .int .i64 t277, .int .i64 t278, .int .i64 0, .int .i64 0, .int .i64 0]) ?_ 6 _ rfl; (with_reducible repeat (first | refine blk_drewN ?_ _ | refine blk_drew ?_ | refine blk_alloc ?_ _)); refine blk_put (cs := #[.int .i64 t273, .int .i64 t274, .int .i64 t275, .int .i64 t276, .int .i64 t277, .int .i64 0, .int .i64 0, .int .i64 0, .int .i64 0]) ?_ 5 _ rfl; (with_reducible repeat (first | refine blk_drewN ?_ _ | refine blk_drew ?_ | refine blk_alloc ?_ _)); refine blk_put (cs := #[.int .i64 t273, .int .i64 t274, .int .i64 t275, .int .i64 t276, .int .i64 0, .int .i64 0, .int .i64 0, .int .i64 0, .int .i64 0]) ?_ 4 _ rfl; (with_reducible repeat (first | refine blk_drewN ?_ _ | refine blk_drew ?_ | refine blk_alloc ?_ _)); refine blk_put (cs := #[.int .i64 t273, .int .i64 t274, .int .i64 t275, .int .i64 0, .int .i64 0, .int .i64 0, .int .i64 0, .int .i64 0, .int .i64 0]) ?_ 3 _ rfl; (with_reducible repeat (first | refine blk_drewN ?_ _ | refine blk_drew ?_ | refine blk_alloc ?_ _)); refine blk_put (cs := #[.int .i64 t273, .int .i64 t274, .int .i64 0, .int .i64 0, .int .i64 0, .int .i64 0, .int .i64 0, .int .i64 0, .int .i64 0]) ?_ 2 _ rfl; (with_reducible repeat (first | refine blk_drewN ?_ _ | refine blk_drew ?_ | refine blk_alloc ?_ _)); refine blk_put (cs := #[.int .i64 t273, .int .i64 0, .int .i64 0, .int .i64 0, .int .i64 0, .int .i64 0, .int .i64 0, .int .i64 0, .int .i64 0]) ?_ 1 _ rfl; (with_reducible repeat (first | refine blk_drewN ?_ _ | refine blk_drew ?_ | refine blk_alloc ?_ _)); refine blk_put (cs := #[.int .i64 0, .int .i64 0, .int .i64 0, .int .i64 0, .int .i64 0, .int .i64 0, .int .i64 0, .int .i64 0, .int .i64 0]) ?_ 0 _ rfl; (with_reducible repeat (first | refine blk_drewN ?_ _ | refine blk_drew ?_ | refine blk_alloc ?_ _)); exact BK283.out) hb); have n1_ := Aside0.mk (below_step (by repeat (first | (with_reducible first | exact HB.out | apply below_alloc | apply pw_below_drewN | apply below_drew1 | refine below_set ?_ GE283.out) | exact HB.out)) hb); clear BK283; clear HB; have BK283 := n0_; have HB := n1_; clear n0_ n1_; (try clear hb); (try clear hb2); (try clear hk); (try clear hi)) | ((with_reducible refine gate_dst (N := 9) rfl ?_); refine box_event ?hg (N := 9) ?hd (cs := #[.int .i64 0, .int .i64 0, .int .i64 0, .int .i64 0, .int .i64 0, .int .i64 0, .int .i64 0, .int .i64 0, .int .i64 0]) (t := 27) ?hr ?_; (case hd => rfl); (case hg => rfl); (case hr => first | (go_simp; done) | (go_simp; rfl)); intro gb294 hg w16 hbox hb; have n0_ := Aside0.mk (blk_below (g := gb283) (o := .cells #[.int .i64 t273, .int .i64 t274, .int .i64 t275, .int .i64 t276, .int .i64 t277, .int .i64 t278, .int .i64 t279, .int .i64 t280, .int .i64 t281] 27 (0, 0)) (by (with_reducible repeat (first | refine blk_drewN ?_ _ | refine blk_drew ?_ | refine blk_alloc ?_ _)); exact BK283.out) hb); have n1_ := Aside0.mk (below_step (by repeat (first | (with_reducible first | exact HB.out | apply below_alloc | apply pw_below_drewN | apply below_drew1 | refine below_set ?_ GE283.out) | exact HB.out)) hb); have n2_ := Aside0.mk (hbox); have n3_ := Aside0.mk ((by rw [hg]; exact (below_size (by repeat (first | (with_reducible first | exact HB.out | apply below_alloc | apply pw_below_drewN | apply below_drew1 | refine below_set ?_ GE283.out) | exact HB.out))) : w.heap.size ≤ gb294)); have n4_ := Aside0.mk ((by rw [hg]; exact (below_size (by repeat (first | (with_reducible first | exact HB.out | apply below_alloc | apply pw_below_drewN | apply below_drew1 | refine below_set ?_ GE283.out) | exact HB.out))) : w.heap.size ≤ gb294)); have n5_ := Aside0.mk ((by rw [hg]; exact Nat.ne_of_lt (blk_lt (g := gb283) (o := .cells #[.int .i64 t273, .int .i64 t274, .int .i64 t275, .int .i64 t276, .int .i64 t277, .int .i64 t278, .int .i64 t279, .int .i64 t280, .int .i64 t281] 27 (0, 0)) (by (with_reducible repeat (first | refine blk_drewN ?_ _ | refine blk_drew ?_ | refine blk_alloc ?_ _)); exact BK283.out)) : gb283 ≠ gb294)); have n6_ := Aside0.mk ((by rw [hg]; exact Nat.ne_of_gt (blk_lt (g := gb283) (o := .cells #[.int .i64 t273, .int .i64 t274, .int .i64 t275, .int .i64 t276, .int .i64 t277, .int .i64 t278, .int .i64 t279, .int .i64 t280, .int .i64 t281] 27 (0, 0)) (by (with_reducible repeat (first | refine blk_drewN ?_ _ | refine blk_drew ?_ | refine blk_alloc ?_ _)); exact BK283.out)) : gb294 ≠ gb283)); clear BK283; clear HB; have BK283 := n0_; have HB := n1_; have BK294 := n2_; have GW294 := n3_; have GE294 := n4_; have NB283_294 := n5_; have NB294_283 := n6_; clear n0_ n1_ n2_ n3_ n4_ n5_ n6_; clear hb hbox hg; have hnb17 := NB294_283.out; have hnc17 := NB283_294.out; have hcz18_0 : w16.cell? ⟨gb294, 0, none⟩ = some (.int .i64 0) := (blk_cell BK294.out 0).trans rfl; have hcz18_1 : w16.cell? ⟨gb294, 1, none⟩ = some (.int .i64 0) := (blk_cell BK294.out 1).trans rfl; have hcz18_2 : w16.cell? ⟨gb294, 2, none⟩ = some (.int .i64 0) := (blk_cell BK294.out 2).trans rfl; have hcz18_3 : w16.cell? ⟨gb294, 3, none⟩ = some (.int .i64 0) := (blk_cell BK294.out 3).trans rfl; have hcz18_4 : w16.cell? ⟨gb294, 4, none⟩ = some (.int .i64 0) := (blk_cell BK294.out 4).trans rfl; have hcz18_5 : w16.cell? ⟨gb294, 5, none⟩ = some (.int .i64 0) := (blk_cell BK294.out 5).trans rfl; have hcz18_6 : w16.cell? ⟨gb294, 6, none⟩ = some (.int .i64 0) := (blk_cell BK294.out 6).trans rfl; have hcz18_7 : w16.cell? ⟨gb294, 7, none⟩ = some (.int .i64 0) := (blk_cell BK294.out 7).trans rfl; have hcz18_8 : w16.cell? ⟨gb294, 8, none⟩ = some (.int .i64 0) := (blk_cell BK294.out 8).trans rfl; have hfz18_0 := blk_frozen BK294.out 0; have hfz18_1 := blk_frozen BK294.out 1; have hfz18_2 := blk_frozen BK294.out 2; have hfz18_3 := blk_frozen BK294.out 3; have hfz18_4 := blk_frozen BK294.out 4; have hfz18_5 := blk_frozen BK294.out 5; have hfz18_6 := blk_frozen BK294.out 6; have hfz18_7 := blk_frozen BK294.out 7; have hfz18_8 := blk_frozen BK294.out 8))
     (try simp only [Act.put, List.setIfInBounds_toArray, List.set_cons_zero, List.set_cons_succ])
     go_cut [42] (fun v42 wc => ∃ (kq : Nat) (x42_9 : Bool), v42 = .bool x42_9 ∧ Aside0 (masterdisclaw10_SubchannelCounts.j0 kq a2 t282 t293 x42_9 t273 t274 t275 t276 t277 t278 t279 t280 t281 t284 t285 t286 t287 t288 t289 t290 t291 t292 = some r) ∧ Aside0 (kq ≤ k) ∧ Aside0 (wc.heap[gb283]? = some (.cells #[.int .i64 t273, .int .i64 t274, .int .i64 t275, .int .i64 t276, .int .i64 t277, .int .i64 t278, .int .i64 t279, .int .i64 t280, .int .i64 t281] 27 (0, 0))) ∧ Aside0 (wc.heap[gb294]? = some (.cells #[.int .i64 t284, .int .i64 t285, .int .i64 t286, .int .i64 t287, .int .i64 t288, .int .i64 t289, .int .i64 t290, .int .i64 t291, .int .i64 t292] 27 (0, 0))) ∧ Aside0 (Below w.heap.size w wc))
     case first =>
      have H := HC10.out
      clear HC10
      by_cases c19 : t282 = 0
      · rw [if_pos c19] at H
        have c19b0 : (t282 == 0) = true := beq_iff_eq.mpr c19
        have c19b1 : (t282 != 0) = false := bne_eq_false_iff_eq.mpr c19
        clear c19
        (first | rw [c19b0] | (simp only [i64_w, i32_w]; rw [c19b0]) | skip)
        have H' := Aside0.mk H
        clear H
        go_wp2
        go_meet
        case rel => exact ⟨_, ((t293 != 0)), (by first | rfl | (simp; done) | (simp [*]; done)), H', ⟨by first | omega | exact Nat.le_refl _⟩, ⟨by (with_reducible repeat (first | refine blk_drewN ?_ _ | refine blk_drew ?_ | refine blk_alloc ?_ _)); refine blk_far ?_ NB283_294.out _; (with_reducible repeat (first | refine blk_drewN ?_ _ | refine blk_drew ?_ | refine blk_alloc ?_ _)); refine blk_far ?_ NB283_294.out _; (with_reducible repeat (first | refine blk_drewN ?_ _ | refine blk_drew ?_ | refine blk_alloc ?_ _)); refine blk_far ?_ NB283_294.out _; (with_reducible repeat (first | refine blk_drewN ?_ _ | refine blk_drew ?_ | refine blk_alloc ?_ _)); refine blk_far ?_ NB283_294.out _; (with_reducible repeat (first | refine blk_drewN ?_ _ | refine blk_drew ?_ | refine blk_alloc ?_ _)); refine blk_far ?_ NB283_294.out _; (with_reducible repeat (first | refine blk_drewN ?_ _ | refine blk_drew ?_ | refine blk_alloc ?_ _)); refine blk_far ?_ NB283_294.out _; (with_reducible repeat (first | refine blk_drewN ?_ _ | refine blk_drew ?_ | refine blk_alloc ?_ _)); refine blk_far ?_ NB283_294.out _; (with_reducible repeat (first | refine blk_drewN ?_ _ | refine blk_drew ?_ | refine blk_alloc ?_ _)); refine blk_far ?_ NB283_294.out _; (with_reducible repeat (first | refine blk_drewN ?_ _ | refine blk_drew ?_ | refine blk_alloc ?_ _)); refine blk_far ?_ NB283_294.out _; (with_reducible repeat (first | refine blk_drewN ?_ _ | refine blk_drew ?_ | refine blk_alloc ?_ _)); exact BK283.out⟩, ⟨by (with_reducible repeat (first | refine blk_drewN ?_ _ | refine blk_drew ?_ | refine blk_alloc ?_ _)); refine blk_put (cs := #[.int .i64 t284, .int .i64 t285, .int .i64 t286, .int .i64 t287, .int .i64 t288, .int .i64 t289, .int .i64 t290, .int .i64 t291, .int .i64 0]) ?_ 8 _ rfl; (with_reducible repeat (first | refine blk_drewN ?_ _ | refine blk_drew ?_ | refine blk_alloc ?_ _)); refine blk_put (cs := #[.int .i64 t284, .int .i64 t285, .int .i64 t286, .int .i64 t287, .int .i64 t288, .int .i64 t289, .int .i64 t290, .int .i64 0, .int .i64 0]) ?_ 7 _ rfl; (with_reducible repeat (first | refine blk_drewN ?_ _ | refine blk_drew ?_ | refine blk_alloc ?_ _)); refine blk_put (cs := #[.int .i64 t284, .int .i64 t285, .int .i64 t286, .int .i64 t287, .int .i64 t288, .int .i64 t289, .int .i64 0, .int .i64 0, .int .i64 0]) ?_ 6 _ rfl; (with_reducible repeat (first | refine blk_drewN ?_ _ | refine blk_drew ?_ | refine blk_alloc ?_ _)); refine blk_put (cs := #[.int .i64 t284, .int .i64 t285, .int .i64 t286, .int .i64 t287, .int .i64 t288, .int .i64 0, .int .i64 0, .int .i64 0, .int .i64 0]) ?_ 5 _ rfl; (with_reducible repeat (first | refine blk_drewN ?_ _ | refine blk_drew ?_ | refine blk_alloc ?_ _)); refine blk_put (cs := #[.int .i64 t284, .int .i64 t285, .int .i64 t286, .int .i64 t287, .int .i64 0, .int .i64 0, .int .i64 0, .int .i64 0, .int .i64 0]) ?_ 4 _ rfl; (with_reducible repeat (first | refine blk_drewN ?_ _ | refine blk_drew ?_ | refine blk_alloc ?_ _)); refine blk_put (cs := #[.int .i64 t284, .int .i64 t285, .int .i64 t286, .int .i64 0, .int .i64 0, .int .i64 0, .int .i64 0, .int .i64 0, .int .i64 0]) ?_ 3 _ rfl; (with_reducible repeat (first | refine blk_drewN ?_ _ | refine blk_drew ?_ | refine blk_alloc ?_ _)); refine blk_put (cs := #[.int .i64 t284, .int .i64 t285, .int .i64 0, .int .i64 0, .int .i64 0, .int .i64 0, .int .i64 0, .int .i64 0, .int .i64 0]) ?_ 2 _ rfl; (with_reducible repeat (first | refine blk_drewN ?_ _ | refine blk_drew ?_ | refine blk_alloc ?_ _)); refine blk_put (cs := #[.int .i64 t284, .int .i64 0, .int .i64 0, .int .i64 0, .int .i64 0, .int .i64 0, .int .i64 0, .int .i64 0, .int .i64 0]) ?_ 1 _ rfl; (with_reducible repeat (first | refine blk_drewN ?_ _ | refine blk_drew ?_ | refine blk_alloc ?_ _)); refine blk_put (cs := #[.int .i64 0, .int .i64 0, .int .i64 0, .int .i64 0, .int .i64 0, .int .i64 0, .int .i64 0, .int .i64 0, .int .i64 0]) ?_ 0 _ rfl; (with_reducible repeat (first | refine blk_drewN ?_ _ | refine blk_drew ?_ | refine blk_alloc ?_ _)); exact BK294.out⟩, ⟨by repeat (first | (with_reducible first | exact HB.out | apply below_alloc | apply pw_below_drewN | apply below_drew1 | refine below_set ?_ GE283.out | refine below_set ?_ GE294.out) | exact HB.out)⟩⟩
      · rw [if_neg c19] at H
        have c19b0 : (t282 == 0) = false := beq_eq_false_iff_ne.mpr c19
        have c19b1 : (t282 != 0) = true := bne_iff_ne.mpr c19
        (first | rw [c19b0] | (simp only [i64_w, i32_w]; rw [c19b0]) | skip)
        have H' := Aside0.mk H
        clear H
        go_wp2
        go_meet
        case rel => exact ⟨_, (true), (by first | rfl | (simp; done) | (simp [*]; done)), H', ⟨by first | omega | exact Nat.le_refl _⟩, ⟨by (with_reducible repeat (first | refine blk_drewN ?_ _ | refine blk_drew ?_ | refine blk_alloc ?_ _)); refine blk_far ?_ NB283_294.out _; (with_reducible repeat (first | refine blk_drewN ?_ _ | refine blk_drew ?_ | refine blk_alloc ?_ _)); refine blk_far ?_ NB283_294.out _; (with_reducible repeat (first | refine blk_drewN ?_ _ | refine blk_drew ?_ | refine blk_alloc ?_ _)); refine blk_far ?_ NB283_294.out _; (with_reducible repeat (first | refine blk_drewN ?_ _ | refine blk_drew ?_ | refine blk_alloc ?_ _)); refine blk_far ?_ NB283_294.out _; (with_reducible repeat (first | refine blk_drewN ?_ _ | refine blk_drew ?_ | refine blk_alloc ?_ _)); refine blk_far ?_ NB283_294.out _; (with_reducible repeat (first | refine blk_drewN ?_ _ | refine blk_drew ?_ | refine blk_alloc ?_ _)); refine blk_far ?_ NB283_294.out _; (with_reducible repeat (first | refine blk_drewN ?_ _ | refine blk_drew ?_ | refine blk_alloc ?_ _)); refine blk_far ?_ NB283_294.out _; (with_reducible repeat (first | refine blk_drewN ?_ _ | refine blk_drew ?_ | refine blk_alloc ?_ _)); refine blk_far ?_ NB283_294.out _; (with_reducible repeat (first | refine blk_drewN ?_ _ | refine blk_drew ?_ | refine blk_alloc ?_ _)); refine blk_far ?_ NB283_294.out _; (with_reducible repeat (first | refine blk_drewN ?_ _ | refine blk_drew ?_ | refine blk_alloc ?_ _)); exact BK283.out⟩, ⟨by (with_reducible repeat (first | refine blk_drewN ?_ _ | refine blk_drew ?_ | refine blk_alloc ?_ _)); refine blk_put (cs := #[.int .i64 t284, .int .i64 t285, .int .i64 t286, .int .i64 t287, .int .i64 t288, .int .i64 t289, .int .i64 t290, .int .i64 t291, .int .i64 0]) ?_ 8 _ rfl; (with_reducible repeat (first | refine blk_drewN ?_ _ | refine blk_drew ?_ | refine blk_alloc ?_ _)); refine blk_put (cs := #[.int .i64 t284, .int .i64 t285, .int .i64 t286, .int .i64 t287, .int .i64 t288, .int .i64 t289, .int .i64 t290, .int .i64 0, .int .i64 0]) ?_ 7 _ rfl; (with_reducible repeat (first | refine blk_drewN ?_ _ | refine blk_drew ?_ | refine blk_alloc ?_ _)); refine blk_put (cs := #[.int .i64 t284, .int .i64 t285, .int .i64 t286, .int .i64 t287, .int .i64 t288, .int .i64 t289, .int .i64 0, .int .i64 0, .int .i64 0]) ?_ 6 _ rfl; (with_reducible repeat (first | refine blk_drewN ?_ _ | refine blk_drew ?_ | refine blk_alloc ?_ _)); refine blk_put (cs := #[.int .i64 t284, .int .i64 t285, .int .i64 t286, .int .i64 t287, .int .i64 t288, .int .i64 0, .int .i64 0, .int .i64 0, .int .i64 0]) ?_ 5 _ rfl; (with_reducible repeat (first | refine blk_drewN ?_ _ | refine blk_drew ?_ | refine blk_alloc ?_ _)); refine blk_put (cs := #[.int .i64 t284, .int .i64 t285, .int .i64 t286, .int .i64 t287, .int .i64 0, .int .i64 0, .int .i64 0, .int .i64 0, .int .i64 0]) ?_ 4 _ rfl; (with_reducible repeat (first | refine blk_drewN ?_ _ | refine blk_drew ?_ | refine blk_alloc ?_ _)); refine blk_put (cs := #[.int .i64 t284, .int .i64 t285, .int .i64 t286, .int .i64 0, .int .i64 0, .int .i64 0, .int .i64 0, .int .i64 0, .int .i64 0]) ?_ 3 _ rfl; (with_reducible repeat (first | refine blk_drewN ?_ _ | refine blk_drew ?_ | refine blk_alloc ?_ _)); refine blk_put (cs := #[.int .i64 t284, .int .i64 t285, .int .i64 0, .int .i64 0, .int .i64 0, .int .i64 0, .int .i64 0, .int .i64 0, .int .i64 0]) ?_ 2 _ rfl; (with_reducible repeat (first | refine blk_drewN ?_ _ | refine blk_drew ?_ | refine blk_alloc ?_ _)); refine blk_put (cs := #[.int .i64 t284, .int .i64 0, .int .i64 0, .int .i64 0, .int .i64 0, .int .i64 0, .int .i64 0, .int .i64 0, .int .i64 0]) ?_ 1 _ rfl; (with_reducible repeat (first | refine blk_drewN ?_ _ | refine blk_drew ?_ | refine blk_alloc ?_ _)); refine blk_put (cs := #[.int .i64 0, .int .i64 0, .int .i64 0, .int .i64 0, .int .i64 0, .int .i64 0, .int .i64 0, .int .i64 0, .int .i64 0]) ?_ 0 _ rfl; (with_reducible repeat (first | refine blk_drewN ?_ _ | refine blk_drew ?_ | refine blk_alloc ?_ _)); exact BK294.out⟩, ⟨by repeat (first | (with_reducible first | exact HB.out | apply below_alloc | apply pw_below_drewN | apply below_drew1 | refine below_set ?_ GE283.out | refine below_set ?_ GE294.out) | exact HB.out)⟩⟩
     case rest =>
      clear HC10
      try clear c1
      try clear p2
      try clear c4
      try clear c5
      try clear c6
      try clear c6b0
      try clear c6b1
      try clear p6
      try clear c10
      try clear c11
      try clear c17
      try clear c19
      try clear c19b0
      try clear c19b1
      try clear hcz14_0
      try clear hcz14_1
      try clear hcz14_2
      try clear hcz14_3
      try clear hcz14_4
      try clear hcz14_5
      try clear hcz14_6
      try clear hcz14_7
      try clear hcz14_8
      try clear hcz18_0
      try clear hcz18_1
      try clear hcz18_2
      try clear hcz18_3
      try clear hcz18_4
      try clear hcz18_5
      try clear hcz18_6
      try clear hcz18_7
      try clear hcz18_8
      try clear hfz14_0
      try clear hfz14_1
      try clear hfz14_2
      try clear hfz14_3
      try clear hfz14_4
      try clear hfz14_5
      try clear hfz14_6
      try clear hfz14_7
      try clear hfz14_8
      try clear hfz18_0
      try clear hfz18_1
      try clear hfz18_2
      try clear hfz18_3
      try clear hfz18_4
      try clear hfz18_5
      try clear hfz18_6
      try clear hfz18_7
      try clear hfz18_8
      obtain ⟨kq, x42_9, rfl, HA, HJ9, BK283, BK294, HB⟩ := hcut
      cases kq with
      | zero => exact absurd HA.out (by simp [masterdisclaw10_SubchannelCounts.j0])
      | succ kj9 =>
       have H := HA.out
       clear HA
       simp only [masterdisclaw10_SubchannelCounts.j0] at H
       by_cases c20 : x42_9 = true
       · subst c20
         have H1 : (if t282 = 0 then (if t293 = 0 then (some true) else (some (t284 == 0 && (t285 == 0 && (t286 == 0 && ((t287 == 0 && (t288 == 0 && (t289 == 0))) && ((t290 == 0 && (t291 == 0 && (t292 == 0)))))))))) else (if (t273 == 0 && (t274 == 0 && (t275 == 0 && ((t276 == 0 && (t277 == 0 && (t278 == 0))) && ((t279 == 0 && (t280 == 0 && (t281 == 0)))))))) = true then (if t293 = 0 then (some true) else (some (t284 == 0 && (t285 == 0 && (t286 == 0 && ((t287 == 0 && (t288 == 0 && (t289 == 0))) && ((t290 == 0 && (t291 == 0 && (t292 == 0)))))))))) else (none))) = some r := by rw [if_pos rfl] at H; exact H
         clear H
         have H := H1
         clear H1
         by_cases c21 : t282 = 0
         · rw [if_pos c21] at H
           have c21b0 : (t282 == 0) = true := beq_iff_eq.mpr c21
           have c21b1 : (t282 != 0) = false := bne_eq_false_iff_eq.mpr c21
           clear c21
           by_cases c22 : t293 = 0
           · rw [if_pos c22] at H
             have c22b0 : (t293 == 0) = true := beq_iff_eq.mpr c22
             have c22b1 : (t293 != 0) = false := bne_eq_false_iff_eq.mpr c22
             clear c22
             obtain rfl := Option.some.inj H
             go_wp2
             go_ret
             exact ⟨by first | rfl | (simp [errW_none, errW_some] <;> rfl) | (simp [*, errW_none, errW_some] <;> rfl), by repeat (first | (with_reducible first | exact HB.out | apply below_alloc | apply pw_below_drewN | apply below_drew1 | refine below_set ?_ GE283.out | refine below_set ?_ GE294.out) | exact HB.out)⟩
           · rw [if_neg c22] at H
             have c22b0 : (t293 == 0) = false := beq_eq_false_iff_ne.mpr c22
             have c22b1 : (t293 != 0) = true := bne_iff_ne.mpr c22
             obtain rfl := Option.some.inj H
             have hnb23 := NB294_283.out
             have hnc23 := NB283_294.out
             have hcz24_0 : wc.cell? ⟨gb294, 0, none⟩ = some (.int .i64 t284) := (blk_cell BK294.out 0).trans rfl
             have hcz24_1 : wc.cell? ⟨gb294, 1, none⟩ = some (.int .i64 t285) := (blk_cell BK294.out 1).trans rfl
             have hcz24_2 : wc.cell? ⟨gb294, 2, none⟩ = some (.int .i64 t286) := (blk_cell BK294.out 2).trans rfl
             have hcz24_3 : wc.cell? ⟨gb294, 3, none⟩ = some (.int .i64 t287) := (blk_cell BK294.out 3).trans rfl
             have hcz24_4 : wc.cell? ⟨gb294, 4, none⟩ = some (.int .i64 t288) := (blk_cell BK294.out 4).trans rfl
             have hcz24_5 : wc.cell? ⟨gb294, 5, none⟩ = some (.int .i64 t289) := (blk_cell BK294.out 5).trans rfl
             have hcz24_6 : wc.cell? ⟨gb294, 6, none⟩ = some (.int .i64 t290) := (blk_cell BK294.out 6).trans rfl
             have hcz24_7 : wc.cell? ⟨gb294, 7, none⟩ = some (.int .i64 t291) := (blk_cell BK294.out 7).trans rfl
             have hcz24_8 : wc.cell? ⟨gb294, 8, none⟩ = some (.int .i64 t292) := (blk_cell BK294.out 8).trans rfl
             have hfz24_0 := blk_frozen BK294.out 0
             have hfz24_1 := blk_frozen BK294.out 1
             have hfz24_2 := blk_frozen BK294.out 2
             have hfz24_3 := blk_frozen BK294.out 3
             have hfz24_4 := blk_frozen BK294.out 4
             have hfz24_5 := blk_frozen BK294.out 5
             have hfz24_6 := blk_frozen BK294.out 6
             have hfz24_7 := blk_frozen BK294.out 7
             have hfz24_8 := blk_frozen BK294.out 8
             go_wp2
             go_ret
             exact ⟨by first | rfl | (simp [errW_none, errW_some] <;> rfl) | (simp [*, errW_none, errW_some] <;> rfl), by repeat (first | (with_reducible first | exact HB.out | apply below_alloc | apply pw_below_drewN | apply below_drew1 | refine below_set ?_ GE283.out | refine below_set ?_ GE294.out) | exact HB.out)⟩
         · rw [if_neg c21] at H
           have c21b0 : (t282 == 0) = false := beq_eq_false_iff_ne.mpr c21
           have c21b1 : (t282 != 0) = true := bne_iff_ne.mpr c21
           by_cases c25 : (t273 == 0 && (t274 == 0 && (t275 == 0 && ((t276 == 0 && (t277 == 0 && (t278 == 0))) && ((t279 == 0 && (t280 == 0 && (t281 == 0)))))))) = true
           · rw [if_pos c25] at H
             have c25b0 : (t273 == 0 && (t274 == 0 && (t275 == 0 && ((t276 == 0 && (t277 == 0 && (t278 == 0))) && ((t279 == 0 && (t280 == 0 && (t281 == 0)))))))) = true := c25
             (try (have c25b1 : decide (t273 = 0 && (t274 == 0 && (t275 == 0 && ((t276 == 0 && (t277 == 0 && (t278 == 0))) && ((t279 == 0 && (t280 == 0 && (t281 == 0)))))))) = true := by simpa using c25))
             (try (have c25b2 : (t273 == 0 && (t274 == 0 && (t275 == 0 && ((t276 == 0 && (t277 == 0 && (t278 == 0))) && ((t279 == 0 && (t280 == 0 && (t281 == 0)))))))) = true := by simpa using c25))
             clear c25
             by_cases c26 : t293 = 0
             · rw [if_pos c26] at H
               have c26b0 : (t293 == 0) = true := beq_iff_eq.mpr c26
               have c26b1 : (t293 != 0) = false := bne_eq_false_iff_eq.mpr c26
               clear c26
               obtain rfl := Option.some.inj H
               have hnb27 := NB283_294.out
               have hnc27 := NB294_283.out
               have hcz28_0 : wc.cell? ⟨gb283, 0, none⟩ = some (.int .i64 t273) := (blk_cell BK283.out 0).trans rfl
               have hcz28_1 : wc.cell? ⟨gb283, 1, none⟩ = some (.int .i64 t274) := (blk_cell BK283.out 1).trans rfl
               have hcz28_2 : wc.cell? ⟨gb283, 2, none⟩ = some (.int .i64 t275) := (blk_cell BK283.out 2).trans rfl
               have hcz28_3 : wc.cell? ⟨gb283, 3, none⟩ = some (.int .i64 t276) := (blk_cell BK283.out 3).trans rfl
               have hcz28_4 : wc.cell? ⟨gb283, 4, none⟩ = some (.int .i64 t277) := (blk_cell BK283.out 4).trans rfl
               have hcz28_5 : wc.cell? ⟨gb283, 5, none⟩ = some (.int .i64 t278) := (blk_cell BK283.out 5).trans rfl
               have hcz28_6 : wc.cell? ⟨gb283, 6, none⟩ = some (.int .i64 t279) := (blk_cell BK283.out 6).trans rfl
               have hcz28_7 : wc.cell? ⟨gb283, 7, none⟩ = some (.int .i64 t280) := (blk_cell BK283.out 7).trans rfl
               have hcz28_8 : wc.cell? ⟨gb283, 8, none⟩ = some (.int .i64 t281) := (blk_cell BK283.out 8).trans rfl
               have hfz28_0 := blk_frozen BK283.out 0
               have hfz28_1 := blk_frozen BK283.out 1
               have hfz28_2 := blk_frozen BK283.out 2
               have hfz28_3 := blk_frozen BK283.out 3
               have hfz28_4 := blk_frozen BK283.out 4
               have hfz28_5 := blk_frozen BK283.out 5
               have hfz28_6 := blk_frozen BK283.out 6
               have hfz28_7 := blk_frozen BK283.out 7
               have hfz28_8 := blk_frozen BK283.out 8
               go_wp2
               go_ret
               exact ⟨by first | rfl | (simp [errW_none, errW_some] <;> rfl) | (simp [*, errW_none, errW_some] <;> rfl), by repeat (first | (with_reducible first | exact HB.out | apply below_alloc | apply pw_below_drewN | apply below_drew1 | refine below_set ?_ GE283.out | refine below_set ?_ GE294.out) | exact HB.out)⟩
             · rw [if_neg c26] at H
               have c26b0 : (t293 == 0) = false := beq_eq_false_iff_ne.mpr c26
               have c26b1 : (t293 != 0) = true := bne_iff_ne.mpr c26
               obtain rfl := Option.some.inj H
               have hnb29 := NB283_294.out
               have hnc29 := NB294_283.out
               have hcz30_0 : wc.cell? ⟨gb283, 0, none⟩ = some (.int .i64 t273) := (blk_cell BK283.out 0).trans rfl
               have hcz30_1 : wc.cell? ⟨gb283, 1, none⟩ = some (.int .i64 t274) := (blk_cell BK283.out 1).trans rfl
               have hcz30_2 : wc.cell? ⟨gb283, 2, none⟩ = some (.int .i64 t275) := (blk_cell BK283.out 2).trans rfl
               have hcz30_3 : wc.cell? ⟨gb283, 3, none⟩ = some (.int .i64 t276) := (blk_cell BK283.out 3).trans rfl
               have hcz30_4 : wc.cell? ⟨gb283, 4, none⟩ = some (.int .i64 t277) := (blk_cell BK283.out 4).trans rfl
               have hcz30_5 : wc.cell? ⟨gb283, 5, none⟩ = some (.int .i64 t278) := (blk_cell BK283.out 5).trans rfl
               have hcz30_6 : wc.cell? ⟨gb283, 6, none⟩ = some (.int .i64 t279) := (blk_cell BK283.out 6).trans rfl
               have hcz30_7 : wc.cell? ⟨gb283, 7, none⟩ = some (.int .i64 t280) := (blk_cell BK283.out 7).trans rfl
               have hcz30_8 : wc.cell? ⟨gb283, 8, none⟩ = some (.int .i64 t281) := (blk_cell BK283.out 8).trans rfl
               have hfz30_0 := blk_frozen BK283.out 0
               have hfz30_1 := blk_frozen BK283.out 1
               have hfz30_2 := blk_frozen BK283.out 2
               have hfz30_3 := blk_frozen BK283.out 3
               have hfz30_4 := blk_frozen BK283.out 4
               have hfz30_5 := blk_frozen BK283.out 5
               have hfz30_6 := blk_frozen BK283.out 6
               have hfz30_7 := blk_frozen BK283.out 7
               have hfz30_8 := blk_frozen BK283.out 8
               have hcz31_0 : wc.cell? ⟨gb294, 0, none⟩ = some (.int .i64 t284) := (blk_cell BK294.out 0).trans rfl
               have hcz31_1 : wc.cell? ⟨gb294, 1, none⟩ = some (.int .i64 t285) := (blk_cell BK294.out 1).trans rfl
               have hcz31_2 : wc.cell? ⟨gb294, 2, none⟩ = some (.int .i64 t286) := (blk_cell BK294.out 2).trans rfl
               have hcz31_3 : wc.cell? ⟨gb294, 3, none⟩ = some (.int .i64 t287) := (blk_cell BK294.out 3).trans rfl
               have hcz31_4 : wc.cell? ⟨gb294, 4, none⟩ = some (.int .i64 t288) := (blk_cell BK294.out 4).trans rfl
               have hcz31_5 : wc.cell? ⟨gb294, 5, none⟩ = some (.int .i64 t289) := (blk_cell BK294.out 5).trans rfl
               have hcz31_6 : wc.cell? ⟨gb294, 6, none⟩ = some (.int .i64 t290) := (blk_cell BK294.out 6).trans rfl
               have hcz31_7 : wc.cell? ⟨gb294, 7, none⟩ = some (.int .i64 t291) := (blk_cell BK294.out 7).trans rfl
               have hcz31_8 : wc.cell? ⟨gb294, 8, none⟩ = some (.int .i64 t292) := (blk_cell BK294.out 8).trans rfl
               have hfz31_0 := blk_frozen BK294.out 0
               have hfz31_1 := blk_frozen BK294.out 1
               have hfz31_2 := blk_frozen BK294.out 2
               have hfz31_3 := blk_frozen BK294.out 3
               have hfz31_4 := blk_frozen BK294.out 4
               have hfz31_5 := blk_frozen BK294.out 5
               have hfz31_6 := blk_frozen BK294.out 6
               have hfz31_7 := blk_frozen BK294.out 7
               have hfz31_8 := blk_frozen BK294.out 8
               go_wp2
               go_ret
               exact ⟨by first | rfl | (simp [errW_none, errW_some] <;> rfl) | (simp [*, errW_none, errW_some] <;> rfl), by repeat (first | (with_reducible first | exact HB.out | apply below_alloc | apply pw_below_drewN | apply below_drew1 | refine below_set ?_ GE283.out | refine below_set ?_ GE294.out) | exact HB.out)⟩
           · rw [if_neg c25] at H
             exact absurd H (by simp)
       · replace c20 := Bool.eq_false_iff.mpr c20
         subst c20
         have H1 : ((address_ToLBA.f t279 t280 t281).bind fun bt295 => ((address_Distance.f kj9 t279 t280 t281 t290 t291 t292).bind fun bt297 => ((address_Distance.f kj9 t276 t277 t278 t287 t288 t289).bind fun bt299 => ((subchannel_Encode.f t273 t274 t275 t276 t277 t278 t279 t280 t281).bind fun bt301 => (if bt301.2 = 0 then (if bt295.1 = a2 then (if bt295.2 = 0 then (if bt297.1 = 1 then (if bt297.2 = 0 then (masterdisclaw10_SubchannelCounts.j1 kj9 bt299.1 (bt299.2 != 0) t273 t274 t275 t276 t277 t278 t279 t280 t281 t284 t285 t286 t287 t288 t289 t290 t291 t292) else (masterdisclaw10_SubchannelCounts.j1 kj9 bt299.1 true t273 t274 t275 t276 t277 t278 t279 t280 t281 t284 t285 t286 t287 t288 t289 t290 t291 t292)) else (masterdisclaw10_SubchannelCounts.j1 kj9 bt299.1 true t273 t274 t275 t276 t277 t278 t279 t280 t281 t284 t285 t286 t287 t288 t289 t290 t291 t292)) else (masterdisclaw10_SubchannelCounts.j1 kj9 bt299.1 true t273 t274 t275 t276 t277 t278 t279 t280 t281 t284 t285 t286 t287 t288 t289 t290 t291 t292)) else (masterdisclaw10_SubchannelCounts.j1 kj9 bt299.1 true t273 t274 t275 t276 t277 t278 t279 t280 t281 t284 t285 t286 t287 t288 t289 t290 t291 t292)) else (masterdisclaw10_SubchannelCounts.j1 kj9 bt299.1 true t273 t274 t275 t276 t277 t278 t279 t280 t281 t284 t285 t286 t287 t288 t289 t290 t291 t292)))))) = some r := by rw [if_neg (show ¬ (false = true) by decide)] at H; exact H
         clear H
         have H := H1
         clear H1
         replace H := Option.bind_eq_some_iff.mp H
         obtain ⟨⟨t295, t296⟩, A320, H⟩ := H
         replace H : ((address_Distance.f kj9 t279 t280 t281 t290 t291 t292).bind fun bt297 => ((address_Distance.f kj9 t276 t277 t278 t287 t288 t289).bind fun bt299 => ((subchannel_Encode.f t273 t274 t275 t276 t277 t278 t279 t280 t281).bind fun bt301 => (if bt301.2 = 0 then (if t295 = a2 then (if t296 = 0 then (if bt297.1 = 1 then (if bt297.2 = 0 then (masterdisclaw10_SubchannelCounts.j1 kj9 bt299.1 (bt299.2 != 0) t273 t274 t275 t276 t277 t278 t279 t280 t281 t284 t285 t286 t287 t288 t289 t290 t291 t292) else (masterdisclaw10_SubchannelCounts.j1 kj9 bt299.1 true t273 t274 t275 t276 t277 t278 t279 t280 t281 t284 t285 t286 t287 t288 t289 t290 t291 t292)) else (masterdisclaw10_SubchannelCounts.j1 kj9 bt299.1 true t273 t274 t275 t276 t277 t278 t279 t280 t281 t284 t285 t286 t287 t288 t289 t290 t291 t292)) else (masterdisclaw10_SubchannelCounts.j1 kj9 bt299.1 true t273 t274 t275 t276 t277 t278 t279 t280 t281 t284 t285 t286 t287 t288 t289 t290 t291 t292)) else (masterdisclaw10_SubchannelCounts.j1 kj9 bt299.1 true t273 t274 t275 t276 t277 t278 t279 t280 t281 t284 t285 t286 t287 t288 t289 t290 t291 t292)) else (masterdisclaw10_SubchannelCounts.j1 kj9 bt299.1 true t273 t274 t275 t276 t277 t278 t279 t280 t281 t284 t285 t286 t287 t288 t289 t290 t291 t292))))) = some r := H
         have A32 := Aside0.mk A320
         clear A320
         replace H := Option.bind_eq_some_iff.mp H
         obtain ⟨⟨t297, t298⟩, A330, H⟩ := H
         replace H : ((address_Distance.f kj9 t276 t277 t278 t287 t288 t289).bind fun bt299 => ((subchannel_Encode.f t273 t274 t275 t276 t277 t278 t279 t280 t281).bind fun bt301 => (if bt301.2 = 0 then (if t295 = a2 then (if t296 = 0 then (if t297 = 1 then (if t298 = 0 then (masterdisclaw10_SubchannelCounts.j1 kj9 bt299.1 (bt299.2 != 0) t273 t274 t275 t276 t277 t278 t279 t280 t281 t284 t285 t286 t287 t288 t289 t290 t291 t292) else (masterdisclaw10_SubchannelCounts.j1 kj9 bt299.1 true t273 t274 t275 t276 t277 t278 t279 t280 t281 t284 t285 t286 t287 t288 t289 t290 t291 t292)) else (masterdisclaw10_SubchannelCounts.j1 kj9 bt299.1 true t273 t274 t275 t276 t277 t278 t279 t280 t281 t284 t285 t286 t287 t288 t289 t290 t291 t292)) else (masterdisclaw10_SubchannelCounts.j1 kj9 bt299.1 true t273 t274 t275 t276 t277 t278 t279 t280 t281 t284 t285 t286 t287 t288 t289 t290 t291 t292)) else (masterdisclaw10_SubchannelCounts.j1 kj9 bt299.1 true t273 t274 t275 t276 t277 t278 t279 t280 t281 t284 t285 t286 t287 t288 t289 t290 t291 t292)) else (masterdisclaw10_SubchannelCounts.j1 kj9 bt299.1 true t273 t274 t275 t276 t277 t278 t279 t280 t281 t284 t285 t286 t287 t288 t289 t290 t291 t292)))) = some r := H
         have A33 := Aside0.mk A330
         clear A330
         replace H := Option.bind_eq_some_iff.mp H
         obtain ⟨⟨t299, t300⟩, A340, H⟩ := H
         replace H : ((subchannel_Encode.f t273 t274 t275 t276 t277 t278 t279 t280 t281).bind fun bt301 => (if bt301.2 = 0 then (if t295 = a2 then (if t296 = 0 then (if t297 = 1 then (if t298 = 0 then (masterdisclaw10_SubchannelCounts.j1 kj9 t299 (t300 != 0) t273 t274 t275 t276 t277 t278 t279 t280 t281 t284 t285 t286 t287 t288 t289 t290 t291 t292) else (masterdisclaw10_SubchannelCounts.j1 kj9 t299 true t273 t274 t275 t276 t277 t278 t279 t280 t281 t284 t285 t286 t287 t288 t289 t290 t291 t292)) else (masterdisclaw10_SubchannelCounts.j1 kj9 t299 true t273 t274 t275 t276 t277 t278 t279 t280 t281 t284 t285 t286 t287 t288 t289 t290 t291 t292)) else (masterdisclaw10_SubchannelCounts.j1 kj9 t299 true t273 t274 t275 t276 t277 t278 t279 t280 t281 t284 t285 t286 t287 t288 t289 t290 t291 t292)) else (masterdisclaw10_SubchannelCounts.j1 kj9 t299 true t273 t274 t275 t276 t277 t278 t279 t280 t281 t284 t285 t286 t287 t288 t289 t290 t291 t292)) else (masterdisclaw10_SubchannelCounts.j1 kj9 t299 true t273 t274 t275 t276 t277 t278 t279 t280 t281 t284 t285 t286 t287 t288 t289 t290 t291 t292))) = some r := H
         have A34 := Aside0.mk A340
         clear A340
         replace H := Option.bind_eq_some_iff.mp H
         obtain ⟨⟨t301, t302⟩, A350, H⟩ := H
         replace H : (if t302 = 0 then (if t295 = a2 then (if t296 = 0 then (if t297 = 1 then (if t298 = 0 then (masterdisclaw10_SubchannelCounts.j1 kj9 t299 (t300 != 0) t273 t274 t275 t276 t277 t278 t279 t280 t281 t284 t285 t286 t287 t288 t289 t290 t291 t292) else (masterdisclaw10_SubchannelCounts.j1 kj9 t299 true t273 t274 t275 t276 t277 t278 t279 t280 t281 t284 t285 t286 t287 t288 t289 t290 t291 t292)) else (masterdisclaw10_SubchannelCounts.j1 kj9 t299 true t273 t274 t275 t276 t277 t278 t279 t280 t281 t284 t285 t286 t287 t288 t289 t290 t291 t292)) else (masterdisclaw10_SubchannelCounts.j1 kj9 t299 true t273 t274 t275 t276 t277 t278 t279 t280 t281 t284 t285 t286 t287 t288 t289 t290 t291 t292)) else (masterdisclaw10_SubchannelCounts.j1 kj9 t299 true t273 t274 t275 t276 t277 t278 t279 t280 t281 t284 t285 t286 t287 t288 t289 t290 t291 t292)) else (masterdisclaw10_SubchannelCounts.j1 kj9 t299 true t273 t274 t275 t276 t277 t278 t279 t280 t281 t284 t285 t286 t287 t288 t289 t290 t291 t292)) = some r := H
         have A35 := Aside0.mk A350
         clear A350
         have HC36 := Aside0.mk H
         clear H
         have hnb37 := NB283_294.out
         have hnc37 := NB294_283.out
         have hcz38_0 : wc.cell? ⟨gb283, 0, none⟩ = some (.int .i64 t273) := (blk_cell BK283.out 0).trans rfl
         have hcz38_1 : wc.cell? ⟨gb283, 1, none⟩ = some (.int .i64 t274) := (blk_cell BK283.out 1).trans rfl
         have hcz38_2 : wc.cell? ⟨gb283, 2, none⟩ = some (.int .i64 t275) := (blk_cell BK283.out 2).trans rfl
         have hcz38_3 : wc.cell? ⟨gb283, 3, none⟩ = some (.int .i64 t276) := (blk_cell BK283.out 3).trans rfl
         have hcz38_4 : wc.cell? ⟨gb283, 4, none⟩ = some (.int .i64 t277) := (blk_cell BK283.out 4).trans rfl
         have hcz38_5 : wc.cell? ⟨gb283, 5, none⟩ = some (.int .i64 t278) := (blk_cell BK283.out 5).trans rfl
         have hcz38_6 : wc.cell? ⟨gb283, 6, none⟩ = some (.int .i64 t279) := (blk_cell BK283.out 6).trans rfl
         have hcz38_7 : wc.cell? ⟨gb283, 7, none⟩ = some (.int .i64 t280) := (blk_cell BK283.out 7).trans rfl
         have hcz38_8 : wc.cell? ⟨gb283, 8, none⟩ = some (.int .i64 t281) := (blk_cell BK283.out 8).trans rfl
         have hfz38_0 := blk_frozen BK283.out 0
         have hfz38_1 := blk_frozen BK283.out 1
         have hfz38_2 := blk_frozen BK283.out 2
         have hfz38_3 := blk_frozen BK283.out 3
         have hfz38_4 := blk_frozen BK283.out 4
         have hfz38_5 := blk_frozen BK283.out 5
         have hfz38_6 := blk_frozen BK283.out 6
         have hfz38_7 := blk_frozen BK283.out 7
         have hfz38_8 := blk_frozen BK283.out 8
         go_upto_region 13 with (first | ((with_reducible refine gate_callee (f := 16) rfl ?_); refine goesL_ (some 62) rfl rfl Try.func16 (by kernel_rfl) rfl #[.agg #[.int .i64 t279, .int .i64 t280, .int .i64 t281]] rfl (by (try simp only [List.map_toArray, List.map_cons, List.map_nil]); first | done | rfl | (simp only [List.length_drop, List.length_take]; rfl)) ?_; (with_reducible refine (address_ToLBA.calls t279 t280 t281 t295 t296 _ A32.out).mono ?_); rintro e w39 ⟨rfl, hb⟩; refine ⟨_, rfl, ?_⟩; have n0_ := Aside0.mk (blk_below (g := gb283) (o := .cells #[.int .i64 t273, .int .i64 t274, .int .i64 t275, .int .i64 t276, .int .i64 t277, .int .i64 t278, .int .i64 t279, .int .i64 t280, .int .i64 t281] 27 (0, 0)) (by (with_reducible repeat (first | refine blk_drewN ?_ _ | refine blk_drew ?_ | refine blk_alloc ?_ _)); exact BK283.out) hb); have n1_ := Aside0.mk (blk_below (g := gb294) (o := .cells #[.int .i64 t284, .int .i64 t285, .int .i64 t286, .int .i64 t287, .int .i64 t288, .int .i64 t289, .int .i64 t290, .int .i64 t291, .int .i64 t292] 27 (0, 0)) (by (with_reducible repeat (first | refine blk_drewN ?_ _ | refine blk_drew ?_ | refine blk_alloc ?_ _)); exact BK294.out) hb); have n2_ := Aside0.mk (below_step (by repeat (first | (with_reducible first | exact HB.out | apply below_alloc | apply pw_below_drewN | apply below_drew1 | refine below_set ?_ GE283.out | refine below_set ?_ GE294.out) | exact HB.out)) hb); clear BK283; clear BK294; clear HB; have BK283 := n0_; have BK294 := n1_; have HB := n2_; clear n0_ n1_ n2_; (try clear hb); (try clear hb2); (try clear hk); (try clear hi); have hcz40_0 : w39.cell? ⟨gb283, 0, none⟩ = some (.int .i64 t273) := (blk_cell BK283.out 0).trans rfl; have hcz40_1 : w39.cell? ⟨gb283, 1, none⟩ = some (.int .i64 t274) := (blk_cell BK283.out 1).trans rfl; have hcz40_2 : w39.cell? ⟨gb283, 2, none⟩ = some (.int .i64 t275) := (blk_cell BK283.out 2).trans rfl; have hcz40_3 : w39.cell? ⟨gb283, 3, none⟩ = some (.int .i64 t276) := (blk_cell BK283.out 3).trans rfl; have hcz40_4 : w39.cell? ⟨gb283, 4, none⟩ = some (.int .i64 t277) := (blk_cell BK283.out 4).trans rfl; have hcz40_5 : w39.cell? ⟨gb283, 5, none⟩ = some (.int .i64 t278) := (blk_cell BK283.out 5).trans rfl; have hcz40_6 : w39.cell? ⟨gb283, 6, none⟩ = some (.int .i64 t279) := (blk_cell BK283.out 6).trans rfl; have hcz40_7 : w39.cell? ⟨gb283, 7, none⟩ = some (.int .i64 t280) := (blk_cell BK283.out 7).trans rfl; have hcz40_8 : w39.cell? ⟨gb283, 8, none⟩ = some (.int .i64 t281) := (blk_cell BK283.out 8).trans rfl; have hfz40_0 := blk_frozen BK283.out 0; have hfz40_1 := blk_frozen BK283.out 1; have hfz40_2 := blk_frozen BK283.out 2; have hfz40_3 := blk_frozen BK283.out 3; have hfz40_4 := blk_frozen BK283.out 4; have hfz40_5 := blk_frozen BK283.out 5; have hfz40_6 := blk_frozen BK283.out 6; have hfz40_7 := blk_frozen BK283.out 7; have hfz40_8 := blk_frozen BK283.out 8; have hcz41_0 : w39.cell? ⟨gb294, 0, none⟩ = some (.int .i64 t284) := (blk_cell BK294.out 0).trans rfl; have hcz41_1 : w39.cell? ⟨gb294, 1, none⟩ = some (.int .i64 t285) := (blk_cell BK294.out 1).trans rfl; have hcz41_2 : w39.cell? ⟨gb294, 2, none⟩ = some (.int .i64 t286) := (blk_cell BK294.out 2).trans rfl; have hcz41_3 : w39.cell? ⟨gb294, 3, none⟩ = some (.int .i64 t287) := (blk_cell BK294.out 3).trans rfl; have hcz41_4 : w39.cell? ⟨gb294, 4, none⟩ = some (.int .i64 t288) := (blk_cell BK294.out 4).trans rfl; have hcz41_5 : w39.cell? ⟨gb294, 5, none⟩ = some (.int .i64 t289) := (blk_cell BK294.out 5).trans rfl; have hcz41_6 : w39.cell? ⟨gb294, 6, none⟩ = some (.int .i64 t290) := (blk_cell BK294.out 6).trans rfl; have hcz41_7 : w39.cell? ⟨gb294, 7, none⟩ = some (.int .i64 t291) := (blk_cell BK294.out 7).trans rfl; have hcz41_8 : w39.cell? ⟨gb294, 8, none⟩ = some (.int .i64 t292) := (blk_cell BK294.out 8).trans rfl; have hfz41_0 := blk_frozen BK294.out 0; have hfz41_1 := blk_frozen BK294.out 1; have hfz41_2 := blk_frozen BK294.out 2; have hfz41_3 := blk_frozen BK294.out 3; have hfz41_4 := blk_frozen BK294.out 4; have hfz41_5 := blk_frozen BK294.out 5; have hfz41_6 := blk_frozen BK294.out 6; have hfz41_7 := blk_frozen BK294.out 7; have hfz41_8 := blk_frozen BK294.out 8) | ((with_reducible refine gate_callee (f := 17) rfl ?_); refine goesL_ (some 70) rfl rfl Try.func17 (by kernel_rfl) rfl #[.agg #[.int .i64 t279, .int .i64 t280, .int .i64 t281], .agg #[.int .i64 t290, .int .i64 t291, .int .i64 t292]] rfl (by (try simp only [List.map_toArray, List.map_cons, List.map_nil]); first | done | rfl | (simp only [List.length_drop, List.length_take]; rfl)) ?_; (with_reducible refine (address_Distance.calls kj9 t279 t280 t281 t290 t291 t292 t297 t298 _ A33.out).mono ?_); rintro e w42 ⟨rfl, hb⟩; refine ⟨_, rfl, ?_⟩; have n0_ := Aside0.mk (blk_below (g := gb283) (o := .cells #[.int .i64 t273, .int .i64 t274, .int .i64 t275, .int .i64 t276, .int .i64 t277, .int .i64 t278, .int .i64 t279, .int .i64 t280, .int .i64 t281] 27 (0, 0)) (by (with_reducible repeat (first | refine blk_drewN ?_ _ | refine blk_drew ?_ | refine blk_alloc ?_ _)); exact BK283.out) hb); have n1_ := Aside0.mk (blk_below (g := gb294) (o := .cells #[.int .i64 t284, .int .i64 t285, .int .i64 t286, .int .i64 t287, .int .i64 t288, .int .i64 t289, .int .i64 t290, .int .i64 t291, .int .i64 t292] 27 (0, 0)) (by (with_reducible repeat (first | refine blk_drewN ?_ _ | refine blk_drew ?_ | refine blk_alloc ?_ _)); exact BK294.out) hb); have n2_ := Aside0.mk (below_step (by repeat (first | (with_reducible first | exact HB.out | apply below_alloc | apply pw_below_drewN | apply below_drew1 | refine below_set ?_ GE283.out | refine below_set ?_ GE294.out) | exact HB.out)) hb); clear BK283; clear BK294; clear HB; have BK283 := n0_; have BK294 := n1_; have HB := n2_; clear n0_ n1_ n2_; (try clear hb); (try clear hb2); (try clear hk); (try clear hi); have hcz43_0 : w42.cell? ⟨gb283, 0, none⟩ = some (.int .i64 t273) := (blk_cell BK283.out 0).trans rfl; have hcz43_1 : w42.cell? ⟨gb283, 1, none⟩ = some (.int .i64 t274) := (blk_cell BK283.out 1).trans rfl; have hcz43_2 : w42.cell? ⟨gb283, 2, none⟩ = some (.int .i64 t275) := (blk_cell BK283.out 2).trans rfl; have hcz43_3 : w42.cell? ⟨gb283, 3, none⟩ = some (.int .i64 t276) := (blk_cell BK283.out 3).trans rfl; have hcz43_4 : w42.cell? ⟨gb283, 4, none⟩ = some (.int .i64 t277) := (blk_cell BK283.out 4).trans rfl; have hcz43_5 : w42.cell? ⟨gb283, 5, none⟩ = some (.int .i64 t278) := (blk_cell BK283.out 5).trans rfl; have hcz43_6 : w42.cell? ⟨gb283, 6, none⟩ = some (.int .i64 t279) := (blk_cell BK283.out 6).trans rfl; have hcz43_7 : w42.cell? ⟨gb283, 7, none⟩ = some (.int .i64 t280) := (blk_cell BK283.out 7).trans rfl; have hcz43_8 : w42.cell? ⟨gb283, 8, none⟩ = some (.int .i64 t281) := (blk_cell BK283.out 8).trans rfl; have hfz43_0 := blk_frozen BK283.out 0; have hfz43_1 := blk_frozen BK283.out 1; have hfz43_2 := blk_frozen BK283.out 2; have hfz43_3 := blk_frozen BK283.out 3; have hfz43_4 := blk_frozen BK283.out 4; have hfz43_5 := blk_frozen BK283.out 5; have hfz43_6 := blk_frozen BK283.out 6; have hfz43_7 := blk_frozen BK283.out 7; have hfz43_8 := blk_frozen BK283.out 8; have hcz44_0 : w42.cell? ⟨gb294, 0, none⟩ = some (.int .i64 t284) := (blk_cell BK294.out 0).trans rfl; have hcz44_1 : w42.cell? ⟨gb294, 1, none⟩ = some (.int .i64 t285) := (blk_cell BK294.out 1).trans rfl; have hcz44_2 : w42.cell? ⟨gb294, 2, none⟩ = some (.int .i64 t286) := (blk_cell BK294.out 2).trans rfl; have hcz44_3 : w42.cell? ⟨gb294, 3, none⟩ = some (.int .i64 t287) := (blk_cell BK294.out 3).trans rfl; have hcz44_4 : w42.cell? ⟨gb294, 4, none⟩ = some (.int .i64 t288) := (blk_cell BK294.out 4).trans rfl; have hcz44_5 : w42.cell? ⟨gb294, 5, none⟩ = some (.int .i64 t289) := (blk_cell BK294.out 5).trans rfl; have hcz44_6 : w42.cell? ⟨gb294, 6, none⟩ = some (.int .i64 t290) := (blk_cell BK294.out 6).trans rfl; have hcz44_7 : w42.cell? ⟨gb294, 7, none⟩ = some (.int .i64 t291) := (blk_cell BK294.out 7).trans rfl; have hcz44_8 : w42.cell? ⟨gb294, 8, none⟩ = some (.int .i64 t292) := (blk_cell BK294.out 8).trans rfl; have hfz44_0 := blk_frozen BK294.out 0; have hfz44_1 := blk_frozen BK294.out 1; have hfz44_2 := blk_frozen BK294.out 2; have hfz44_3 := blk_frozen BK294.out 3; have hfz44_4 := blk_frozen BK294.out 4; have hfz44_5 := blk_frozen BK294.out 5; have hfz44_6 := blk_frozen BK294.out 6; have hfz44_7 := blk_frozen BK294.out 7; have hfz44_8 := blk_frozen BK294.out 8) | ((with_reducible refine gate_callee (f := 17) rfl ?_); refine goesL_ (some 78) rfl rfl Try.func17 (by kernel_rfl) rfl #[.agg #[.int .i64 t276, .int .i64 t277, .int .i64 t278], .agg #[.int .i64 t287, .int .i64 t288, .int .i64 t289]] rfl (by (try simp only [List.map_toArray, List.map_cons, List.map_nil]); first | done | rfl | (simp only [List.length_drop, List.length_take]; rfl)) ?_; (with_reducible refine (address_Distance.calls kj9 t276 t277 t278 t287 t288 t289 t299 t300 _ A34.out).mono ?_); rintro e w45 ⟨rfl, hb⟩; refine ⟨_, rfl, ?_⟩; have n0_ := Aside0.mk (blk_below (g := gb283) (o := .cells #[.int .i64 t273, .int .i64 t274, .int .i64 t275, .int .i64 t276, .int .i64 t277, .int .i64 t278, .int .i64 t279, .int .i64 t280, .int .i64 t281] 27 (0, 0)) (by (with_reducible repeat (first | refine blk_drewN ?_ _ | refine blk_drew ?_ | refine blk_alloc ?_ _)); exact BK283.out) hb); have n1_ := Aside0.mk (blk_below (g := gb294) (o := .cells #[.int .i64 t284, .int .i64 t285, .int .i64 t286, .int .i64 t287, .int .i64 t288, .int .i64 t289, .int .i64 t290, .int .i64 t291, .int .i64 t292] 27 (0, 0)) (by (with_reducible repeat (first | refine blk_drewN ?_ _ | refine blk_drew ?_ | refine blk_alloc ?_ _)); exact BK294.out) hb); have n2_ := Aside0.mk (below_step (by repeat (first | (with_reducible first | exact HB.out | apply below_alloc | apply pw_below_drewN | apply below_drew1 | refine below_set ?_ GE283.out | refine below_set ?_ GE294.out) | exact HB.out)) hb); clear BK283; clear BK294; clear HB; have BK283 := n0_; have BK294 := n1_; have HB := n2_; clear n0_ n1_ n2_; (try clear hb); (try clear hb2); (try clear hk); (try clear hi); have hcz46_0 : w45.cell? ⟨gb283, 0, none⟩ = some (.int .i64 t273) := (blk_cell BK283.out 0).trans rfl; have hcz46_1 : w45.cell? ⟨gb283, 1, none⟩ = some (.int .i64 t274) := (blk_cell BK283.out 1).trans rfl; have hcz46_2 : w45.cell? ⟨gb283, 2, none⟩ = some (.int .i64 t275) := (blk_cell BK283.out 2).trans rfl; have hcz46_3 : w45.cell? ⟨gb283, 3, none⟩ = some (.int .i64 t276) := (blk_cell BK283.out 3).trans rfl; have hcz46_4 : w45.cell? ⟨gb283, 4, none⟩ = some (.int .i64 t277) := (blk_cell BK283.out 4).trans rfl; have hcz46_5 : w45.cell? ⟨gb283, 5, none⟩ = some (.int .i64 t278) := (blk_cell BK283.out 5).trans rfl; have hcz46_6 : w45.cell? ⟨gb283, 6, none⟩ = some (.int .i64 t279) := (blk_cell BK283.out 6).trans rfl; have hcz46_7 : w45.cell? ⟨gb283, 7, none⟩ = some (.int .i64 t280) := (blk_cell BK283.out 7).trans rfl; have hcz46_8 : w45.cell? ⟨gb283, 8, none⟩ = some (.int .i64 t281) := (blk_cell BK283.out 8).trans rfl; have hfz46_0 := blk_frozen BK283.out 0; have hfz46_1 := blk_frozen BK283.out 1; have hfz46_2 := blk_frozen BK283.out 2; have hfz46_3 := blk_frozen BK283.out 3; have hfz46_4 := blk_frozen BK283.out 4; have hfz46_5 := blk_frozen BK283.out 5; have hfz46_6 := blk_frozen BK283.out 6; have hfz46_7 := blk_frozen BK283.out 7; have hfz46_8 := blk_frozen BK283.out 8) | ((with_reducible refine gate_callee (f := 18) rfl ?_); refine goesL_ (some 83) rfl rfl Try.func18 (by kernel_rfl) rfl #[.agg #[.int .i64 t273, .int .i64 t274, .int .i64 t275, .int .i64 t276, .int .i64 t277, .int .i64 t278, .int .i64 t279, .int .i64 t280, .int .i64 t281]] rfl (by (try simp only [List.map_toArray, List.map_cons, List.map_nil]); first | done | rfl | (simp only [List.length_drop, List.length_take]; rfl)) ?_; (with_reducible refine (subchannel_Encode.calls t273 t274 t275 t276 t277 t278 t279 t280 t281 t301 t302 _ A35.out).mono ?_); rintro e w47 ⟨rfl, hb⟩; refine ⟨_, rfl, ?_⟩; have n0_ := Aside0.mk (blk_below (g := gb283) (o := .cells #[.int .i64 t273, .int .i64 t274, .int .i64 t275, .int .i64 t276, .int .i64 t277, .int .i64 t278, .int .i64 t279, .int .i64 t280, .int .i64 t281] 27 (0, 0)) (by (with_reducible repeat (first | refine blk_drewN ?_ _ | refine blk_drew ?_ | refine blk_alloc ?_ _)); exact BK283.out) hb); have n1_ := Aside0.mk (blk_below (g := gb294) (o := .cells #[.int .i64 t284, .int .i64 t285, .int .i64 t286, .int .i64 t287, .int .i64 t288, .int .i64 t289, .int .i64 t290, .int .i64 t291, .int .i64 t292] 27 (0, 0)) (by (with_reducible repeat (first | refine blk_drewN ?_ _ | refine blk_drew ?_ | refine blk_alloc ?_ _)); exact BK294.out) hb); have n2_ := Aside0.mk (below_step (by repeat (first | (with_reducible first | exact HB.out | apply below_alloc | apply pw_below_drewN | apply below_drew1 | refine below_set ?_ GE283.out | refine below_set ?_ GE294.out) | exact HB.out)) hb); clear BK283; clear BK294; clear HB; have BK283 := n0_; have BK294 := n1_; have HB := n2_; clear n0_ n1_ n2_; (try clear hb); (try clear hb2); (try clear hk); (try clear hi)))
         (try simp only [Act.put, List.setIfInBounds_toArray, List.set_cons_zero, List.set_cons_succ])
         go_cut [108] (fun v108 wc => ∃ (kq : Nat) (x108_35 : Bool), v108 = .bool x108_35 ∧ Aside0 (masterdisclaw10_SubchannelCounts.j1 kq t299 x108_35 t273 t274 t275 t276 t277 t278 t279 t280 t281 t284 t285 t286 t287 t288 t289 t290 t291 t292 = some r) ∧ Aside0 (kq ≤ kj9) ∧ Aside0 (wc.heap[gb283]? = some (.cells #[.int .i64 t273, .int .i64 t274, .int .i64 t275, .int .i64 t276, .int .i64 t277, .int .i64 t278, .int .i64 t279, .int .i64 t280, .int .i64 t281] 27 (0, 0))) ∧ Aside0 (wc.heap[gb294]? = some (.cells #[.int .i64 t284, .int .i64 t285, .int .i64 t286, .int .i64 t287, .int .i64 t288, .int .i64 t289, .int .i64 t290, .int .i64 t291, .int .i64 t292] 27 (0, 0))) ∧ Aside0 (Below w.heap.size w wc))
         case first =>
          have H := HC36.out
          clear HC36
          by_cases c48 : t302 = 0
          · rw [if_pos c48] at H
            have c48b0 : (t302 == 0) = true := beq_iff_eq.mpr c48
            have c48b1 : (t302 != 0) = false := bne_eq_false_iff_eq.mpr c48
            clear c48
            (first | rw [c48b0] | (simp only [i64_w, i32_w]; rw [c48b0]) | skip)
            by_cases c49 : t295 = a2
            · rw [if_pos c49] at H
              have c49b0 : (t295 == a2) = true := beq_iff_eq.mpr c49
              have c49b1 : (t295 != a2) = false := bne_eq_false_iff_eq.mpr c49
              clear c49
              by_cases c50 : t296 = 0
              · rw [if_pos c50] at H
                have c50b0 : (t296 == 0) = true := beq_iff_eq.mpr c50
                have c50b1 : (t296 != 0) = false := bne_eq_false_iff_eq.mpr c50
                clear c50
                by_cases c51 : t297 = 1
                · rw [if_pos c51] at H
                  have c51b0 : (t297 == 1) = true := beq_iff_eq.mpr c51
                  have c51b1 : (t297 != 1) = false := bne_eq_false_iff_eq.mpr c51
                  clear c51
                  by_cases c52 : t298 = 0
                  · rw [if_pos c52] at H
                    have c52b0 : (t298 == 0) = true := beq_iff_eq.mpr c52
                    have c52b1 : (t298 != 0) = false := bne_eq_false_iff_eq.mpr c52
                    clear c52
                    have H' := Aside0.mk H
                    clear H
                    go_wp2
                    go_meet
                    case rel => exact ⟨_, ((t300 != 0)), (by first | rfl | (simp; done) | (simp [*]; done)), H', ⟨by have := HJ9.out; first | omega | exact Nat.le_refl _⟩, ⟨by (with_reducible repeat (first | refine blk_drewN ?_ _ | refine blk_drew ?_ | refine blk_alloc ?_ _)); exact BK283.out⟩, ⟨by (with_reducible repeat (first | refine blk_drewN ?_ _ | refine blk_drew ?_ | refine blk_alloc ?_ _)); exact BK294.out⟩, ⟨by repeat (first | (with_reducible first | exact HB.out | apply below_alloc | apply pw_below_drewN | apply below_drew1 | refine below_set ?_ GE283.out | refine below_set ?_ GE294.out) | exact HB.out)⟩⟩
                  · rw [if_neg c52] at H
                    have c52b0 : (t298 == 0) = false := beq_eq_false_iff_ne.mpr c52
                    have c52b1 : (t298 != 0) = true := bne_iff_ne.mpr c52
                    have H' := Aside0.mk H
                    clear H
                    go_wp2
                    go_meet
                    case rel => exact ⟨_, (true), (by first | rfl | (simp; done) | (simp [*]; done)), H', ⟨by have := HJ9.out; first | omega | exact Nat.le_refl _⟩, ⟨by (with_reducible repeat (first | refine blk_drewN ?_ _ | refine blk_drew ?_ | refine blk_alloc ?_ _)); exact BK283.out⟩, ⟨by (with_reducible repeat (first | refine blk_drewN ?_ _ | refine blk_drew ?_ | refine blk_alloc ?_ _)); exact BK294.out⟩, ⟨by repeat (first | (with_reducible first | exact HB.out | apply below_alloc | apply pw_below_drewN | apply below_drew1 | refine below_set ?_ GE283.out | refine below_set ?_ GE294.out) | exact HB.out)⟩⟩
                · rw [if_neg c51] at H
                  have c51b0 : (t297 == 1) = false := beq_eq_false_iff_ne.mpr c51
                  have c51b1 : (t297 != 1) = true := bne_iff_ne.mpr c51
                  have H' := Aside0.mk H
                  clear H
                  go_wp2
                  go_meet
                  case rel => exact ⟨_, (true), (by first | rfl | (simp; done) | (simp [*]; done)), H', ⟨by have := HJ9.out; first | omega | exact Nat.le_refl _⟩, ⟨by (with_reducible repeat (first | refine blk_drewN ?_ _ | refine blk_drew ?_ | refine blk_alloc ?_ _)); exact BK283.out⟩, ⟨by (with_reducible repeat (first | refine blk_drewN ?_ _ | refine blk_drew ?_ | refine blk_alloc ?_ _)); exact BK294.out⟩, ⟨by repeat (first | (with_reducible first | exact HB.out | apply below_alloc | apply pw_below_drewN | apply below_drew1 | refine below_set ?_ GE283.out | refine below_set ?_ GE294.out) | exact HB.out)⟩⟩
              · rw [if_neg c50] at H
                have c50b0 : (t296 == 0) = false := beq_eq_false_iff_ne.mpr c50
                have c50b1 : (t296 != 0) = true := bne_iff_ne.mpr c50
                have H' := Aside0.mk H
                clear H
                go_wp2
                go_meet
                case rel => exact ⟨_, (true), (by first | rfl | (simp; done) | (simp [*]; done)), H', ⟨by have := HJ9.out; first | omega | exact Nat.le_refl _⟩, ⟨by (with_reducible repeat (first | refine blk_drewN ?_ _ | refine blk_drew ?_ | refine blk_alloc ?_ _)); exact BK283.out⟩, ⟨by (with_reducible repeat (first | refine blk_drewN ?_ _ | refine blk_drew ?_ | refine blk_alloc ?_ _)); exact BK294.out⟩, ⟨by repeat (first | (with_reducible first | exact HB.out | apply below_alloc | apply pw_below_drewN | apply below_drew1 | refine below_set ?_ GE283.out | refine below_set ?_ GE294.out) | exact HB.out)⟩⟩
            · rw [if_neg c49] at H
              have c49b0 : (t295 == a2) = false := beq_eq_false_iff_ne.mpr c49
              have c49b1 : (t295 != a2) = true := bne_iff_ne.mpr c49
              have H' := Aside0.mk H
              clear H
              go_wp2
              go_meet
              case rel => exact ⟨_, (true), (by first | rfl | (simp; done) | (simp [*]; done)), H', ⟨by have := HJ9.out; first | omega | exact Nat.le_refl _⟩, ⟨by (with_reducible repeat (first | refine blk_drewN ?_ _ | refine blk_drew ?_ | refine blk_alloc ?_ _)); exact BK283.out⟩, ⟨by (with_reducible repeat (first | refine blk_drewN ?_ _ | refine blk_drew ?_ | refine blk_alloc ?_ _)); exact BK294.out⟩, ⟨by repeat (first | (with_reducible first | exact HB.out | apply below_alloc | apply pw_below_drewN | apply below_drew1 | refine below_set ?_ GE283.out | refine below_set ?_ GE294.out) | exact HB.out)⟩⟩
          · rw [if_neg c48] at H
            have c48b0 : (t302 == 0) = false := beq_eq_false_iff_ne.mpr c48
            have c48b1 : (t302 != 0) = true := bne_iff_ne.mpr c48
            (first | rw [c48b0] | (simp only [i64_w, i32_w]; rw [c48b0]) | skip)
            have H' := Aside0.mk H
            clear H
            go_wp2
            go_meet
            case rel => exact ⟨_, (true), (by first | rfl | (simp; done) | (simp [*]; done)), H', ⟨by have := HJ9.out; first | omega | exact Nat.le_refl _⟩, ⟨by (with_reducible repeat (first | refine blk_drewN ?_ _ | refine blk_drew ?_ | refine blk_alloc ?_ _)); exact BK283.out⟩, ⟨by (with_reducible repeat (first | refine blk_drewN ?_ _ | refine blk_drew ?_ | refine blk_alloc ?_ _)); exact BK294.out⟩, ⟨by repeat (first | (with_reducible first | exact HB.out | apply below_alloc | apply pw_below_drewN | apply below_drew1 | refine below_set ?_ GE283.out | refine below_set ?_ GE294.out) | exact HB.out)⟩⟩
         case rest =>
          clear HC36
          try clear c1
          try clear c2
          try clear p2
          try clear c3
          try clear c4
          try clear c5
          try clear c6
          try clear c6b0
          try clear c6b1
          try clear p6
          try clear c10
          try clear c11
          try clear c16
          try clear c17
          try clear c18
          try clear c19
          try clear c19b0
          try clear c19b1
          try clear c20
          try clear c21
          try clear c21b0
          try clear c21b1
          try clear c22
          try clear c22b0
          try clear c22b1
          try clear c23
          try clear c25
          try clear c25b0
          try clear c25b1
          try clear c25b2
          try clear c26
          try clear c26b0
          try clear c26b1
          try clear c27
          try clear c29
          try clear c37
          try clear c48
          try clear c48b0
          try clear c48b1
          try clear c49
          try clear c49b0
          try clear c49b1
          try clear c50
          try clear c50b0
          try clear c50b1
          try clear c51
          try clear c51b0
          try clear c51b1
          try clear c52
          try clear c52b0
          try clear c52b1
          try clear hcz14_0
          try clear hcz14_1
          try clear hcz14_2
          try clear hcz14_3
          try clear hcz14_4
          try clear hcz14_5
          try clear hcz14_6
          try clear hcz14_7
          try clear hcz14_8
          try clear hcz18_0
          try clear hcz18_1
          try clear hcz18_2
          try clear hcz18_3
          try clear hcz18_4
          try clear hcz18_5
          try clear hcz18_6
          try clear hcz18_7
          try clear hcz18_8
          try clear hcz24_0
          try clear hcz24_1
          try clear hcz24_2
          try clear hcz24_3
          try clear hcz24_4
          try clear hcz24_5
          try clear hcz24_6
          try clear hcz24_7
          try clear hcz24_8
          try clear hcz28_0
          try clear hcz28_1
          try clear hcz28_2
          try clear hcz28_3
          try clear hcz28_4
          try clear hcz28_5
          try clear hcz28_6
          try clear hcz28_7
          try clear hcz28_8
          try clear hcz30_0
          try clear hcz30_1
          try clear hcz30_2
          try clear hcz30_3
          try clear hcz30_4
          try clear hcz30_5
          try clear hcz30_6
          try clear hcz30_7
          try clear hcz30_8
          try clear hcz31_0
          try clear hcz31_1
          try clear hcz31_2
          try clear hcz31_3
          try clear hcz31_4
          try clear hcz31_5
          try clear hcz31_6
          try clear hcz31_7
          try clear hcz31_8
          try clear hcz38_0
          try clear hcz38_1
          try clear hcz38_2
          try clear hcz38_3
          try clear hcz38_4
          try clear hcz38_5
          try clear hcz38_6
          try clear hcz38_7
          try clear hcz38_8
          try clear hcz40_0
          try clear hcz40_1
          try clear hcz40_2
          try clear hcz40_3
          try clear hcz40_4
          try clear hcz40_5
          try clear hcz40_6
          try clear hcz40_7
          try clear hcz40_8
          try clear hcz41_0
          try clear hcz41_1
          try clear hcz41_2
          try clear hcz41_3
          try clear hcz41_4
          try clear hcz41_5
          try clear hcz41_6
          try clear hcz41_7
          try clear hcz41_8
          try clear hcz43_0
          try clear hcz43_1
          try clear hcz43_2
          try clear hcz43_3
          try clear hcz43_4
          try clear hcz43_5
          try clear hcz43_6
          try clear hcz43_7
          try clear hcz43_8
          try clear hcz44_0
          try clear hcz44_1
          try clear hcz44_2
          try clear hcz44_3
          try clear hcz44_4
          try clear hcz44_5
          try clear hcz44_6
          try clear hcz44_7
          try clear hcz44_8
          try clear hcz46_0
          try clear hcz46_1
          try clear hcz46_2
          try clear hcz46_3
          try clear hcz46_4
          try clear hcz46_5
          try clear hcz46_6
          try clear hcz46_7
          try clear hcz46_8
          try clear hfz14_0
          try clear hfz14_1
          try clear hfz14_2
          try clear hfz14_3
          try clear hfz14_4
          try clear hfz14_5
          try clear hfz14_6
          try clear hfz14_7
          try clear hfz14_8
          try clear hfz18_0
          try clear hfz18_1
          try clear hfz18_2
          try clear hfz18_3
          try clear hfz18_4
          try clear hfz18_5
          try clear hfz18_6
          try clear hfz18_7
          try clear hfz18_8
          try clear hfz24_0
          try clear hfz24_1
          try clear hfz24_2
          try clear hfz24_3
          try clear hfz24_4
          try clear hfz24_5
          try clear hfz24_6
          try clear hfz24_7
          try clear hfz24_8
          try clear hfz28_0
          try clear hfz28_1
          try clear hfz28_2
          try clear hfz28_3
          try clear hfz28_4
          try clear hfz28_5
          try clear hfz28_6
          try clear hfz28_7
          try clear hfz28_8
          try clear hfz30_0
          try clear hfz30_1
          try clear hfz30_2
          try clear hfz30_3
          try clear hfz30_4
          try clear hfz30_5
          try clear hfz30_6
          try clear hfz30_7
          try clear hfz30_8
          try clear hfz31_0
          try clear hfz31_1
          try clear hfz31_2
          try clear hfz31_3
          try clear hfz31_4
          try clear hfz31_5
          try clear hfz31_6
          try clear hfz31_7
          try clear hfz31_8
          try clear hfz38_0
          try clear hfz38_1
          try clear hfz38_2
          try clear hfz38_3
          try clear hfz38_4
          try clear hfz38_5
          try clear hfz38_6
          try clear hfz38_7
          try clear hfz38_8
          try clear hfz40_0
          try clear hfz40_1
          try clear hfz40_2
          try clear hfz40_3
          try clear hfz40_4
          try clear hfz40_5
          try clear hfz40_6
          try clear hfz40_7
          try clear hfz40_8
          try clear hfz41_0
          try clear hfz41_1
          try clear hfz41_2
          try clear hfz41_3
          try clear hfz41_4
          try clear hfz41_5
          try clear hfz41_6
          try clear hfz41_7
          try clear hfz41_8
          try clear hfz43_0
          try clear hfz43_1
          try clear hfz43_2
          try clear hfz43_3
          try clear hfz43_4
          try clear hfz43_5
          try clear hfz43_6
          try clear hfz43_7
          try clear hfz43_8
          try clear hfz44_0
          try clear hfz44_1
          try clear hfz44_2
          try clear hfz44_3
          try clear hfz44_4
          try clear hfz44_5
          try clear hfz44_6
          try clear hfz44_7
          try clear hfz44_8
          try clear hfz46_0
          try clear hfz46_1
          try clear hfz46_2
          try clear hfz46_3
          try clear hfz46_4
          try clear hfz46_5
          try clear hfz46_6
          try clear hfz46_7
          try clear hfz46_8
          try clear p2
          try clear p6
          obtain ⟨kq, x108_35, rfl, HA, HJ35, BK283, BK294, HB⟩ := hcut
          cases kq with
          | zero => exact absurd HA.out (by simp [masterdisclaw10_SubchannelCounts.j1])
          | succ kj35 =>
           have H := HA.out
           clear HA
           simp only [masterdisclaw10_SubchannelCounts.j1] at H
           by_cases c53 : x108_35 = true
           · subst c53
             have H1 : (none) = some r := by rw [if_pos rfl] at H; exact H
             clear H
             have H := H1
             clear H1
             exact absurd H (by simp)
           · replace c53 := Bool.eq_false_iff.mpr c53
             subst c53
             have H1 : (if t274 = t285 then (if t275 = t286 then (if t275 = 1 then (if t299 = 1 then (some true) else (if t275 = 0 then (some (t299 == (-1))) else (none))) else (if t275 = 0 then (some (t299 == (-1))) else (none))) else (if t286 = 0 then (some true) else (some (t287 == 0 && (t288 == 0 && (t289 == 0)))))) else (if t286 = 0 then (some true) else (some (t287 == 0 && (t288 == 0 && (t289 == 0)))))) = some r := by rw [if_neg (show ¬ (false = true) by decide)] at H; exact H
             clear H
             have H := H1
             clear H1
             by_cases c54 : t274 = t285
             · rw [if_pos c54] at H
               have c54b0 : (t274 == t285) = true := beq_iff_eq.mpr c54
               have c54b1 : (t274 != t285) = false := bne_eq_false_iff_eq.mpr c54
               clear c54
               by_cases c55 : t275 = t286
               · rw [if_pos c55] at H
                 have c55b0 : (t275 == t286) = true := beq_iff_eq.mpr c55
                 have c55b1 : (t275 != t286) = false := bne_eq_false_iff_eq.mpr c55
                 clear c55
                 by_cases c56 : t275 = 1
                 · rw [if_pos c56] at H
                   have c56b0 : (t275 == 1) = true := beq_iff_eq.mpr c56
                   have c56b1 : (t275 != 1) = false := bne_eq_false_iff_eq.mpr c56
                   clear c56
                   by_cases c57 : t299 = 1
                   · rw [if_pos c57] at H
                     have c57b0 : (t299 == 1) = true := beq_iff_eq.mpr c57
                     have c57b1 : (t299 != 1) = false := bne_eq_false_iff_eq.mpr c57
                     clear c57
                     obtain rfl := Option.some.inj H
                     have hnb58 := NB283_294.out
                     have hnc58 := NB294_283.out
                     have hcz59_0 : wc.cell? ⟨gb283, 0, none⟩ = some (.int .i64 t273) := (blk_cell BK283.out 0).trans rfl
                     have hcz59_1 : wc.cell? ⟨gb283, 1, none⟩ = some (.int .i64 t274) := (blk_cell BK283.out 1).trans rfl
                     have hcz59_2 : wc.cell? ⟨gb283, 2, none⟩ = some (.int .i64 t275) := (blk_cell BK283.out 2).trans rfl
                     have hcz59_3 : wc.cell? ⟨gb283, 3, none⟩ = some (.int .i64 t276) := (blk_cell BK283.out 3).trans rfl
                     have hcz59_4 : wc.cell? ⟨gb283, 4, none⟩ = some (.int .i64 t277) := (blk_cell BK283.out 4).trans rfl
                     have hcz59_5 : wc.cell? ⟨gb283, 5, none⟩ = some (.int .i64 t278) := (blk_cell BK283.out 5).trans rfl
                     have hcz59_6 : wc.cell? ⟨gb283, 6, none⟩ = some (.int .i64 t279) := (blk_cell BK283.out 6).trans rfl
                     have hcz59_7 : wc.cell? ⟨gb283, 7, none⟩ = some (.int .i64 t280) := (blk_cell BK283.out 7).trans rfl
                     have hcz59_8 : wc.cell? ⟨gb283, 8, none⟩ = some (.int .i64 t281) := (blk_cell BK283.out 8).trans rfl
                     have hfz59_0 := blk_frozen BK283.out 0
                     have hfz59_1 := blk_frozen BK283.out 1
                     have hfz59_2 := blk_frozen BK283.out 2
                     have hfz59_3 := blk_frozen BK283.out 3
                     have hfz59_4 := blk_frozen BK283.out 4
                     have hfz59_5 := blk_frozen BK283.out 5
                     have hfz59_6 := blk_frozen BK283.out 6
                     have hfz59_7 := blk_frozen BK283.out 7
                     have hfz59_8 := blk_frozen BK283.out 8
                     have hcz60_0 : wc.cell? ⟨gb294, 0, none⟩ = some (.int .i64 t284) := (blk_cell BK294.out 0).trans rfl
                     have hcz60_1 : wc.cell? ⟨gb294, 1, none⟩ = some (.int .i64 t285) := (blk_cell BK294.out 1).trans rfl
                     have hcz60_2 : wc.cell? ⟨gb294, 2, none⟩ = some (.int .i64 t286) := (blk_cell BK294.out 2).trans rfl
                     have hcz60_3 : wc.cell? ⟨gb294, 3, none⟩ = some (.int .i64 t287) := (blk_cell BK294.out 3).trans rfl
                     have hcz60_4 : wc.cell? ⟨gb294, 4, none⟩ = some (.int .i64 t288) := (blk_cell BK294.out 4).trans rfl
                     have hcz60_5 : wc.cell? ⟨gb294, 5, none⟩ = some (.int .i64 t289) := (blk_cell BK294.out 5).trans rfl
                     have hcz60_6 : wc.cell? ⟨gb294, 6, none⟩ = some (.int .i64 t290) := (blk_cell BK294.out 6).trans rfl
                     have hcz60_7 : wc.cell? ⟨gb294, 7, none⟩ = some (.int .i64 t291) := (blk_cell BK294.out 7).trans rfl
                     have hcz60_8 : wc.cell? ⟨gb294, 8, none⟩ = some (.int .i64 t292) := (blk_cell BK294.out 8).trans rfl
                     have hfz60_0 := blk_frozen BK294.out 0
                     have hfz60_1 := blk_frozen BK294.out 1
                     have hfz60_2 := blk_frozen BK294.out 2
                     have hfz60_3 := blk_frozen BK294.out 3
                     have hfz60_4 := blk_frozen BK294.out 4
                     have hfz60_5 := blk_frozen BK294.out 5
                     have hfz60_6 := blk_frozen BK294.out 6
                     have hfz60_7 := blk_frozen BK294.out 7
                     have hfz60_8 := blk_frozen BK294.out 8
                     go_wp2
                     go_ret
                     exact ⟨by first | rfl | (simp [errW_none, errW_some] <;> rfl) | (simp [*, errW_none, errW_some] <;> rfl), by repeat (first | (with_reducible first | exact HB.out | apply below_alloc | apply pw_below_drewN | apply below_drew1 | refine below_set ?_ GE283.out | refine below_set ?_ GE294.out) | exact HB.out)⟩
                   · rw [if_neg c57] at H
                     have c57b0 : (t299 == 1) = false := beq_eq_false_iff_ne.mpr c57
                     have c57b1 : (t299 != 1) = true := bne_iff_ne.mpr c57
                     by_cases c61 : t275 = 0
                     · rw [if_pos c61] at H
                       have c61b0 : (t275 == 0) = true := beq_iff_eq.mpr c61
                       have c61b1 : (t275 != 0) = false := bne_eq_false_iff_eq.mpr c61
                       clear c61
                       obtain rfl := Option.some.inj H
                       have hnb62 := NB283_294.out
                       have hnc62 := NB294_283.out
                       have hcz63_0 : wc.cell? ⟨gb283, 0, none⟩ = some (.int .i64 t273) := (blk_cell BK283.out 0).trans rfl
                       have hcz63_1 : wc.cell? ⟨gb283, 1, none⟩ = some (.int .i64 t274) := (blk_cell BK283.out 1).trans rfl
                       have hcz63_2 : wc.cell? ⟨gb283, 2, none⟩ = some (.int .i64 t275) := (blk_cell BK283.out 2).trans rfl
                       have hcz63_3 : wc.cell? ⟨gb283, 3, none⟩ = some (.int .i64 t276) := (blk_cell BK283.out 3).trans rfl
                       have hcz63_4 : wc.cell? ⟨gb283, 4, none⟩ = some (.int .i64 t277) := (blk_cell BK283.out 4).trans rfl
                       have hcz63_5 : wc.cell? ⟨gb283, 5, none⟩ = some (.int .i64 t278) := (blk_cell BK283.out 5).trans rfl
                       have hcz63_6 : wc.cell? ⟨gb283, 6, none⟩ = some (.int .i64 t279) := (blk_cell BK283.out 6).trans rfl
                       have hcz63_7 : wc.cell? ⟨gb283, 7, none⟩ = some (.int .i64 t280) := (blk_cell BK283.out 7).trans rfl
                       have hcz63_8 : wc.cell? ⟨gb283, 8, none⟩ = some (.int .i64 t281) := (blk_cell BK283.out 8).trans rfl
                       have hfz63_0 := blk_frozen BK283.out 0
                       have hfz63_1 := blk_frozen BK283.out 1
                       have hfz63_2 := blk_frozen BK283.out 2
                       have hfz63_3 := blk_frozen BK283.out 3
                       have hfz63_4 := blk_frozen BK283.out 4
                       have hfz63_5 := blk_frozen BK283.out 5
                       have hfz63_6 := blk_frozen BK283.out 6
                       have hfz63_7 := blk_frozen BK283.out 7
                       have hfz63_8 := blk_frozen BK283.out 8
                       have hcz64_0 : wc.cell? ⟨gb294, 0, none⟩ = some (.int .i64 t284) := (blk_cell BK294.out 0).trans rfl
                       have hcz64_1 : wc.cell? ⟨gb294, 1, none⟩ = some (.int .i64 t285) := (blk_cell BK294.out 1).trans rfl
                       have hcz64_2 : wc.cell? ⟨gb294, 2, none⟩ = some (.int .i64 t286) := (blk_cell BK294.out 2).trans rfl
                       have hcz64_3 : wc.cell? ⟨gb294, 3, none⟩ = some (.int .i64 t287) := (blk_cell BK294.out 3).trans rfl
                       have hcz64_4 : wc.cell? ⟨gb294, 4, none⟩ = some (.int .i64 t288) := (blk_cell BK294.out 4).trans rfl
                       have hcz64_5 : wc.cell? ⟨gb294, 5, none⟩ = some (.int .i64 t289) := (blk_cell BK294.out 5).trans rfl
                       have hcz64_6 : wc.cell? ⟨gb294, 6, none⟩ = some (.int .i64 t290) := (blk_cell BK294.out 6).trans rfl
                       have hcz64_7 : wc.cell? ⟨gb294, 7, none⟩ = some (.int .i64 t291) := (blk_cell BK294.out 7).trans rfl
                       have hcz64_8 : wc.cell? ⟨gb294, 8, none⟩ = some (.int .i64 t292) := (blk_cell BK294.out 8).trans rfl
                       have hfz64_0 := blk_frozen BK294.out 0
                       have hfz64_1 := blk_frozen BK294.out 1
                       have hfz64_2 := blk_frozen BK294.out 2
                       have hfz64_3 := blk_frozen BK294.out 3
                       have hfz64_4 := blk_frozen BK294.out 4
                       have hfz64_5 := blk_frozen BK294.out 5
                       have hfz64_6 := blk_frozen BK294.out 6
                       have hfz64_7 := blk_frozen BK294.out 7
                       have hfz64_8 := blk_frozen BK294.out 8
                       go_wp2
                       go_ret
                       exact ⟨by first | rfl | (simp [errW_none, errW_some] <;> rfl) | (simp [*, errW_none, errW_some] <;> rfl), by repeat (first | (with_reducible first | exact HB.out | apply below_alloc | apply pw_below_drewN | apply below_drew1 | refine below_set ?_ GE283.out | refine below_set ?_ GE294.out) | exact HB.out)⟩
                     · rw [if_neg c61] at H
                       exact absurd H (by simp)
                 · rw [if_neg c56] at H
                   have c56b0 : (t275 == 1) = false := beq_eq_false_iff_ne.mpr c56
                   have c56b1 : (t275 != 1) = true := bne_iff_ne.mpr c56
                   by_cases c65 : t275 = 0
                   · rw [if_pos c65] at H
                     have c65b0 : (t275 == 0) = true := beq_iff_eq.mpr c65
                     have c65b1 : (t275 != 0) = false := bne_eq_false_iff_eq.mpr c65
                     clear c65
                     obtain rfl := Option.some.inj H
                     have hnb66 := NB283_294.out
                     have hnc66 := NB294_283.out
                     have hcz67_0 : wc.cell? ⟨gb283, 0, none⟩ = some (.int .i64 t273) := (blk_cell BK283.out 0).trans rfl
                     have hcz67_1 : wc.cell? ⟨gb283, 1, none⟩ = some (.int .i64 t274) := (blk_cell BK283.out 1).trans rfl
                     have hcz67_2 : wc.cell? ⟨gb283, 2, none⟩ = some (.int .i64 t275) := (blk_cell BK283.out 2).trans rfl
                     have hcz67_3 : wc.cell? ⟨gb283, 3, none⟩ = some (.int .i64 t276) := (blk_cell BK283.out 3).trans rfl
                     have hcz67_4 : wc.cell? ⟨gb283, 4, none⟩ = some (.int .i64 t277) := (blk_cell BK283.out 4).trans rfl
                     have hcz67_5 : wc.cell? ⟨gb283, 5, none⟩ = some (.int .i64 t278) := (blk_cell BK283.out 5).trans rfl
                     have hcz67_6 : wc.cell? ⟨gb283, 6, none⟩ = some (.int .i64 t279) := (blk_cell BK283.out 6).trans rfl
                     have hcz67_7 : wc.cell? ⟨gb283, 7, none⟩ = some (.int .i64 t280) := (blk_cell BK283.out 7).trans rfl
                     have hcz67_8 : wc.cell? ⟨gb283, 8, none⟩ = some (.int .i64 t281) := (blk_cell BK283.out 8).trans rfl
                     have hfz67_0 := blk_frozen BK283.out 0
                     have hfz67_1 := blk_frozen BK283.out 1
                     have hfz67_2 := blk_frozen BK283.out 2
                     have hfz67_3 := blk_frozen BK283.out 3
                     have hfz67_4 := blk_frozen BK283.out 4
                     have hfz67_5 := blk_frozen BK283.out 5
                     have hfz67_6 := blk_frozen BK283.out 6
                     have hfz67_7 := blk_frozen BK283.out 7
                     have hfz67_8 := blk_frozen BK283.out 8
                     have hcz68_0 : wc.cell? ⟨gb294, 0, none⟩ = some (.int .i64 t284) := (blk_cell BK294.out 0).trans rfl
                     have hcz68_1 : wc.cell? ⟨gb294, 1, none⟩ = some (.int .i64 t285) := (blk_cell BK294.out 1).trans rfl
                     have hcz68_2 : wc.cell? ⟨gb294, 2, none⟩ = some (.int .i64 t286) := (blk_cell BK294.out 2).trans rfl
                     have hcz68_3 : wc.cell? ⟨gb294, 3, none⟩ = some (.int .i64 t287) := (blk_cell BK294.out 3).trans rfl
                     have hcz68_4 : wc.cell? ⟨gb294, 4, none⟩ = some (.int .i64 t288) := (blk_cell BK294.out 4).trans rfl
                     have hcz68_5 : wc.cell? ⟨gb294, 5, none⟩ = some (.int .i64 t289) := (blk_cell BK294.out 5).trans rfl
                     have hcz68_6 : wc.cell? ⟨gb294, 6, none⟩ = some (.int .i64 t290) := (blk_cell BK294.out 6).trans rfl
                     have hcz68_7 : wc.cell? ⟨gb294, 7, none⟩ = some (.int .i64 t291) := (blk_cell BK294.out 7).trans rfl
                     have hcz68_8 : wc.cell? ⟨gb294, 8, none⟩ = some (.int .i64 t292) := (blk_cell BK294.out 8).trans rfl
                     have hfz68_0 := blk_frozen BK294.out 0
                     have hfz68_1 := blk_frozen BK294.out 1
                     have hfz68_2 := blk_frozen BK294.out 2
                     have hfz68_3 := blk_frozen BK294.out 3
                     have hfz68_4 := blk_frozen BK294.out 4
                     have hfz68_5 := blk_frozen BK294.out 5
                     have hfz68_6 := blk_frozen BK294.out 6
                     have hfz68_7 := blk_frozen BK294.out 7
                     have hfz68_8 := blk_frozen BK294.out 8
                     go_wp2
                     go_ret
                     exact ⟨by first | rfl | (simp [errW_none, errW_some] <;> rfl) | (simp [*, errW_none, errW_some] <;> rfl), by repeat (first | (with_reducible first | exact HB.out | apply below_alloc | apply pw_below_drewN | apply below_drew1 | refine below_set ?_ GE283.out | refine below_set ?_ GE294.out) | exact HB.out)⟩
                   · rw [if_neg c65] at H
                     exact absurd H (by simp)
               · rw [if_neg c55] at H
                 have c55b0 : (t275 == t286) = false := beq_eq_false_iff_ne.mpr c55
                 have c55b1 : (t275 != t286) = true := bne_iff_ne.mpr c55
                 by_cases c69 : t286 = 0
                 · rw [if_pos c69] at H
                   have c69b0 : (t286 == 0) = true := beq_iff_eq.mpr c69
                   have c69b1 : (t286 != 0) = false := bne_eq_false_iff_eq.mpr c69
                   clear c69
                   obtain rfl := Option.some.inj H
                   have hnb70 := NB283_294.out
                   have hnc70 := NB294_283.out
                   have hcz71_0 : wc.cell? ⟨gb283, 0, none⟩ = some (.int .i64 t273) := (blk_cell BK283.out 0).trans rfl
                   have hcz71_1 : wc.cell? ⟨gb283, 1, none⟩ = some (.int .i64 t274) := (blk_cell BK283.out 1).trans rfl
                   have hcz71_2 : wc.cell? ⟨gb283, 2, none⟩ = some (.int .i64 t275) := (blk_cell BK283.out 2).trans rfl
                   have hcz71_3 : wc.cell? ⟨gb283, 3, none⟩ = some (.int .i64 t276) := (blk_cell BK283.out 3).trans rfl
                   have hcz71_4 : wc.cell? ⟨gb283, 4, none⟩ = some (.int .i64 t277) := (blk_cell BK283.out 4).trans rfl
                   have hcz71_5 : wc.cell? ⟨gb283, 5, none⟩ = some (.int .i64 t278) := (blk_cell BK283.out 5).trans rfl
                   have hcz71_6 : wc.cell? ⟨gb283, 6, none⟩ = some (.int .i64 t279) := (blk_cell BK283.out 6).trans rfl
                   have hcz71_7 : wc.cell? ⟨gb283, 7, none⟩ = some (.int .i64 t280) := (blk_cell BK283.out 7).trans rfl
                   have hcz71_8 : wc.cell? ⟨gb283, 8, none⟩ = some (.int .i64 t281) := (blk_cell BK283.out 8).trans rfl
                   have hfz71_0 := blk_frozen BK283.out 0
                   have hfz71_1 := blk_frozen BK283.out 1
                   have hfz71_2 := blk_frozen BK283.out 2
                   have hfz71_3 := blk_frozen BK283.out 3
                   have hfz71_4 := blk_frozen BK283.out 4
                   have hfz71_5 := blk_frozen BK283.out 5
                   have hfz71_6 := blk_frozen BK283.out 6
                   have hfz71_7 := blk_frozen BK283.out 7
                   have hfz71_8 := blk_frozen BK283.out 8
                   have hcz72_0 : wc.cell? ⟨gb294, 0, none⟩ = some (.int .i64 t284) := (blk_cell BK294.out 0).trans rfl
                   have hcz72_1 : wc.cell? ⟨gb294, 1, none⟩ = some (.int .i64 t285) := (blk_cell BK294.out 1).trans rfl
                   have hcz72_2 : wc.cell? ⟨gb294, 2, none⟩ = some (.int .i64 t286) := (blk_cell BK294.out 2).trans rfl
                   have hcz72_3 : wc.cell? ⟨gb294, 3, none⟩ = some (.int .i64 t287) := (blk_cell BK294.out 3).trans rfl
                   have hcz72_4 : wc.cell? ⟨gb294, 4, none⟩ = some (.int .i64 t288) := (blk_cell BK294.out 4).trans rfl
                   have hcz72_5 : wc.cell? ⟨gb294, 5, none⟩ = some (.int .i64 t289) := (blk_cell BK294.out 5).trans rfl
                   have hcz72_6 : wc.cell? ⟨gb294, 6, none⟩ = some (.int .i64 t290) := (blk_cell BK294.out 6).trans rfl
                   have hcz72_7 : wc.cell? ⟨gb294, 7, none⟩ = some (.int .i64 t291) := (blk_cell BK294.out 7).trans rfl
                   have hcz72_8 : wc.cell? ⟨gb294, 8, none⟩ = some (.int .i64 t292) := (blk_cell BK294.out 8).trans rfl
                   have hfz72_0 := blk_frozen BK294.out 0
                   have hfz72_1 := blk_frozen BK294.out 1
                   have hfz72_2 := blk_frozen BK294.out 2
                   have hfz72_3 := blk_frozen BK294.out 3
                   have hfz72_4 := blk_frozen BK294.out 4
                   have hfz72_5 := blk_frozen BK294.out 5
                   have hfz72_6 := blk_frozen BK294.out 6
                   have hfz72_7 := blk_frozen BK294.out 7
                   have hfz72_8 := blk_frozen BK294.out 8
                   go_wp2
                   go_ret
                   exact ⟨by first | rfl | (simp [errW_none, errW_some] <;> rfl) | (simp [*, errW_none, errW_some] <;> rfl), by repeat (first | (with_reducible first | exact HB.out | apply below_alloc | apply pw_below_drewN | apply below_drew1 | refine below_set ?_ GE283.out | refine below_set ?_ GE294.out) | exact HB.out)⟩
                 · rw [if_neg c69] at H
                   have c69b0 : (t286 == 0) = false := beq_eq_false_iff_ne.mpr c69
                   have c69b1 : (t286 != 0) = true := bne_iff_ne.mpr c69
                   obtain rfl := Option.some.inj H
                   have hnb73 := NB283_294.out
                   have hnc73 := NB294_283.out
                   have hcz74_0 : wc.cell? ⟨gb283, 0, none⟩ = some (.int .i64 t273) := (blk_cell BK283.out 0).trans rfl
                   have hcz74_1 : wc.cell? ⟨gb283, 1, none⟩ = some (.int .i64 t274) := (blk_cell BK283.out 1).trans rfl
                   have hcz74_2 : wc.cell? ⟨gb283, 2, none⟩ = some (.int .i64 t275) := (blk_cell BK283.out 2).trans rfl
                   have hcz74_3 : wc.cell? ⟨gb283, 3, none⟩ = some (.int .i64 t276) := (blk_cell BK283.out 3).trans rfl
                   have hcz74_4 : wc.cell? ⟨gb283, 4, none⟩ = some (.int .i64 t277) := (blk_cell BK283.out 4).trans rfl
                   have hcz74_5 : wc.cell? ⟨gb283, 5, none⟩ = some (.int .i64 t278) := (blk_cell BK283.out 5).trans rfl
                   have hcz74_6 : wc.cell? ⟨gb283, 6, none⟩ = some (.int .i64 t279) := (blk_cell BK283.out 6).trans rfl
                   have hcz74_7 : wc.cell? ⟨gb283, 7, none⟩ = some (.int .i64 t280) := (blk_cell BK283.out 7).trans rfl
                   have hcz74_8 : wc.cell? ⟨gb283, 8, none⟩ = some (.int .i64 t281) := (blk_cell BK283.out 8).trans rfl
                   have hfz74_0 := blk_frozen BK283.out 0
                   have hfz74_1 := blk_frozen BK283.out 1
                   have hfz74_2 := blk_frozen BK283.out 2
                   have hfz74_3 := blk_frozen BK283.out 3
                   have hfz74_4 := blk_frozen BK283.out 4
                   have hfz74_5 := blk_frozen BK283.out 5
                   have hfz74_6 := blk_frozen BK283.out 6
                   have hfz74_7 := blk_frozen BK283.out 7
                   have hfz74_8 := blk_frozen BK283.out 8
                   have hcz75_0 : wc.cell? ⟨gb294, 0, none⟩ = some (.int .i64 t284) := (blk_cell BK294.out 0).trans rfl
                   have hcz75_1 : wc.cell? ⟨gb294, 1, none⟩ = some (.int .i64 t285) := (blk_cell BK294.out 1).trans rfl
                   have hcz75_2 : wc.cell? ⟨gb294, 2, none⟩ = some (.int .i64 t286) := (blk_cell BK294.out 2).trans rfl
                   have hcz75_3 : wc.cell? ⟨gb294, 3, none⟩ = some (.int .i64 t287) := (blk_cell BK294.out 3).trans rfl
                   have hcz75_4 : wc.cell? ⟨gb294, 4, none⟩ = some (.int .i64 t288) := (blk_cell BK294.out 4).trans rfl
                   have hcz75_5 : wc.cell? ⟨gb294, 5, none⟩ = some (.int .i64 t289) := (blk_cell BK294.out 5).trans rfl
                   have hcz75_6 : wc.cell? ⟨gb294, 6, none⟩ = some (.int .i64 t290) := (blk_cell BK294.out 6).trans rfl
                   have hcz75_7 : wc.cell? ⟨gb294, 7, none⟩ = some (.int .i64 t291) := (blk_cell BK294.out 7).trans rfl
                   have hcz75_8 : wc.cell? ⟨gb294, 8, none⟩ = some (.int .i64 t292) := (blk_cell BK294.out 8).trans rfl
                   have hfz75_0 := blk_frozen BK294.out 0
                   have hfz75_1 := blk_frozen BK294.out 1
                   have hfz75_2 := blk_frozen BK294.out 2
                   have hfz75_3 := blk_frozen BK294.out 3
                   have hfz75_4 := blk_frozen BK294.out 4
                   have hfz75_5 := blk_frozen BK294.out 5
                   have hfz75_6 := blk_frozen BK294.out 6
                   have hfz75_7 := blk_frozen BK294.out 7
                   have hfz75_8 := blk_frozen BK294.out 8
                   go_wp2
                   go_ret
                   exact ⟨by first | rfl | (simp [errW_none, errW_some] <;> rfl) | (simp [*, errW_none, errW_some] <;> rfl), by repeat (first | (with_reducible first | exact HB.out | apply below_alloc | apply pw_below_drewN | apply below_drew1 | refine below_set ?_ GE283.out | refine below_set ?_ GE294.out) | exact HB.out)⟩
             · rw [if_neg c54] at H
               have c54b0 : (t274 == t285) = false := beq_eq_false_iff_ne.mpr c54
               have c54b1 : (t274 != t285) = true := bne_iff_ne.mpr c54
               by_cases c76 : t286 = 0
               · rw [if_pos c76] at H
                 have c76b0 : (t286 == 0) = true := beq_iff_eq.mpr c76
                 have c76b1 : (t286 != 0) = false := bne_eq_false_iff_eq.mpr c76
                 clear c76
                 obtain rfl := Option.some.inj H
                 have hnb77 := NB283_294.out
                 have hnc77 := NB294_283.out
                 have hcz78_0 : wc.cell? ⟨gb283, 0, none⟩ = some (.int .i64 t273) := (blk_cell BK283.out 0).trans rfl
                 have hcz78_1 : wc.cell? ⟨gb283, 1, none⟩ = some (.int .i64 t274) := (blk_cell BK283.out 1).trans rfl
                 have hcz78_2 : wc.cell? ⟨gb283, 2, none⟩ = some (.int .i64 t275) := (blk_cell BK283.out 2).trans rfl
                 have hcz78_3 : wc.cell? ⟨gb283, 3, none⟩ = some (.int .i64 t276) := (blk_cell BK283.out 3).trans rfl
                 have hcz78_4 : wc.cell? ⟨gb283, 4, none⟩ = some (.int .i64 t277) := (blk_cell BK283.out 4).trans rfl
                 have hcz78_5 : wc.cell? ⟨gb283, 5, none⟩ = some (.int .i64 t278) := (blk_cell BK283.out 5).trans rfl
                 have hcz78_6 : wc.cell? ⟨gb283, 6, none⟩ = some (.int .i64 t279) := (blk_cell BK283.out 6).trans rfl
                 have hcz78_7 : wc.cell? ⟨gb283, 7, none⟩ = some (.int .i64 t280) := (blk_cell BK283.out 7).trans rfl
                 have hcz78_8 : wc.cell? ⟨gb283, 8, none⟩ = some (.int .i64 t281) := (blk_cell BK283.out 8).trans rfl
                 have hfz78_0 := blk_frozen BK283.out 0
                 have hfz78_1 := blk_frozen BK283.out 1
                 have hfz78_2 := blk_frozen BK283.out 2
                 have hfz78_3 := blk_frozen BK283.out 3
                 have hfz78_4 := blk_frozen BK283.out 4
                 have hfz78_5 := blk_frozen BK283.out 5
                 have hfz78_6 := blk_frozen BK283.out 6
                 have hfz78_7 := blk_frozen BK283.out 7
                 have hfz78_8 := blk_frozen BK283.out 8
                 have hcz79_0 : wc.cell? ⟨gb294, 0, none⟩ = some (.int .i64 t284) := (blk_cell BK294.out 0).trans rfl
                 have hcz79_1 : wc.cell? ⟨gb294, 1, none⟩ = some (.int .i64 t285) := (blk_cell BK294.out 1).trans rfl
                 have hcz79_2 : wc.cell? ⟨gb294, 2, none⟩ = some (.int .i64 t286) := (blk_cell BK294.out 2).trans rfl
                 have hcz79_3 : wc.cell? ⟨gb294, 3, none⟩ = some (.int .i64 t287) := (blk_cell BK294.out 3).trans rfl
                 have hcz79_4 : wc.cell? ⟨gb294, 4, none⟩ = some (.int .i64 t288) := (blk_cell BK294.out 4).trans rfl
                 have hcz79_5 : wc.cell? ⟨gb294, 5, none⟩ = some (.int .i64 t289) := (blk_cell BK294.out 5).trans rfl
                 have hcz79_6 : wc.cell? ⟨gb294, 6, none⟩ = some (.int .i64 t290) := (blk_cell BK294.out 6).trans rfl
                 have hcz79_7 : wc.cell? ⟨gb294, 7, none⟩ = some (.int .i64 t291) := (blk_cell BK294.out 7).trans rfl
                 have hcz79_8 : wc.cell? ⟨gb294, 8, none⟩ = some (.int .i64 t292) := (blk_cell BK294.out 8).trans rfl
                 have hfz79_0 := blk_frozen BK294.out 0
                 have hfz79_1 := blk_frozen BK294.out 1
                 have hfz79_2 := blk_frozen BK294.out 2
                 have hfz79_3 := blk_frozen BK294.out 3
                 have hfz79_4 := blk_frozen BK294.out 4
                 have hfz79_5 := blk_frozen BK294.out 5
                 have hfz79_6 := blk_frozen BK294.out 6
                 have hfz79_7 := blk_frozen BK294.out 7
                 have hfz79_8 := blk_frozen BK294.out 8
                 go_wp2
                 go_ret
                 exact ⟨by first | rfl | (simp [errW_none, errW_some] <;> rfl) | (simp [*, errW_none, errW_some] <;> rfl), by repeat (first | (with_reducible first | exact HB.out | apply below_alloc | apply pw_below_drewN | apply below_drew1 | refine below_set ?_ GE283.out | refine below_set ?_ GE294.out) | exact HB.out)⟩
               · rw [if_neg c76] at H
                 have c76b0 : (t286 == 0) = false := beq_eq_false_iff_ne.mpr c76
                 have c76b1 : (t286 != 0) = true := bne_iff_ne.mpr c76
                 obtain rfl := Option.some.inj H
                 have hnb80 := NB283_294.out
                 have hnc80 := NB294_283.out
                 have hcz81_0 : wc.cell? ⟨gb283, 0, none⟩ = some (.int .i64 t273) := (blk_cell BK283.out 0).trans rfl
                 have hcz81_1 : wc.cell? ⟨gb283, 1, none⟩ = some (.int .i64 t274) := (blk_cell BK283.out 1).trans rfl
                 have hcz81_2 : wc.cell? ⟨gb283, 2, none⟩ = some (.int .i64 t275) := (blk_cell BK283.out 2).trans rfl
                 have hcz81_3 : wc.cell? ⟨gb283, 3, none⟩ = some (.int .i64 t276) := (blk_cell BK283.out 3).trans rfl
                 have hcz81_4 : wc.cell? ⟨gb283, 4, none⟩ = some (.int .i64 t277) := (blk_cell BK283.out 4).trans rfl
                 have hcz81_5 : wc.cell? ⟨gb283, 5, none⟩ = some (.int .i64 t278) := (blk_cell BK283.out 5).trans rfl
                 have hcz81_6 : wc.cell? ⟨gb283, 6, none⟩ = some (.int .i64 t279) := (blk_cell BK283.out 6).trans rfl
                 have hcz81_7 : wc.cell? ⟨gb283, 7, none⟩ = some (.int .i64 t280) := (blk_cell BK283.out 7).trans rfl
                 have hcz81_8 : wc.cell? ⟨gb283, 8, none⟩ = some (.int .i64 t281) := (blk_cell BK283.out 8).trans rfl
                 have hfz81_0 := blk_frozen BK283.out 0
                 have hfz81_1 := blk_frozen BK283.out 1
                 have hfz81_2 := blk_frozen BK283.out 2
                 have hfz81_3 := blk_frozen BK283.out 3
                 have hfz81_4 := blk_frozen BK283.out 4
                 have hfz81_5 := blk_frozen BK283.out 5
                 have hfz81_6 := blk_frozen BK283.out 6
                 have hfz81_7 := blk_frozen BK283.out 7
                 have hfz81_8 := blk_frozen BK283.out 8
                 have hcz82_0 : wc.cell? ⟨gb294, 0, none⟩ = some (.int .i64 t284) := (blk_cell BK294.out 0).trans rfl
                 have hcz82_1 : wc.cell? ⟨gb294, 1, none⟩ = some (.int .i64 t285) := (blk_cell BK294.out 1).trans rfl
                 have hcz82_2 : wc.cell? ⟨gb294, 2, none⟩ = some (.int .i64 t286) := (blk_cell BK294.out 2).trans rfl
                 have hcz82_3 : wc.cell? ⟨gb294, 3, none⟩ = some (.int .i64 t287) := (blk_cell BK294.out 3).trans rfl
                 have hcz82_4 : wc.cell? ⟨gb294, 4, none⟩ = some (.int .i64 t288) := (blk_cell BK294.out 4).trans rfl
                 have hcz82_5 : wc.cell? ⟨gb294, 5, none⟩ = some (.int .i64 t289) := (blk_cell BK294.out 5).trans rfl
                 have hcz82_6 : wc.cell? ⟨gb294, 6, none⟩ = some (.int .i64 t290) := (blk_cell BK294.out 6).trans rfl
                 have hcz82_7 : wc.cell? ⟨gb294, 7, none⟩ = some (.int .i64 t291) := (blk_cell BK294.out 7).trans rfl
                 have hcz82_8 : wc.cell? ⟨gb294, 8, none⟩ = some (.int .i64 t292) := (blk_cell BK294.out 8).trans rfl
                 have hfz82_0 := blk_frozen BK294.out 0
                 have hfz82_1 := blk_frozen BK294.out 1
                 have hfz82_2 := blk_frozen BK294.out 2
                 have hfz82_3 := blk_frozen BK294.out 3
                 have hfz82_4 := blk_frozen BK294.out 4
                 have hfz82_5 := blk_frozen BK294.out 5
                 have hfz82_6 := blk_frozen BK294.out 6
                 have hfz82_7 := blk_frozen BK294.out 7
                 have hfz82_8 := blk_frozen BK294.out 8
                 go_wp2
                 go_ret
                 exact ⟨by first | rfl | (simp [errW_none, errW_some] <;> rfl) | (simp [*, errW_none, errW_some] <;> rfl), by repeat (first | (with_reducible first | exact HB.out | apply below_alloc | apply pw_below_drewN | apply below_drew1 | refine below_set ?_ GE283.out | refine below_set ?_ GE294.out) | exact HB.out)⟩
 · replace c5 := Bool.eq_false_iff.mpr c5
   subst c5
   have H1 : (none) = some r := by rw [if_neg (show ¬ (false = true) by decide)] at H; exact H
   clear H
   have H := H1
   clear H1
   exact absurd H (by simp)
end Go.Proofs.Ytpmkibggmkibeaa.G
namespace Go.Proofs.Ytpmkibggmkibeaa.G
open Go.RowKit Go.Proofs.YtpmkibggmkibeaaW.PrintWords Go.Proofs.YtpmkibggmkibeaaW.PrintLast Go.Proofs.YtpmkibggmkibeaaW.PrintMore
set_option linter.unusedVariables false
theorem counts_pair {c a2 t1 p1 n1 t2 p2 n2 : Int} (hc0 : 0 ≤ c) (hc : c ≤ 15) (h0 : 0 ≤ a2) (h1 : a2 + 1 ≤ 449849) (ht : 0 ≤ t1 ∧ t1 ≤ 99 ∨ t1 = 170) (hp : 0 ≤ p1 ∧ p1 ≤ 1) (hn1 : 0 ≤ n1 ∧ n1 ≤ 449849) (hn2 : 0 ≤ n2 ∧ n2 ≤ 449849)
 (h : if t1 = t2 ∧ p1 = p2 then (p1 = 1 ∧ n2 - n1 = 1 ∨ p1 = 0 ∧ n2 - n1 = -1) else (p2 = 0 ∨ n2 = 0)) :
 masterdisclaw10_SubchannelCounts.j0 3 a2 0 0 false c t1 p1 (msfM (n1 - 150)) (msfS (n1 - 150)) (msfF (n1 - 150)) (msfM a2) (msfS a2) (msfF a2) c t2 p2 (msfM (n2 - 150)) (msfS (n2 - 150)) (msfF (n2 - 150)) (msfM (a2 + 1)) (msfS (a2 + 1)) (msfF (a2 + 1)) = some true := by
 obtain ⟨s, he, -⟩ := encode_ok (c := c) (t := t1) (p := p1) (by omega) (by omega) (by omega) (by omega) (valid_track hc0 hc ht hp.1 (by omega) (msf_valid (n := n1 - 150) (by omega) (by omega)) (msf_valid (n := a2) (by omega) (by omega))) (msf_valid (n := n1 - 150) (by omega) (by omega)) (msf_valid (n := a2) (by omega) (by omega))
 simp only [masterdisclaw10_SubchannelCounts.j0]
 rw [if_neg (by decide), toLBA_msf (by omega) (by omega), distance_msf (by omega) (by omega) (by omega) (by omega), distance_msf (by omega) (by omega) (by omega) (by omega)]
 simp only [Option.bind_some]
 rw [he]
 simp only [Option.bind_some]
 rw [if_pos trivial, if_pos trivial, if_pos trivial, if_pos (by omega), if_pos trivial]
 simp only [masterdisclaw10_SubchannelCounts.j1]
 rw [if_neg (by decide)]
 by_cases e1 : t1 = t2
 · rw [if_pos e1]
   by_cases e2 : p1 = p2
   · rw [if_pos e2]
     rw [if_pos ⟨e1, e2⟩] at h
     rcases h with ⟨h3, h4⟩ | ⟨h3, h4⟩
     · rw [if_pos h3, if_pos (by omega)]
     · rw [if_neg (by omega), if_pos h3]
       rw [show n2 - 150 - (n1 - 150) = -1 by omega]
       rfl
   · rw [if_neg e2]
     rw [if_neg (fun q => e2 q.2)] at h
     by_cases e3 : p2 = 0
     · rw [if_pos e3]
     · rw [if_neg e3]
       have : n2 = 0 := by omega
       subst this
       rfl
 · rw [if_neg e1]
   rw [if_neg (fun q => e1 q.1)] at h
   by_cases e3 : p2 = 0
   · rw [if_pos e3]
   · rw [if_neg e3]
     have : n2 = 0 := by omega
     subst this
     rfl
theorem ends_rise {l : List (S53)} (hs : Ses l) (i : Nat) : ∀ j, i ≤ j → j < l.length → (rd_T53 l (i : Int)).f2 + (rd_T53 l (i : Int)).f3 ≤ (rd_T53 l (j : Int)).f2 + (rd_T53 l (j : Int)).f3 := by
 intro j
 induction j with
 | zero =>
  intro h1 h2
  have : i = 0 := by omega
  subst this
  exact Int.le_refl _
 | succ j ih =>
  intro h1 h2
  by_cases e : i = j + 1
  · subst e; exact Int.le_refl _
  · have a := ih (by omega) (by omega)
    have b := hs.behind (j + 1) (by omega) h2
    have c := hs.len (j + 1) h2
    rw [show (((j + 1 : Nat) : Int) - 1) = (j : Int) by omega] at b
    omega
theorem progI_at {l : List (S53)} (hs : Ses l) (lba : Int) (j : Nat) (hj : j < l.length) (h1 : lba < (rd_T53 l (j : Int)).f2 + (rd_T53 l (j : Int)).f3) (h2 : ∀ k : Nat, k < j → (rd_T53 l (k : Int)).f2 + (rd_T53 l (k : Int)).f3 ≤ lba) : progI l lba = (j : Int) := by
 rcases progI_cases hs lba with ⟨hi, hge⟩ | ⟨i, hi, hil, hlt, hbe⟩
 · exfalso
   have := ends_rise hs j (l.length - 1) (by omega) (by have := hs.one; omega)
   rw [show ((l.length - 1 : Nat) : Int) = (l.length : Int) - 1 by have := hs.one; omega] at this
   unfold lastE at hge
   omega
 · have : i = j := by
    rcases Nat.lt_trichotomy i j with h | h | h
    · have := h2 i h; omega
    · exact h
    · have := hbe j h; omega
   rw [hi, this]
theorem progI_out {l : List (S53)} (hs : Ses l) (lba : Int) (h : lastE l ≤ lba) : progI l lba = -1 := by
 rcases progI_cases hs lba with ⟨hi, hge⟩ | ⟨i, hi, hil, hlt, hbe⟩
 · exact hi
 · exfalso
   have := ends_rise hs i (l.length - 1) (by omega) (by have := hs.one; omega)
   rw [show ((l.length - 1 : Nat) : Int) = (l.length : Int) - 1 by have := hs.one; omega] at this
   unfold lastE at h
   omega
theorem lastE_le {l : List (S53)} (hs : Ses l) : 1 ≤ lastE l ∧ lastE l ≤ 449849 := by
 have h1 := hs.one
 have hst := hs.start (l.length - 1) (by omega)
 have hle := hs.len (l.length - 1) (by omega)
 rw [show ((l.length - 1 : Nat) : Int) = (l.length : Int) - 1 by omega] at hst hle
 unfold lastE
 omega
def progT (l : List (S53)) (lba : Int) : Int × Int × Int :=
 if progI l lba < 0 then (170, 1, lba - lastE l)
 else if lba < (rd_T53 l (progI l lba)).f2 then ((rd_T53 l (progI l lba)).f0, 0, (rd_T53 l (progI l lba)).f2 - lba)
 else ((rd_T53 l (progI l lba)).f0, 1, lba - (rd_T53 l (progI l lba)).f2)
theorem program_in_eq {l : List (S53)} {a1 a2 : Int} (h : sesB l = true ∧ 0 ≤ a1 ∧ a1 ≤ 15) (h2 : 0 ≤ a2 ∧ a2 ≤ 449849) : subchannel_Program.f l a1 a2 = some (relOf a1 (progT l a2).1 (progT l a2).2.1 (progT l a2).2.2 (msfM a2) (msfS a2) (msfF a2)) := by
 unfold subchannel_Program.f progT
 rw [if_pos h, if_pos h2]
 by_cases c1 : progI l a2 < 0
 · rw [if_pos c1, if_pos c1]
 · rw [if_neg c1, if_neg c1]
   by_cases c2 : a2 < (rd_T53 l (progI l a2)).f2
   · rw [if_pos c2, if_pos c2]
   · rw [if_neg c2, if_neg c2]
theorem progT_out {l : List (S53)} (hs : Ses l) {a : Int} (h : lastE l ≤ a) : progT l a = (170, 1, a - lastE l) := by
 unfold progT
 rw [progI_out hs a h, if_pos (by decide)]
theorem progT_gap {l : List (S53)} {a : Int} {j : Nat} (hi : progI l a = (j : Int)) (h : a < (rd_T53 l (j : Int)).f2) : progT l a = ((rd_T53 l (j : Int)).f0, 0, (rd_T53 l (j : Int)).f2 - a) := by
 unfold progT
 rw [hi, if_neg (by omega), if_pos h]
theorem progT_track {l : List (S53)} {a : Int} {j : Nat} (hi : progI l a = (j : Int)) (h : (rd_T53 l (j : Int)).f2 ≤ a) : progT l a = ((rd_T53 l (j : Int)).f0, 1, a - (rd_T53 l (j : Int)).f2) := by
 unfold progT
 rw [hi, if_neg (by omega), if_neg (by omega)]
theorem counts_next {l : List (S53)} (hs : Ses l) {a : Int} (h0 : 0 ≤ a) (h1 : a + 1 ≤ 449849) :
 (0 ≤ (progT l a).1 ∧ (progT l a).1 ≤ 99 ∨ (progT l a).1 = 170) ∧ (0 ≤ (progT l a).2.1 ∧ (progT l a).2.1 ≤ 1) ∧ (0 ≤ (progT l a).2.2 ∧ (progT l a).2.2 ≤ 449849) ∧ (0 ≤ (progT l (a + 1)).2.2 ∧ (progT l (a + 1)).2.2 ≤ 449849) ∧
  (if (progT l a).1 = (progT l (a + 1)).1 ∧ (progT l a).2.1 = (progT l (a + 1)).2.1 then ((progT l a).2.1 = 1 ∧ (progT l (a + 1)).2.2 - (progT l a).2.2 = 1 ∨ (progT l a).2.1 = 0 ∧ (progT l (a + 1)).2.2 - (progT l a).2.2 = -1) else ((progT l (a + 1)).2.1 = 0 ∨ (progT l (a + 1)).2.2 = 0)) := by
 have hL := lastE_le hs
 rcases progI_cases hs a with ⟨hi, hge⟩ | ⟨j, hi, hj, hlt, hbe⟩
 · rw [progT_out hs hge, progT_out hs (a := a + 1) (by omega)]
   dsimp only
   refine ⟨Or.inr rfl, by omega, by omega, by omega, ?_⟩
   rw [if_pos ⟨rfl, rfl⟩]
   exact Or.inl ⟨rfl, by omega⟩
 · have hn := hs.num j hj
   have hst := hs.start j hj
   have hle := hs.len j hj
   by_cases hg : a < (rd_T53 l (j : Int)).f2
   · have hi2 : progI l (a + 1) = (j : Int) := progI_at hs (a + 1) j hj (by omega) (fun k hk => by have := hbe k hk; omega)
     rw [progT_gap hi hg]
     by_cases hg2 : a + 1 < (rd_T53 l (j : Int)).f2
     · rw [progT_gap hi2 hg2]
       dsimp only
       refine ⟨Or.inl (by omega), by omega, by omega, by omega, ?_⟩
       rw [if_pos ⟨rfl, rfl⟩]
       exact Or.inr ⟨rfl, by omega⟩
     · rw [progT_track hi2 (by omega)]
       dsimp only
       refine ⟨Or.inl (by omega), by omega, by omega, by omega, ?_⟩
       rw [if_neg (fun q => by have := q.2; omega)]
       exact Or.inr (by omega)
   · rw [progT_track hi (by omega)]
     by_cases he : a + 1 < (rd_T53 l (j : Int)).f2 + (rd_T53 l (j : Int)).f3
     · have hi2 : progI l (a + 1) = (j : Int) := progI_at hs (a + 1) j hj he (fun k hk => by have := hbe k hk; omega)
       rw [progT_track hi2 (by omega)]
       dsimp only
       refine ⟨Or.inl (by omega), by omega, by omega, by omega, ?_⟩
       rw [if_pos ⟨rfl, rfl⟩]
       exact Or.inl ⟨rfl, by omega⟩
     · by_cases hj2 : j + 1 < l.length
       · have hb := hs.behind (j + 1) (by omega) hj2
         have hx := hs.next (j + 1) (by omega) hj2
         have hst2 := hs.start (j + 1) hj2
         have hle2 := hs.len (j + 1) hj2
         rw [show (((j + 1 : Nat) : Int) - 1) = (j : Int) by omega] at hb hx
         have hi2 : progI l (a + 1) = ((j + 1 : Nat) : Int) := progI_at hs (a + 1) (j + 1) hj2 (by omega) (fun k hk => by
          by_cases e : k = j
          · subst e; omega
          · have := hbe k (by omega); omega)
         by_cases hg2 : a + 1 < (rd_T53 l ((j + 1 : Nat) : Int)).f2
         · rw [progT_gap hi2 hg2]
           dsimp only
           refine ⟨Or.inl (by omega), by omega, by omega, by omega, ?_⟩
           rw [if_neg (fun q => by have := q.2; omega)]
           exact Or.inl rfl
         · rw [progT_track hi2 (by omega)]
           dsimp only
           refine ⟨Or.inl (by omega), by omega, by omega, by omega, ?_⟩
           rw [if_neg (fun q => by have := q.1; omega)]
           exact Or.inr (by omega)
       · have ee : lastE l = (rd_T53 l (j : Int)).f2 + (rd_T53 l (j : Int)).f3 := by
          unfold lastE
          rw [show (l.length : Int) - 1 = (j : Int) by omega]
         rw [progT_out hs (a := a + 1) (by omega)]
         dsimp only
         refine ⟨Or.inl (by omega), by omega, by omega, by omega, ?_⟩
         rw [if_neg (fun q => by have := q.1; omega)]
         exact Or.inr (by omega)
theorem pure_SubchannelCounts (l : List (S53)) (a1 a2 : Int) : ∃ k, masterdisclaw10_SubchannelCounts.f k l a1 a2 = some true := by
 refine ⟨3, ?_⟩
 unfold masterdisclaw10_SubchannelCounts.f
 rw [awake_plain]
 simp only [Option.bind_some]
 rw [if_pos trivial]
 by_cases hl : (l.length : Int) > 120
 · rw [if_pos hl]
 rw [if_neg hl]
 by_cases h : sesB l = true ∧ 0 ≤ a1 ∧ a1 ≤ 15
 case neg =>
  have e : ∀ x, subchannel_Program.f l a1 x = some (0, 0, 0, 0, 0, 0, 0, 0, 0, 1) := fun x => by unfold subchannel_Program.f; rw [if_neg h]
  rw [e, e]
  rfl
 have hz : ∀ x, ¬ (0 ≤ x ∧ x ≤ 449849) → subchannel_Program.f l a1 x = some (0, 0, 0, 0, 0, 0, 0, 0, 0, 2) := fun x hx => by unfold subchannel_Program.f; rw [if_pos h, if_neg hx]
 have hs := ses_of h.1
 by_cases h2 : 0 ≤ a2 ∧ a2 ≤ 449849
 case neg =>
  rw [hz a2 h2]
  by_cases h3 : 0 ≤ wrap64 (a2 + 1) ∧ wrap64 (a2 + 1) ≤ 449849
  · rw [program_in_eq h h3]
    rfl
  · rw [hz _ h3]
    rfl
 rw [show wrap64 (a2 + 1) = a2 + 1 by unfold wrap64; omega, program_in_eq h h2]
 by_cases h3 : 0 ≤ a2 + 1 ∧ a2 + 1 ≤ 449849
 case neg =>
  rw [hz _ h3]
  rfl
 rw [program_in_eq h h3]
 obtain ⟨ht, hp, hn1, hn2, hh⟩ := counts_next hs (a := a2) h2.1 h3.2
 simp only [Option.bind_some, relOf]
 rw [if_pos trivial]
 exact counts_pair h.2.1 h.2.2 h2.1 h3.2 ht hp hn1 hn2 hh
end Go.Proofs.Ytpmkibggmkibeaa.G
namespace Go.Proofs.Ytpmkibggmkibeaa.G
open Go.RowKit Go.Proofs.YtpmkibggmkibeaaW.PrintWords Go.Proofs.YtpmkibggmkibeaaW.PrintLast Go.Proofs.YtpmkibggmkibeaaW.PrintMore
open Go.ChangeShapes Go.WideShapes Go.Deep
set_option linter.unusedVariables false
set_option maxRecDepth 100000 in
theorem track_cells {H : Type} {enc : TypeId × Value → H} {W : World} {base n : Nat} {spare : Nat → Bool} {held : Bool} {a : Addr} {cs : List Value} {x : DataW H × List MemPlace}
 (hc : W.cells? base a (Try.prog.cellsOf 53) = some cs) (h : DataW.trod enc Try.prog W base spare held n 53 cs = some x) :
 ∃ s : S53, ∀ (q : Nat) (v : Value), [Value.int .i64 s.f0, .int .i64 s.f1, .int .i64 s.f2, .int .i64 s.f3, .int .i64 s.f4, .int .i64 s.f5, .int .i64 s.f6][q]? = some v → W.cell? (a.add q) = some v := by
 have h7 : Try.prog.cellsOf 53 = 7 := by kernel_rfl
 have h1 : Try.prog.cellsOf 3 = 1 := by kernel_rfl
 obtain ⟨-, hl, hat⟩ := World.cells?_some hc
 obtain ⟨xs, m, -, -, -, hx, hf⟩ := DataW.trod_struct Try.underlying53 h
 rw [h7] at hl hat
 match cs, hl, xs, hx with
 | [c0, c1, c2, c3, c4, c5, c6], _, [y0, y1, y2, y3, y4, y5, y6], _ =>
  have t0 : DataW.trod enc Try.prog W base spare held m 3 (([c0, c1, c2, c3, c4, c5, c6].drop 0).take (Try.prog.cellsOf 3)) = some y0 := hf 0 _ rfl
  have t1 : DataW.trod enc Try.prog W base spare held m 3 (([c0, c1, c2, c3, c4, c5, c6].drop 1).take (Try.prog.cellsOf 3)) = some y1 := hf 1 _ rfl
  have t2 : DataW.trod enc Try.prog W base spare held m 3 (([c0, c1, c2, c3, c4, c5, c6].drop 2).take (Try.prog.cellsOf 3)) = some y2 := hf 2 _ rfl
  have t3 : DataW.trod enc Try.prog W base spare held m 3 (([c0, c1, c2, c3, c4, c5, c6].drop 3).take (Try.prog.cellsOf 3)) = some y3 := hf 3 _ rfl
  have t4 : DataW.trod enc Try.prog W base spare held m 3 (([c0, c1, c2, c3, c4, c5, c6].drop 4).take (Try.prog.cellsOf 3)) = some y4 := hf 4 _ rfl
  have t5 : DataW.trod enc Try.prog W base spare held m 3 (([c0, c1, c2, c3, c4, c5, c6].drop 5).take (Try.prog.cellsOf 3)) = some y5 := hf 5 _ rfl
  have t6 : DataW.trod enc Try.prog W base spare held m 3 (([c0, c1, c2, c3, c4, c5, c6].drop 6).take (Try.prog.cellsOf 3)) = some y6 := hf 6 _ rfl
  rw [h1] at t0
  obtain ⟨n0, e0, -, -⟩ := DataW.trod_int Try.underlying3 t0
  rw [h1] at t1
  obtain ⟨n1, e1, -, -⟩ := DataW.trod_int Try.underlying3 t1
  rw [h1] at t2
  obtain ⟨n2, e2, -, -⟩ := DataW.trod_int Try.underlying3 t2
  rw [h1] at t3
  obtain ⟨n3, e3, -, -⟩ := DataW.trod_int Try.underlying3 t3
  rw [h1] at t4
  obtain ⟨n4, e4, -, -⟩ := DataW.trod_int Try.underlying3 t4
  rw [h1] at t5
  obtain ⟨n5, e5, -, -⟩ := DataW.trod_int Try.underlying3 t5
  rw [h1] at t6
  obtain ⟨n6, e6, -, -⟩ := DataW.trod_int Try.underlying3 t6
  obtain rfl : c0 = .int .i64 n0 := by injection e0
  obtain rfl : c1 = .int .i64 n1 := by injection e1
  obtain rfl : c2 = .int .i64 n2 := by injection e2
  obtain rfl : c3 = .int .i64 n3 := by injection e3
  obtain rfl : c4 = .int .i64 n4 := by injection e4
  obtain rfl : c5 = .int .i64 n5 := by injection e5
  obtain rfl : c6 = .int .i64 n6 := by injection e6
  refine ⟨⟨n0, n1, n2, n3, n4, n5, n6⟩, fun q v hq => ?_⟩
  have hq7 : q < 7 := by
   have := (List.getElem?_eq_some_iff.1 hq).1
   simpa using this
  rw [hat q hq7]
  exact hq
set_option maxRecDepth 100000 in
theorem open_tracks {H : Type} {enc : TypeId × Value → H} {W : World} {base : Nat} {spare : Nat → Bool} {held : Bool} {n : Nat} {u : Value} {y : DataW H × List MemPlace} (h : DataW.trod enc Try.prog W base spare held n 22 [u] = some y) :
 ∃ (A : Option Addr) (c : Nat) (l : List S53), u = .slice A l.length c ∧ l.length ≤ c ∧ l.length ≤ 9223372036854775807 ∧ Kd.C k53 W A l.length l := by
 rcases open_slice Try.underlying22 h with ⟨hc, -⟩ | ⟨a, len, cap, m, n, D, Pl, hc, -, hl, hm, hmm, -, hi⟩
 · obtain rfl : u = .slice none 0 0 := by injection hc
   exact ⟨none, 0, [], rfl, Nat.le_refl _, Nat.zero_le _, rfl, Nat.zero_le _, fun h => absurd h (Nat.lt_irrefl _)⟩
 · obtain rfl : u = .slice (some a) len cap := by injection hc
   have hlm : len ≤ m := by rw [hmm]; split <;> omega
   have h7 : Try.prog.cellsOf 53 = 7 := by kernel_rfl
   have hx : ∀ i, ∃ s : S53, i < len → ∀ (q : Nat) (v : Value), [Value.int .i64 s.f0, .int .i64 s.f1, .int .i64 s.f2, .int .i64 s.f3, .int .i64 s.f4, .int .i64 s.f5, .int .i64 s.f6][q]? = some v → W.cell? (a.add (i * 7 + q)) = some v := by
    intro i
    by_cases hlt : i < len
    · obtain ⟨cs, hcs, ht⟩ := hi i (by omega)
      obtain ⟨s, hs⟩ := track_cells hcs ht
      refine ⟨s, fun _ q v hq => ?_⟩
      have := hs q v hq
      rwa [h7, Go.Deep.add_add] at this
    · exact ⟨z53, fun h => absurd h hlt⟩
   obtain ⟨g, hg⟩ := Classical.axiomOfChoice hx
   have hlen : ((List.range len).map g).length = len := by simp
   have hml : len ≤ 9223372036854775807 := by unfold maxLen at hm; omega
   refine ⟨some a, cap, (List.range len).map g, by rw [hlen], by rw [hlen]; exact hl, by rw [hlen]; exact hml, ?_⟩
   rw [hlen]
   refine ⟨hlen, hml, fun _ => ⟨a, rfl, fun j p hj => ?_⟩⟩
   rw [List.getElem?_map] at hj
   by_cases hjl : j < len
   · rw [List.getElem?_range hjl] at hj
     cases hj
     exact ⟨_, rfl, k53_mk W (g j), hg j hjl⟩
   · rw [List.getElem?_eq_none (by simpa using hjl)] at hj
     cases hj
end Go.Proofs.Ytpmkibggmkibeaa.G
