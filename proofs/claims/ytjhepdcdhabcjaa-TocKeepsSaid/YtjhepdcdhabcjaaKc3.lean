/- Texts of one claim, merged by a program of this session; what is proved stands in the last of them. -/
import Derived.Test.YtjhepdcdhabcjaaKc1
import Derived.Test.YtjhepdcdhabcjaaKc2
namespace Go.Proofs.Ytjhepdcdhabcjaa.G
open Go.RowKit Go.Proofs.YtjhepdcdhabcjaaW.PrintWords Go.Proofs.YtjhepdcdhabcjaaW.PrintLast Go.Proofs.YtjhepdcdhabcjaaW.PrintMore
attribute [local go_sem] max2_int min2_int max_two min_two max_three min_three max_four min_four   -- for this text's walks alone
set_option linter.unusedVariables false
set_option linter.unusedSimpArgs false
def masterdisclaw14_do.f (k : Nat) (a0 : Int) (a1_0 : Int) (a1_1 : Bool) (l1_2 : List (S40)) (a2_0 : Int) (a2_1 : Int) (a2_2 : Int) (a2_3 : Bool) : Option (Int × Bool × (List (S40)) × Int) := if a2_0 = 0 then ((toc_Reserve.f k a0 a1_0 a1_1 l1_2 a2_1 a2_2).bind fun bt185 => (some (bt185.1, bt185.2.1, bt185.2.2.1, bt185.2.2.2))) else (if a2_0 = 1 then ((toc_Append.f k a0 a1_0 a1_1 l1_2 a2_1 a2_2).bind fun bt191 => (some (bt191.1, bt191.2.1, bt191.2.2.1, bt191.2.2.2))) else (if a2_0 = 2 then ((toc_CloseTrack.f a0 a1_0 a1_1 l1_2 a2_1).bind fun bt197 => (some (bt197.1, bt197.2.1, bt197.2.2.1, bt197.2.2.2))) else ((toc_CloseSession.f a0 a1_0 a1_1 l1_2 a2_3).bind fun bt203 => (some (bt203.1, bt203.2.1, bt203.2.2.1, bt203.2.2.2)))))
theorem masterdisclaw14_do.mono : ∀ a0 a1 a2 a3 a4 a5 a6 a7 k, LeO (masterdisclaw14_do.f k a0 a1 a2 a3 a4 a5 a6 a7) (masterdisclaw14_do.f (k + 1) a0 a1 a2 a3 a4 a5 a6 a7) := by
 intro a0 a1 a2 a3 a4 a5 a6 a7 k
 unfold masterdisclaw14_do.f
 repeat' first
  | (with_reducible exact toc_Append.mono _ _ _ _ _ _ _)
  | (with_reducible exact toc_Reserve.mono _ _ _ _ _ _ _)
  | (with_reducible exact LeO.refl _)
  | (with_reducible exact LeO.none _)
  | (with_reducible refine LeO.ite ?_ ?_)
  | (with_reducible refine LeO.bind ?_ (fun _ => ?_))
  | exact toc_Append.mono _ _ _ _ _ _ _
  | exact toc_Reserve.mono _ _ _ _ _ _ _
  | exact LeO.none _
  | refine LeO.ite ?_ ?_
  | refine LeO.bind ?_ (fun _ => ?_)
set_option maxHeartbeats 8000000 in
set_option maxRecDepth 100000 in
theorem masterdisclaw14_do.calls (k : Nat) (a0 : Int) (a1_0 : Int) (a1_1 : Bool) (A1_2 : Option Addr) (c1_2 : Nat) (l1_2 : List (S40)) (a2_0 : Int) (a2_1 : Int) (a2_2 : Int) (a2_3 : Bool) (r1 : Int) (r2 : Bool) (r3 : List (S40)) (r4 : Int) (w : World) (hr1_2 : Kd.C k40 w A1_2 l1_2.length l1_2) (hc1_2 : l1_2.length ≤ c1_2) (h : masterdisclaw14_do.f k a0 a1_0 a1_1 l1_2 a2_0 a2_1 a2_2 a2_3 = some (r1, r2, r3, r4)) :
 Calls Try.prog 8 #[.int .i64 a0, .agg #[.int .i64 a1_0, .bool a1_1, .slice A1_2 l1_2.length c1_2], .agg #[.int .i64 a2_0, .int .i64 a2_1, .int .i64 a2_2, .bool a2_3]] w fun e w' => ∃ v2_ : Value, e = .returned (.tuple #[.agg #[.int .i64 r1, .bool r2, v2_], .int .i64 r4]) ∧ Kd.R k40 40 w' w.heap.size (fun _ => True) v2_ r3 ∧ Below w.heap.size w w' := by
 have hu24 := Try.underlying24
 have hu26 := Try.underlying26
 have HR1_2 := Aside0.mk hr1_2
 have HC1_2 := Aside0.mk hc1_2
 clear hr1_2 hc1_2
 have HB := Aside0.mk (Below.refl w.heap.size w)
 have H : (if a2_0 = 0 then ((toc_Reserve.f k a0 a1_0 a1_1 l1_2 a2_1 a2_2).bind fun bt185 => (some (bt185.1, bt185.2.1, bt185.2.2.1, bt185.2.2.2))) else (if a2_0 = 1 then ((toc_Append.f k a0 a1_0 a1_1 l1_2 a2_1 a2_2).bind fun bt191 => (some (bt191.1, bt191.2.1, bt191.2.2.1, bt191.2.2.2))) else (if a2_0 = 2 then ((toc_CloseTrack.f a0 a1_0 a1_1 l1_2 a2_1).bind fun bt197 => (some (bt197.1, bt197.2.1, bt197.2.2.1, bt197.2.2.2))) else ((toc_CloseSession.f a0 a1_0 a1_1 l1_2 a2_3).bind fun bt203 => (some (bt203.1, bt203.2.1, bt203.2.2.1, bt203.2.2.2)))))) = some (r1, r2, r3, r4) := h
 clear h
 by_cases c4 : a2_0 = 0
 · rw [if_pos c4] at H
   have c4b0 : (a2_0 == 0) = true := beq_iff_eq.mpr c4
   have c4b1 : (a2_0 != 0) = false := bne_eq_false_iff_eq.mpr c4
   clear c4
   replace H := Option.bind_eq_some_iff.mp H
   obtain ⟨⟨t185, t186, t187, t190⟩, A50, H⟩ := H
   replace H : (some (t185, t186, t187, t190)) = some (r1, r2, r3, r4) := H
   have A5 := Aside0.mk A50
   clear A50
   simp only [Option.some.injEq, Prod.mk.injEq] at H
   obtain ⟨rfl, rfl, rfl, rfl⟩ := H
   go_enter Try.func8, Try.ntmps8
   go_wp2_with (first | ((with_reducible refine gate_dst (N := 4) rfl ?_); refine box_event ?hg (N := 4) ?hd (cs := #[.int .i64 a1_0, .bool a1_1, .slice A1_2 l1_2.length c1_2]) (t := 24) ?hr ?_; (case hd => rfl); (case hg => rfl); (case hr => first | (go_simp; done) | (go_simp; rfl)); intro gb182 hg w6 hbox hb; have n0_ := Aside0.mk (below_step (by repeat (first | (with_reducible first | exact HB.out | apply below_alloc | apply pw_below_drewN | apply below_drew1) | exact HB.out)) hb); have n1_ := Aside0.mk (hbox); have n2_ := Aside0.mk ((by rw [hg]; exact (below_size (by repeat (first | (with_reducible first | exact HB.out | apply below_alloc | apply pw_below_drewN | apply below_drew1) | exact HB.out))) : w.heap.size ≤ gb182)); have n3_ := Aside0.mk ((by rw [hg]; exact (below_size (by repeat (first | (with_reducible first | exact HB.out | apply below_alloc | apply pw_below_drewN | apply below_drew1) | exact HB.out))) : w.heap.size ≤ gb182)); clear HB; have HB := n0_; have BK182 := n1_; have GW182 := n2_; have GE182 := n3_; clear n0_ n1_ n2_ n3_; clear hb hbox hg) | ((with_reducible refine gate_dst (N := 5) rfl ?_); refine box_event ?hg (N := 5) ?hd (cs := #[.int .i64 a2_0, .int .i64 a2_1, .int .i64 a2_2, .bool a2_3]) (t := 26) ?hr ?_; (case hd => rfl); (case hg => rfl); (case hr => first | (go_simp; done) | (go_simp; rfl)); intro gb183 hg w7 hbox hb; have n0_ := Aside0.mk (blk_below (g := gb182) (o := .cells #[.int .i64 a1_0, .bool a1_1, .slice A1_2 l1_2.length c1_2] 24 (0, 0)) (by (with_reducible repeat (first | refine blk_drewN ?_ _ | refine blk_drew ?_ | refine blk_alloc ?_ _)); exact BK182.out) hb); have n1_ := Aside0.mk (below_step (by repeat (first | (with_reducible first | exact HB.out | apply below_alloc | apply pw_below_drewN | apply below_drew1 | refine below_set ?_ GE182.out) | exact HB.out)) hb); have n2_ := Aside0.mk (hbox); have n3_ := Aside0.mk ((by rw [hg]; exact (below_size (by repeat (first | (with_reducible first | exact HB.out | apply below_alloc | apply pw_below_drewN | apply below_drew1 | refine below_set ?_ GE182.out) | exact HB.out))) : w.heap.size ≤ gb183)); have n4_ := Aside0.mk ((by rw [hg]; exact (below_size (by repeat (first | (with_reducible first | exact HB.out | apply below_alloc | apply pw_below_drewN | apply below_drew1 | refine below_set ?_ GE182.out) | exact HB.out))) : w.heap.size ≤ gb183)); have n5_ := Aside0.mk ((by rw [hg]; exact Nat.ne_of_lt (blk_lt (g := gb182) (o := .cells #[.int .i64 a1_0, .bool a1_1, .slice A1_2 l1_2.length c1_2] 24 (0, 0)) (by (with_reducible repeat (first | refine blk_drewN ?_ _ | refine blk_drew ?_ | refine blk_alloc ?_ _)); exact BK182.out)) : gb182 ≠ gb183)); have n6_ := Aside0.mk ((by rw [hg]; exact Nat.ne_of_gt (blk_lt (g := gb182) (o := .cells #[.int .i64 a1_0, .bool a1_1, .slice A1_2 l1_2.length c1_2] 24 (0, 0)) (by (with_reducible repeat (first | refine blk_drewN ?_ _ | refine blk_drew ?_ | refine blk_alloc ?_ _)); exact BK182.out)) : gb183 ≠ gb182)); clear BK182; clear HB; have BK182 := n0_; have HB := n1_; have BK183 := n2_; have GW183 := n3_; have GE183 := n4_; have NB182_183 := n5_; have NB183_182 := n6_; clear n0_ n1_ n2_ n3_ n4_ n5_ n6_; clear hb hbox hg) | ((with_reducible refine gate_dst (N := 6) rfl ?_); refine box_event ?hg (N := 6) ?hd (cs := #[.int .i64 0, .bool false, .slice none 0 0]) (t := 24) ?hr ?_; (case hd => rfl); (case hg => rfl); (case hr => first | (go_simp; done) | (go_simp; rfl)); intro gb184 hg w8 hbox hb; have n0_ := Aside0.mk (blk_below (g := gb182) (o := .cells #[.int .i64 a1_0, .bool a1_1, .slice A1_2 l1_2.length c1_2] 24 (0, 0)) (by (with_reducible repeat (first | refine blk_drewN ?_ _ | refine blk_drew ?_ | refine blk_alloc ?_ _)); exact BK182.out) hb); have n1_ := Aside0.mk (blk_below (g := gb183) (o := .cells #[.int .i64 a2_0, .int .i64 a2_1, .int .i64 a2_2, .bool a2_3] 26 (0, 0)) (by (with_reducible repeat (first | refine blk_drewN ?_ _ | refine blk_drew ?_ | refine blk_alloc ?_ _)); exact BK183.out) hb); have n2_ := Aside0.mk (below_step (by repeat (first | (with_reducible first | exact HB.out | apply below_alloc | apply pw_below_drewN | apply below_drew1 | refine below_set ?_ GE182.out | refine below_set ?_ GE183.out) | exact HB.out)) hb); have n3_ := Aside0.mk (hbox); have n4_ := Aside0.mk ((by rw [hg]; exact (below_size (by repeat (first | (with_reducible first | exact HB.out | apply below_alloc | apply pw_below_drewN | apply below_drew1 | refine below_set ?_ GE182.out | refine below_set ?_ GE183.out) | exact HB.out))) : w.heap.size ≤ gb184)); have n5_ := Aside0.mk ((by rw [hg]; exact (below_size (by repeat (first | (with_reducible first | exact HB.out | apply below_alloc | apply pw_below_drewN | apply below_drew1 | refine below_set ?_ GE182.out | refine below_set ?_ GE183.out) | exact HB.out))) : w.heap.size ≤ gb184)); have n6_ := Aside0.mk ((by rw [hg]; exact Nat.ne_of_lt (blk_lt (g := gb182) (o := .cells #[.int .i64 a1_0, .bool a1_1, .slice A1_2 l1_2.length c1_2] 24 (0, 0)) (by (with_reducible repeat (first | refine blk_drewN ?_ _ | refine blk_drew ?_ | refine blk_alloc ?_ _)); exact BK182.out)) : gb182 ≠ gb184)); have n7_ := Aside0.mk ((by rw [hg]; exact Nat.ne_of_gt (blk_lt (g := gb182) (o := .cells #[.int .i64 a1_0, .bool a1_1, .slice A1_2 l1_2.length c1_2] 24 (0, 0)) (by (with_reducible repeat (first | refine blk_drewN ?_ _ | refine blk_drew ?_ | refine blk_alloc ?_ _)); exact BK182.out)) : gb184 ≠ gb182)); have n8_ := Aside0.mk ((by rw [hg]; exact Nat.ne_of_lt (blk_lt (g := gb183) (o := .cells #[.int .i64 a2_0, .int .i64 a2_1, .int .i64 a2_2, .bool a2_3] 26 (0, 0)) (by (with_reducible repeat (first | refine blk_drewN ?_ _ | refine blk_drew ?_ | refine blk_alloc ?_ _)); exact BK183.out)) : gb183 ≠ gb184)); have n9_ := Aside0.mk ((by rw [hg]; exact Nat.ne_of_gt (blk_lt (g := gb183) (o := .cells #[.int .i64 a2_0, .int .i64 a2_1, .int .i64 a2_2, .bool a2_3] 26 (0, 0)) (by (with_reducible repeat (first | refine blk_drewN ?_ _ | refine blk_drew ?_ | refine blk_alloc ?_ _)); exact BK183.out)) : gb184 ≠ gb183)); clear BK182; clear BK183; clear HB; have BK182 := n0_; have BK183 := n1_; have HB := n2_; have BK184 := n3_; have GW184 := n4_; have GE184 := n5_; have NB182_184 := n6_; have NB184_182 := n7_; have NB183_184 := n8_; have NB184_183 := n9_; clear n0_ n1_ n2_ n3_ n4_ n5_ n6_ n7_ n8_ n9_; clear hb hbox hg; have hnb9 := NB183_182.out; have hnc9 := NB182_183.out; have hnb10 := NB183_184.out; have hnc10 := NB184_183.out; obtain ⟨hcz11_0, hcz11_1, hcz11_2, hcz11_3⟩ := cel4 BK183.out; obtain ⟨hfz11_0, hfz11_1, hfz11_2, hfz11_3⟩ := frz4 BK183.out; have hnb12 := NB182_184.out; have hnc12 := NB184_182.out; obtain ⟨hcz13_0, hcz13_1, hcz13_2⟩ := cel3 BK182.out; obtain ⟨hfz13_0, hfz13_1, hfz13_2⟩ := frz3 BK182.out) | ((with_reducible refine gate_callee (f := 16) rfl ?_); refine goesL_ (some 18) rfl rfl Try.func16 (by kernel_rfl) rfl #[.int .i64 a0, .agg #[.int .i64 a1_0, .bool a1_1, .slice A1_2 l1_2.length c1_2], .int .i64 a2_1, .int .i64 a2_2] rfl (by (try simp only [List.map_toArray, List.map_cons, List.map_nil]); first | done | rfl | (simp only [List.length_drop, List.length_take]; rfl)) ?_; (with_reducible refine (toc_Reserve.calls k a0 a1_0 a1_1 _ _ l1_2 a2_1 a2_2 t185 t186 t187 t190 _ ?side1 ?side2 A5.out).mono ?_); (case side1 => repeat (first | exact (Kd.C_below HR1_2.out HB.out) | (with_reducible refine Kd.C_alloc ?_ _) | (with_reducible refine Kd.C_drewN ?_ _) | (with_reducible refine Kd.C_drew ?_))); (case side2 => exact HC1_2.out); rintro e w14 ⟨v188, rfl, ho0, hb⟩; refine ⟨_, rfl, ?_⟩; have n0_ := Aside0.mk (Kd.R_lower ho0 (below_size (by repeat (first | (with_reducible first | exact HB.out | apply below_alloc | apply pw_below_drewN | apply below_drew1 | refine below_set ?_ GE182.out | refine below_set ?_ GE183.out | refine below_set ?_ GE184.out) | exact HB.out)))); have n1_ := Aside0.mk (blk_below (g := gb182) (o := .cells #[.int .i64 a1_0, .bool a1_1, .slice A1_2 l1_2.length c1_2] 24 (0, 0)) (by (with_reducible repeat (first | refine blk_drewN ?_ _ | refine blk_drew ?_ | refine blk_alloc ?_ _)); exact BK182.out) hb); have n2_ := Aside0.mk (blk_below (g := gb183) (o := .cells #[.int .i64 a2_0, .int .i64 a2_1, .int .i64 a2_2, .bool a2_3] 26 (0, 0)) (by (with_reducible repeat (first | refine blk_drewN ?_ _ | refine blk_drew ?_ | refine blk_alloc ?_ _)); exact BK183.out) hb); have n3_ := Aside0.mk (blk_below (g := gb184) (o := .cells #[.int .i64 0, .bool false, .slice none 0 0] 24 (0, 0)) (by (with_reducible repeat (first | refine blk_drewN ?_ _ | refine blk_drew ?_ | refine blk_alloc ?_ _)); exact BK184.out) hb); have n4_ := Aside0.mk (below_step (by repeat (first | (with_reducible first | exact HB.out | apply below_alloc | apply pw_below_drewN | apply below_drew1 | refine below_set ?_ GE182.out | refine below_set ?_ GE183.out | refine below_set ?_ GE184.out) | exact HB.out)) hb); clear BK182; clear BK183; clear BK184; clear HB; have HO189 := n0_; have BK182 := n1_; have BK183 := n2_; have BK184 := n3_; have HB := n4_; clear n0_ n1_ n2_ n3_ n4_; (try clear hb); (try clear hb2); (try clear hk); (try clear hi); (try clear ho0); obtain ⟨hcz15_0, hcz15_1, hcz15_2⟩ := cel3 BK184.out; obtain ⟨hfz15_0, hfz15_1, hfz15_2⟩ := frz3 BK184.out; obtain ⟨Ao16, co16, eo16⟩ := Kd.R_slice HO189.out; subst eo16))
   refine bodyPost_ret (results_ct rfl _ _ gb184 24 #[.int .i64 t185, .bool t186, .slice Ao16 t187.length co16] (0, 0) _ rfl (by (with_reducible repeat (first | refine blk_drewN ?_ _ | refine blk_drew ?_ | refine blk_alloc ?_ _)); refine blk_put (cs := #[.int .i64 t185, .bool t186, .slice none 0 0]) ?_ 2 _ rfl; (with_reducible repeat (first | refine blk_drewN ?_ _ | refine blk_drew ?_ | refine blk_alloc ?_ _)); refine blk_put (cs := #[.int .i64 t185, .bool false, .slice none 0 0]) ?_ 1 _ rfl; (with_reducible repeat (first | refine blk_drewN ?_ _ | refine blk_drew ?_ | refine blk_alloc ?_ _)); refine blk_put (cs := #[.int .i64 0, .bool false, .slice none 0 0]) ?_ 0 _ rfl; (with_reducible repeat (first | refine blk_drewN ?_ _ | refine blk_drew ?_ | refine blk_alloc ?_ _)); exact BK184.out) Try.underlying24 rfl (by kernel_rfl)) rfl ?_
   exact ⟨_, by first | rfl | (simp [errW_none, errW_some] <;> rfl) | (simp [*, errW_none, errW_some] <;> rfl), by (with_reducible repeat (first | apply Kd.R_alloc | apply Kd.R_drewN | apply Kd.R_drew)); exact Kd.R_mono (Kd.R_far (p := ⟨gb184, 2, none⟩) (Kd.R_far (p := ⟨gb184, 1, none⟩) (Kd.R_far (p := ⟨gb184, 0, none⟩) (Kd.R_types HO189.out BK184.out (by decide)) (fun _ hk => hk.2) (.int .i64 t185)) (fun _ hk => hk.2) (.bool t186)) (fun _ hk => hk.2) (.slice Ao16 t187.length co16)) (fun _ hk => trivial), by repeat (first | (with_reducible first | exact HB.out | apply below_alloc | apply pw_below_drewN | apply below_drew1 | refine below_set ?_ GE182.out | refine below_set ?_ GE183.out | refine below_set ?_ GE184.out) | exact HB.out)⟩
 · rw [if_neg c4] at H
   have c4b0 : (a2_0 == 0) = false := beq_eq_false_iff_ne.mpr c4
   have c4b1 : (a2_0 != 0) = true := bne_iff_ne.mpr c4
   by_cases c17 : a2_0 = 1
   · rw [if_pos c17] at H
     have c17b0 : (a2_0 == 1) = true := beq_iff_eq.mpr c17
     have c17b1 : (a2_0 != 1) = false := bne_eq_false_iff_eq.mpr c17
     clear c17
     replace H := Option.bind_eq_some_iff.mp H
     obtain ⟨⟨t191, t192, t193, t196⟩, A180, H⟩ := H
     replace H : (some (t191, t192, t193, t196)) = some (r1, r2, r3, r4) := H
     have A18 := Aside0.mk A180
     clear A180
     simp only [Option.some.injEq, Prod.mk.injEq] at H
     obtain ⟨rfl, rfl, rfl, rfl⟩ := H
     go_enter Try.func8, Try.ntmps8
     go_wp2_with (first | ((with_reducible refine gate_dst (N := 4) rfl ?_); refine box_event ?hg (N := 4) ?hd (cs := #[.int .i64 a1_0, .bool a1_1, .slice A1_2 l1_2.length c1_2]) (t := 24) ?hr ?_; (case hd => rfl); (case hg => rfl); (case hr => first | (go_simp; done) | (go_simp; rfl)); intro gb182 hg w19 hbox hb; have n0_ := Aside0.mk (below_step (by repeat (first | (with_reducible first | exact HB.out | apply below_alloc | apply pw_below_drewN | apply below_drew1) | exact HB.out)) hb); have n1_ := Aside0.mk (hbox); have n2_ := Aside0.mk ((by rw [hg]; exact (below_size (by repeat (first | (with_reducible first | exact HB.out | apply below_alloc | apply pw_below_drewN | apply below_drew1) | exact HB.out))) : w.heap.size ≤ gb182)); have n3_ := Aside0.mk ((by rw [hg]; exact (below_size (by repeat (first | (with_reducible first | exact HB.out | apply below_alloc | apply pw_below_drewN | apply below_drew1) | exact HB.out))) : w.heap.size ≤ gb182)); clear HB; have HB := n0_; have BK182 := n1_; have GW182 := n2_; have GE182 := n3_; clear n0_ n1_ n2_ n3_; clear hb hbox hg) | ((with_reducible refine gate_dst (N := 5) rfl ?_); refine box_event ?hg (N := 5) ?hd (cs := #[.int .i64 a2_0, .int .i64 a2_1, .int .i64 a2_2, .bool a2_3]) (t := 26) ?hr ?_; (case hd => rfl); (case hg => rfl); (case hr => first | (go_simp; done) | (go_simp; rfl)); intro gb183 hg w20 hbox hb; have n0_ := Aside0.mk (blk_below (g := gb182) (o := .cells #[.int .i64 a1_0, .bool a1_1, .slice A1_2 l1_2.length c1_2] 24 (0, 0)) (by (with_reducible repeat (first | refine blk_drewN ?_ _ | refine blk_drew ?_ | refine blk_alloc ?_ _)); exact BK182.out) hb); have n1_ := Aside0.mk (below_step (by repeat (first | (with_reducible first | exact HB.out | apply below_alloc | apply pw_below_drewN | apply below_drew1 | refine below_set ?_ GE182.out) | exact HB.out)) hb); have n2_ := Aside0.mk (hbox); have n3_ := Aside0.mk ((by rw [hg]; exact (below_size (by repeat (first | (with_reducible first | exact HB.out | apply below_alloc | apply pw_below_drewN | apply below_drew1 | refine below_set ?_ GE182.out) | exact HB.out))) : w.heap.size ≤ gb183)); have n4_ := Aside0.mk ((by rw [hg]; exact (below_size (by repeat (first | (with_reducible first | exact HB.out | apply below_alloc | apply pw_below_drewN | apply below_drew1 | refine below_set ?_ GE182.out) | exact HB.out))) : w.heap.size ≤ gb183)); have n5_ := Aside0.mk ((by rw [hg]; exact Nat.ne_of_lt (blk_lt (g := gb182) (o := .cells #[.int .i64 a1_0, .bool a1_1, .slice A1_2 l1_2.length c1_2] 24 (0, 0)) (by (with_reducible repeat (first | refine blk_drewN ?_ _ | refine blk_drew ?_ | refine blk_alloc ?_ _)); exact BK182.out)) : gb182 ≠ gb183)); have n6_ := Aside0.mk ((by rw [hg]; exact Nat.ne_of_gt (blk_lt (g := gb182) (o := .cells #[.int .i64 a1_0, .bool a1_1, .slice A1_2 l1_2.length c1_2] 24 (0, 0)) (by (with_reducible repeat (first | refine blk_drewN ?_ _ | refine blk_drew ?_ | refine blk_alloc ?_ _)); exact BK182.out)) : gb183 ≠ gb182)); clear BK182; clear HB; have BK182 := n0_; have HB := n1_; have BK183 := n2_; have GW183 := n3_; have GE183 := n4_; have NB182_183 := n5_; have NB183_182 := n6_; clear n0_ n1_ n2_ n3_ n4_ n5_ n6_; clear hb hbox hg) | ((with_reducible refine gate_dst (N := 6) rfl ?_); refine box_event ?hg (N := 6) ?hd (cs := #[.int .i64 0, .bool false, .slice none 0 0]) (t := 24) ?hr ?_; (case hd => rfl); (case hg => rfl); (case hr => first | (go_simp; done) | (go_simp; rfl)); intro gb184 hg w21 hbox hb; have n0_ := Aside0.mk (blk_below (g := gb182) (o := .cells #[.int .i64 a1_0, .bool a1_1, .slice A1_2 l1_2.length c1_2] 24 (0, 0)) (by (with_reducible repeat (first | refine blk_drewN ?_ _ | refine blk_drew ?_ | refine blk_alloc ?_ _)); exact BK182.out) hb); have n1_ := Aside0.mk (blk_below (g := gb183) (o := .cells #[.int .i64 a2_0, .int .i64 a2_1, .int .i64 a2_2, .bool a2_3] 26 (0, 0)) (by (with_reducible repeat (first | refine blk_drewN ?_ _ | refine blk_drew ?_ | refine blk_alloc ?_ _)); exact BK183.out) hb); have n2_ := Aside0.mk (below_step (by repeat (first | (with_reducible first | exact HB.out | apply below_alloc | apply pw_below_drewN | apply below_drew1 | refine below_set ?_ GE182.out | refine below_set ?_ GE183.out) | exact HB.out)) hb); have n3_ := Aside0.mk (hbox); have n4_ := Aside0.mk ((by rw [hg]; exact (below_size (by repeat (first | (with_reducible first | exact HB.out | apply below_alloc | apply pw_below_drewN | apply below_drew1 | refine below_set ?_ GE182.out | refine below_set ?_ GE183.out) | exact HB.out))) : w.heap.size ≤ gb184)); have n5_ := Aside0.mk ((by rw [hg]; exact (below_size (by repeat (first | (with_reducible first | exact HB.out | apply below_alloc | apply pw_below_drewN | apply below_drew1 | refine below_set ?_ GE182.out | refine below_set ?_ GE183.out) | exact HB.out))) : w.heap.size ≤ gb184)); have n6_ := Aside0.mk ((by rw [hg]; exact Nat.ne_of_lt (blk_lt (g := gb182) (o := .cells #[.int .i64 a1_0, .bool a1_1, .slice A1_2 l1_2.length c1_2] 24 (0, 0)) (by (with_reducible repeat (first | refine blk_drewN ?_ _ | refine blk_drew ?_ | refine blk_alloc ?_ _)); exact BK182.out)) : gb182 ≠ gb184)); have n7_ := Aside0.mk ((by rw [hg]; exact Nat.ne_of_gt (blk_lt (g := gb182) (o := .cells #[.int .i64 a1_0, .bool a1_1, .slice A1_2 l1_2.length c1_2] 24 (0, 0)) (by (with_reducible repeat (first | refine blk_drewN ?_ _ | refine blk_drew ?_ | refine blk_alloc ?_ _)); exact BK182.out)) : gb184 ≠ gb182)); have n8_ := Aside0.mk ((by rw [hg]; exact Nat.ne_of_lt (blk_lt (g := gb183) (o := .cells #[.int .i64 a2_0, .int .i64 a2_1, .int .i64 a2_2, .bool a2_3] 26 (0, 0)) (by (with_reducible repeat (first | refine blk_drewN ?_ _ | refine blk_drew ?_ | refine blk_alloc ?_ _)); exact BK183.out)) : gb183 ≠ gb184)); have n9_ := Aside0.mk ((by rw [hg]; exact Nat.ne_of_gt (blk_lt (g := gb183) (o := .cells #[.int .i64 a2_0, .int .i64 a2_1, .int .i64 a2_2, .bool a2_3] 26 (0, 0)) (by (with_reducible repeat (first | refine blk_drewN ?_ _ | refine blk_drew ?_ | refine blk_alloc ?_ _)); exact BK183.out)) : gb184 ≠ gb183)); clear BK182; clear BK183; clear HB; have BK182 := n0_; have BK183 := n1_; have HB := n2_; have BK184 := n3_; have GW184 := n4_; have GE184 := n5_; have NB182_184 := n6_; have NB184_182 := n7_; have NB183_184 := n8_; have NB184_183 := n9_; clear n0_ n1_ n2_ n3_ n4_ n5_ n6_ n7_ n8_ n9_; clear hb hbox hg; have hnb22 := NB183_182.out; have hnc22 := NB182_183.out; have hnb23 := NB183_184.out; have hnc23 := NB184_183.out; obtain ⟨hcz24_0, hcz24_1, hcz24_2, hcz24_3⟩ := cel4 BK183.out; obtain ⟨hfz24_0, hfz24_1, hfz24_2, hfz24_3⟩ := frz4 BK183.out; have hnb25 := NB182_184.out; have hnc25 := NB184_182.out; obtain ⟨hcz26_0, hcz26_1, hcz26_2⟩ := cel3 BK182.out; obtain ⟨hfz26_0, hfz26_1, hfz26_2⟩ := frz3 BK182.out) | ((with_reducible refine gate_callee (f := 17) rfl ?_); refine goesL_ (some 29) rfl rfl Try.func17 (by kernel_rfl) rfl #[.int .i64 a0, .agg #[.int .i64 a1_0, .bool a1_1, .slice A1_2 l1_2.length c1_2], .int .i64 a2_1, .int .i64 a2_2] rfl (by (try simp only [List.map_toArray, List.map_cons, List.map_nil]); first | done | rfl | (simp only [List.length_drop, List.length_take]; rfl)) ?_; (with_reducible refine (toc_Append.calls k a0 a1_0 a1_1 _ _ l1_2 a2_1 a2_2 t191 t192 t193 t196 _ ?side1 ?side2 A18.out).mono ?_); (case side1 => repeat (first | exact (Kd.C_below HR1_2.out HB.out) | (with_reducible refine Kd.C_alloc ?_ _) | (with_reducible refine Kd.C_drewN ?_ _) | (with_reducible refine Kd.C_drew ?_))); (case side2 => exact HC1_2.out); rintro e w27 ⟨v194, rfl, ho0, hb⟩; refine ⟨_, rfl, ?_⟩; have n0_ := Aside0.mk (Kd.R_lower ho0 (below_size (by repeat (first | (with_reducible first | exact HB.out | apply below_alloc | apply pw_below_drewN | apply below_drew1 | refine below_set ?_ GE182.out | refine below_set ?_ GE183.out | refine below_set ?_ GE184.out) | exact HB.out)))); have n1_ := Aside0.mk (blk_below (g := gb182) (o := .cells #[.int .i64 a1_0, .bool a1_1, .slice A1_2 l1_2.length c1_2] 24 (0, 0)) (by (with_reducible repeat (first | refine blk_drewN ?_ _ | refine blk_drew ?_ | refine blk_alloc ?_ _)); exact BK182.out) hb); have n2_ := Aside0.mk (blk_below (g := gb183) (o := .cells #[.int .i64 a2_0, .int .i64 a2_1, .int .i64 a2_2, .bool a2_3] 26 (0, 0)) (by (with_reducible repeat (first | refine blk_drewN ?_ _ | refine blk_drew ?_ | refine blk_alloc ?_ _)); exact BK183.out) hb); have n3_ := Aside0.mk (blk_below (g := gb184) (o := .cells #[.int .i64 0, .bool false, .slice none 0 0] 24 (0, 0)) (by (with_reducible repeat (first | refine blk_drewN ?_ _ | refine blk_drew ?_ | refine blk_alloc ?_ _)); exact BK184.out) hb); have n4_ := Aside0.mk (below_step (by repeat (first | (with_reducible first | exact HB.out | apply below_alloc | apply pw_below_drewN | apply below_drew1 | refine below_set ?_ GE182.out | refine below_set ?_ GE183.out | refine below_set ?_ GE184.out) | exact HB.out)) hb); clear BK182; clear BK183; clear BK184; clear HB; have HO195 := n0_; have BK182 := n1_; have BK183 := n2_; have BK184 := n3_; have HB := n4_; clear n0_ n1_ n2_ n3_ n4_; (try clear hb); (try clear hb2); (try clear hk); (try clear hi); (try clear ho0); obtain ⟨hcz28_0, hcz28_1, hcz28_2⟩ := cel3 BK184.out; obtain ⟨hfz28_0, hfz28_1, hfz28_2⟩ := frz3 BK184.out; obtain ⟨Ao29, co29, eo29⟩ := Kd.R_slice HO195.out; subst eo29))
     refine bodyPost_ret (results_ct rfl _ _ gb184 24 #[.int .i64 t191, .bool t192, .slice Ao29 t193.length co29] (0, 0) _ rfl (by (with_reducible repeat (first | refine blk_drewN ?_ _ | refine blk_drew ?_ | refine blk_alloc ?_ _)); refine blk_put (cs := #[.int .i64 t191, .bool t192, .slice none 0 0]) ?_ 2 _ rfl; (with_reducible repeat (first | refine blk_drewN ?_ _ | refine blk_drew ?_ | refine blk_alloc ?_ _)); refine blk_put (cs := #[.int .i64 t191, .bool false, .slice none 0 0]) ?_ 1 _ rfl; (with_reducible repeat (first | refine blk_drewN ?_ _ | refine blk_drew ?_ | refine blk_alloc ?_ _)); refine blk_put (cs := #[.int .i64 0, .bool false, .slice none 0 0]) ?_ 0 _ rfl; (with_reducible repeat (first | refine blk_drewN ?_ _ | refine blk_drew ?_ | refine blk_alloc ?_ _)); exact BK184.out) Try.underlying24 rfl (by kernel_rfl)) rfl ?_
     exact ⟨_, by first | rfl | (simp [errW_none, errW_some] <;> rfl) | (simp [*, errW_none, errW_some] <;> rfl), by (with_reducible repeat (first | apply Kd.R_alloc | apply Kd.R_drewN | apply Kd.R_drew)); exact Kd.R_mono (Kd.R_far (p := ⟨gb184, 2, none⟩) (Kd.R_far (p := ⟨gb184, 1, none⟩) (Kd.R_far (p := ⟨gb184, 0, none⟩) (Kd.R_types HO195.out BK184.out (by decide)) (fun _ hk => hk.2) (.int .i64 t191)) (fun _ hk => hk.2) (.bool t192)) (fun _ hk => hk.2) (.slice Ao29 t193.length co29)) (fun _ hk => trivial), by repeat (first | (with_reducible first | exact HB.out | apply below_alloc | apply pw_below_drewN | apply below_drew1 | refine below_set ?_ GE182.out | refine below_set ?_ GE183.out | refine below_set ?_ GE184.out) | exact HB.out)⟩
   · rw [if_neg c17] at H
     have c17b0 : (a2_0 == 1) = false := beq_eq_false_iff_ne.mpr c17
     have c17b1 : (a2_0 != 1) = true := bne_iff_ne.mpr c17
     by_cases c30 : a2_0 = 2
     · rw [if_pos c30] at H
       have c30b0 : (a2_0 == 2) = true := beq_iff_eq.mpr c30
       have c30b1 : (a2_0 != 2) = false := bne_eq_false_iff_eq.mpr c30
       clear c30
       replace H := Option.bind_eq_some_iff.mp H
       obtain ⟨⟨t197, t198, t199, t202⟩, A310, H⟩ := H
       replace H : (some (t197, t198, t199, t202)) = some (r1, r2, r3, r4) := H
       have A31 := Aside0.mk A310
       clear A310
       simp only [Option.some.injEq, Prod.mk.injEq] at H
       obtain ⟨rfl, rfl, rfl, rfl⟩ := H
       go_enter Try.func8, Try.ntmps8
       go_wp2_with (first | ((with_reducible refine gate_dst (N := 4) rfl ?_); refine box_event ?hg (N := 4) ?hd (cs := #[.int .i64 a1_0, .bool a1_1, .slice A1_2 l1_2.length c1_2]) (t := 24) ?hr ?_; (case hd => rfl); (case hg => rfl); (case hr => first | (go_simp; done) | (go_simp; rfl)); intro gb182 hg w32 hbox hb; have n0_ := Aside0.mk (below_step (by repeat (first | (with_reducible first | exact HB.out | apply below_alloc | apply pw_below_drewN | apply below_drew1) | exact HB.out)) hb); have n1_ := Aside0.mk (hbox); have n2_ := Aside0.mk ((by rw [hg]; exact (below_size (by repeat (first | (with_reducible first | exact HB.out | apply below_alloc | apply pw_below_drewN | apply below_drew1) | exact HB.out))) : w.heap.size ≤ gb182)); have n3_ := Aside0.mk ((by rw [hg]; exact (below_size (by repeat (first | (with_reducible first | exact HB.out | apply below_alloc | apply pw_below_drewN | apply below_drew1) | exact HB.out))) : w.heap.size ≤ gb182)); clear HB; have HB := n0_; have BK182 := n1_; have GW182 := n2_; have GE182 := n3_; clear n0_ n1_ n2_ n3_; clear hb hbox hg) | ((with_reducible refine gate_dst (N := 5) rfl ?_); refine box_event ?hg (N := 5) ?hd (cs := #[.int .i64 a2_0, .int .i64 a2_1, .int .i64 a2_2, .bool a2_3]) (t := 26) ?hr ?_; (case hd => rfl); (case hg => rfl); (case hr => first | (go_simp; done) | (go_simp; rfl)); intro gb183 hg w33 hbox hb; have n0_ := Aside0.mk (blk_below (g := gb182) (o := .cells #[.int .i64 a1_0, .bool a1_1, .slice A1_2 l1_2.length c1_2] 24 (0, 0)) (by (with_reducible repeat (first | refine blk_drewN ?_ _ | refine blk_drew ?_ | refine blk_alloc ?_ _)); exact BK182.out) hb); have n1_ := Aside0.mk (below_step (by repeat (first | (with_reducible first | exact HB.out | apply below_alloc | apply pw_below_drewN | apply below_drew1 | refine below_set ?_ GE182.out) | exact HB.out)) hb); have n2_ := Aside0.mk (hbox); have n3_ := Aside0.mk ((by rw [hg]; exact (below_size (by repeat (first | (with_reducible first | exact HB.out | apply below_alloc | apply pw_below_drewN | apply below_drew1 | refine below_set ?_ GE182.out) | exact HB.out))) : w.heap.size ≤ gb183)); have n4_ := Aside0.mk ((by rw [hg]; exact (below_size (by repeat (first | (with_reducible first | exact HB.out | apply below_alloc | apply pw_below_drewN | apply below_drew1 | refine below_set ?_ GE182.out) | exact HB.out))) : w.heap.size ≤ gb183)); have n5_ := Aside0.mk ((by rw [hg]; exact Nat.ne_of_lt (blk_lt (g := gb182) (o := .cells #[.int .i64 a1_0, .bool a1_1, .slice A1_2 l1_2.length c1_2] 24 (0, 0)) (by (with_reducible repeat (first | refine blk_drewN ?_ _ | refine blk_drew ?_ | refine blk_alloc ?_ _)); exact BK182.out)) : gb182 ≠ gb183)); have n6_ := Aside0.mk ((by rw [hg]; exact Nat.ne_of_gt (blk_lt (g := gb182) (o := .cells #[.int .i64 a1_0, .bool a1_1, .slice A1_2 l1_2.length c1_2] 24 (0, 0)) (by (with_reducible repeat (first | refine blk_drewN ?_ _ | refine blk_drew ?_ | refine blk_alloc ?_ _)); exact BK182.out)) : gb183 ≠ gb182)); clear BK182; clear HB; have BK182 := n0_; have HB := n1_; have BK183 := n2_; have GW183 := n3_; have GE183 := n4_; have NB182_183 := n5_; have NB183_182 := n6_; clear n0_ n1_ n2_ n3_ n4_ n5_ n6_; clear hb hbox hg) | ((with_reducible refine gate_dst (N := 6) rfl ?_); refine box_event ?hg (N := 6) ?hd (cs := #[.int .i64 0, .bool false, .slice none 0 0]) (t := 24) ?hr ?_; (case hd => rfl); (case hg => rfl); (case hr => first | (go_simp; done) | (go_simp; rfl)); intro gb184 hg w34 hbox hb; have n0_ := Aside0.mk (blk_below (g := gb182) (o := .cells #[.int .i64 a1_0, .bool a1_1, .slice A1_2 l1_2.length c1_2] 24 (0, 0)) (by (with_reducible repeat (first | refine blk_drewN ?_ _ | refine blk_drew ?_ | refine blk_alloc ?_ _)); exact BK182.out) hb); have n1_ := Aside0.mk (blk_below (g := gb183) (o := .cells #[.int .i64 a2_0, .int .i64 a2_1, .int .i64 a2_2, .bool a2_3] 26 (0, 0)) (by (with_reducible repeat (first | refine blk_drewN ?_ _ | refine blk_drew ?_ | refine blk_alloc ?_ _)); exact BK183.out) hb); have n2_ := Aside0.mk (below_step (by repeat (first | (with_reducible first | exact HB.out | apply below_alloc | apply pw_below_drewN | apply below_drew1 | refine below_set ?_ GE182.out | refine below_set ?_ GE183.out) | exact HB.out)) hb); have n3_ := Aside0.mk (hbox); have n4_ := Aside0.mk ((by rw [hg]; exact (below_size (by repeat (first | (with_reducible first | exact HB.out | apply below_alloc | apply pw_below_drewN | apply below_drew1 | refine below_set ?_ GE182.out | refine below_set ?_ GE183.out) | exact HB.out))) : w.heap.size ≤ gb184)); have n5_ := Aside0.mk ((by rw [hg]; exact (below_size (by repeat (first | (with_reducible first | exact HB.out | apply below_alloc | apply pw_below_drewN | apply below_drew1 | refine below_set ?_ GE182.out | refine below_set ?_ GE183.out) | exact HB.out))) : w.heap.size ≤ gb184)); have n6_ := Aside0.mk ((by rw [hg]; exact Nat.ne_of_lt (blk_lt (g := gb182) (o := .cells #[.int .i64 a1_0, .bool a1_1, .slice A1_2 l1_2.length c1_2] 24 (0, 0)) (by (with_reducible repeat (first | refine blk_drewN ?_ _ | refine blk_drew ?_ | refine blk_alloc ?_ _)); exact BK182.out)) : gb182 ≠ gb184)); have n7_ := Aside0.mk ((by rw [hg]; exact Nat.ne_of_gt (blk_lt (g := gb182) (o := .cells #[.int .i64 a1_0, .bool a1_1, .slice A1_2 l1_2.length c1_2] 24 (0, 0)) (by (with_reducible repeat (first | refine blk_drewN ?_ _ | refine blk_drew ?_ | refine blk_alloc ?_ _)); exact BK182.out)) : gb184 ≠ gb182)); have n8_ := Aside0.mk ((by rw [hg]; exact Nat.ne_of_lt (blk_lt (g := gb183) (o := .cells #[.int .i64 a2_0, .int .i64 a2_1, .int .i64 a2_2, .bool a2_3] 26 (0, 0)) (by (with_reducible repeat (first | refine blk_drewN ?_ _ | refine blk_drew ?_ | refine blk_alloc ?_ _)); exact BK183.out)) : gb183 ≠ gb184)); have n9_ := Aside0.mk ((by rw [hg]; exact Nat.ne_of_gt (blk_lt (g := gb183) (o := .cells #[.int .i64 a2_0, .int .i64 a2_1, .int .i64 a2_2, .bool a2_3] 26 (0, 0)) (by (with_reducible repeat (first | refine blk_drewN ?_ _ | refine blk_drew ?_ | refine blk_alloc ?_ _)); exact BK183.out)) : gb184 ≠ gb183)); clear BK182; clear BK183; clear HB; have BK182 := n0_; have BK183 := n1_; have HB := n2_; have BK184 := n3_; have GW184 := n4_; have GE184 := n5_; have NB182_184 := n6_; have NB184_182 := n7_; have NB183_184 := n8_; have NB184_183 := n9_; clear n0_ n1_ n2_ n3_ n4_ n5_ n6_ n7_ n8_ n9_; clear hb hbox hg; have hnb35 := NB183_182.out; have hnc35 := NB182_183.out; have hnb36 := NB183_184.out; have hnc36 := NB184_183.out; obtain ⟨hcz37_0, hcz37_1, hcz37_2, hcz37_3⟩ := cel4 BK183.out; obtain ⟨hfz37_0, hfz37_1, hfz37_2, hfz37_3⟩ := frz4 BK183.out; have hnb38 := NB182_184.out; have hnc38 := NB184_182.out; obtain ⟨hcz39_0, hcz39_1, hcz39_2⟩ := cel3 BK182.out; obtain ⟨hfz39_0, hfz39_1, hfz39_2⟩ := frz3 BK182.out) | ((with_reducible refine gate_callee (f := 18) rfl ?_); refine goesL_ (some 38) rfl rfl Try.func18 (by kernel_rfl) rfl #[.int .i64 a0, .agg #[.int .i64 a1_0, .bool a1_1, .slice A1_2 l1_2.length c1_2], .int .i64 a2_1] rfl (by (try simp only [List.map_toArray, List.map_cons, List.map_nil]); first | done | rfl | (simp only [List.length_drop, List.length_take]; rfl)) ?_; (with_reducible refine (toc_CloseTrack.calls a0 a1_0 a1_1 _ _ l1_2 a2_1 t197 t198 t199 t202 _ ?side1 ?side2 A31.out).mono ?_); (case side1 => repeat (first | exact (Kd.C_below HR1_2.out HB.out) | (with_reducible refine Kd.C_alloc ?_ _) | (with_reducible refine Kd.C_drewN ?_ _) | (with_reducible refine Kd.C_drew ?_))); (case side2 => exact HC1_2.out); rintro e w40 ⟨v200, rfl, ho0, hb⟩; refine ⟨_, rfl, ?_⟩; have n0_ := Aside0.mk (Kd.R_lower ho0 (below_size (by repeat (first | (with_reducible first | exact HB.out | apply below_alloc | apply pw_below_drewN | apply below_drew1 | refine below_set ?_ GE182.out | refine below_set ?_ GE183.out | refine below_set ?_ GE184.out) | exact HB.out)))); have n1_ := Aside0.mk (blk_below (g := gb182) (o := .cells #[.int .i64 a1_0, .bool a1_1, .slice A1_2 l1_2.length c1_2] 24 (0, 0)) (by (with_reducible repeat (first | refine blk_drewN ?_ _ | refine blk_drew ?_ | refine blk_alloc ?_ _)); exact BK182.out) hb); have n2_ := Aside0.mk (blk_below (g := gb183) (o := .cells #[.int .i64 a2_0, .int .i64 a2_1, .int .i64 a2_2, .bool a2_3] 26 (0, 0)) (by (with_reducible repeat (first | refine blk_drewN ?_ _ | refine blk_drew ?_ | refine blk_alloc ?_ _)); exact BK183.out) hb); have n3_ := Aside0.mk (blk_below (g := gb184) (o := .cells #[.int .i64 0, .bool false, .slice none 0 0] 24 (0, 0)) (by (with_reducible repeat (first | refine blk_drewN ?_ _ | refine blk_drew ?_ | refine blk_alloc ?_ _)); exact BK184.out) hb); have n4_ := Aside0.mk (below_step (by repeat (first | (with_reducible first | exact HB.out | apply below_alloc | apply pw_below_drewN | apply below_drew1 | refine below_set ?_ GE182.out | refine below_set ?_ GE183.out | refine below_set ?_ GE184.out) | exact HB.out)) hb); clear BK182; clear BK183; clear BK184; clear HB; have HO201 := n0_; have BK182 := n1_; have BK183 := n2_; have BK184 := n3_; have HB := n4_; clear n0_ n1_ n2_ n3_ n4_; (try clear hb); (try clear hb2); (try clear hk); (try clear hi); (try clear ho0); obtain ⟨hcz41_0, hcz41_1, hcz41_2⟩ := cel3 BK184.out; obtain ⟨hfz41_0, hfz41_1, hfz41_2⟩ := frz3 BK184.out; obtain ⟨Ao42, co42, eo42⟩ := Kd.R_slice HO201.out; subst eo42))
       refine bodyPost_ret (results_ct rfl _ _ gb184 24 #[.int .i64 t197, .bool t198, .slice Ao42 t199.length co42] (0, 0) _ rfl (by (with_reducible repeat (first | refine blk_drewN ?_ _ | refine blk_drew ?_ | refine blk_alloc ?_ _)); refine blk_put (cs := #[.int .i64 t197, .bool t198, .slice none 0 0]) ?_ 2 _ rfl; (with_reducible repeat (first | refine blk_drewN ?_ _ | refine blk_drew ?_ | refine blk_alloc ?_ _)); refine blk_put (cs := #[.int .i64 t197, .bool false, .slice none 0 0]) ?_ 1 _ rfl; (with_reducible repeat (first | refine blk_drewN ?_ _ | refine blk_drew ?_ | refine blk_alloc ?_ _)); refine blk_put (cs := #[.int .i64 0, .bool false, .slice none 0 0]) ?_ 0 _ rfl; (with_reducible repeat (first | refine blk_drewN ?_ _ | refine blk_drew ?_ | refine blk_alloc ?_ _)); exact BK184.out) Try.underlying24 rfl (by kernel_rfl)) rfl ?_
       exact ⟨_, by first | rfl | (simp [errW_none, errW_some] <;> rfl) | (simp [*, errW_none, errW_some] <;> rfl), by (with_reducible repeat (first | apply Kd.R_alloc | apply Kd.R_drewN | apply Kd.R_drew)); exact Kd.R_mono (Kd.R_far (p := ⟨gb184, 2, none⟩) (Kd.R_far (p := ⟨gb184, 1, none⟩) (Kd.R_far (p := ⟨gb184, 0, none⟩) (Kd.R_types HO201.out BK184.out (by decide)) (fun _ hk => hk.2) (.int .i64 t197)) (fun _ hk => hk.2) (.bool t198)) (fun _ hk => hk.2) (.slice Ao42 t199.length co42)) (fun _ hk => trivial), by repeat (first | (with_reducible first | exact HB.out | apply below_alloc | apply pw_below_drewN | apply below_drew1 | refine below_set ?_ GE182.out | refine below_set ?_ GE183.out | refine below_set ?_ GE184.out) | exact HB.out)⟩
     · rw [if_neg c30] at H
       have c30b0 : (a2_0 == 2) = false := beq_eq_false_iff_ne.mpr c30
       have c30b1 : (a2_0 != 2) = true := bne_iff_ne.mpr c30
       replace H := Option.bind_eq_some_iff.mp H
       obtain ⟨⟨t203, t204, t205, t208⟩, A430, H⟩ := H
       replace H : (some (t203, t204, t205, t208)) = some (r1, r2, r3, r4) := H
       have A43 := Aside0.mk A430
       clear A430
       simp only [Option.some.injEq, Prod.mk.injEq] at H
       obtain ⟨rfl, rfl, rfl, rfl⟩ := H
       go_enter Try.func8, Try.ntmps8
       go_wp2_with (first | ((with_reducible refine gate_dst (N := 4) rfl ?_); refine box_event ?hg (N := 4) ?hd (cs := #[.int .i64 a1_0, .bool a1_1, .slice A1_2 l1_2.length c1_2]) (t := 24) ?hr ?_; (case hd => rfl); (case hg => rfl); (case hr => first | (go_simp; done) | (go_simp; rfl)); intro gb182 hg w44 hbox hb; have n0_ := Aside0.mk (below_step (by repeat (first | (with_reducible first | exact HB.out | apply below_alloc | apply pw_below_drewN | apply below_drew1) | exact HB.out)) hb); have n1_ := Aside0.mk (hbox); have n2_ := Aside0.mk ((by rw [hg]; exact (below_size (by repeat (first | (with_reducible first | exact HB.out | apply below_alloc | apply pw_below_drewN | apply below_drew1) | exact HB.out))) : w.heap.size ≤ gb182)); have n3_ := Aside0.mk ((by rw [hg]; exact (below_size (by repeat (first | (with_reducible first | exact HB.out | apply below_alloc | apply pw_below_drewN | apply below_drew1) | exact HB.out))) : w.heap.size ≤ gb182)); clear HB; have HB := n0_; have BK182 := n1_; have GW182 := n2_; have GE182 := n3_; clear n0_ n1_ n2_ n3_; clear hb hbox hg) | ((with_reducible refine gate_dst (N := 5) rfl ?_); refine box_event ?hg (N := 5) ?hd (cs := #[.int .i64 a2_0, .int .i64 a2_1, .int .i64 a2_2, .bool a2_3]) (t := 26) ?hr ?_; (case hd => rfl); (case hg => rfl); (case hr => first | (go_simp; done) | (go_simp; rfl)); intro gb183 hg w45 hbox hb; have n0_ := Aside0.mk (blk_below (g := gb182) (o := .cells #[.int .i64 a1_0, .bool a1_1, .slice A1_2 l1_2.length c1_2] 24 (0, 0)) (by (with_reducible repeat (first | refine blk_drewN ?_ _ | refine blk_drew ?_ | refine blk_alloc ?_ _)); exact BK182.out) hb); have n1_ := Aside0.mk (below_step (by repeat (first | (with_reducible first | exact HB.out | apply below_alloc | apply pw_below_drewN | apply below_drew1 | refine below_set ?_ GE182.out) | exact HB.out)) hb); have n2_ := Aside0.mk (hbox); have n3_ := Aside0.mk ((by rw [hg]; exact (below_size (by repeat (first | (with_reducible first | exact HB.out | apply below_alloc | apply pw_below_drewN | apply below_drew1 | refine below_set ?_ GE182.out) | exact HB.out))) : w.heap.size ≤ gb183)); have n4_ := Aside0.mk ((by rw [hg]; exact (below_size (by repeat (first | (with_reducible first | exact HB.out | apply below_alloc | apply pw_below_drewN | apply below_drew1 | refine below_set ?_ GE182.out) | exact HB.out))) : w.heap.size ≤ gb183)); have n5_ := Aside0.mk ((by rw [hg]; exact Nat.ne_of_lt (blk_lt (g := gb182) (o := .cells #[.int .i64 a1_0, .bool a1_1, .slice A1_2 l1_2.length c1_2] 24 (0, 0)) (by (with_reducible repeat (first | refine blk_drewN ?_ _ | refine blk_drew ?_ | refine blk_alloc ?_ _)); exact BK182.out)) : gb182 ≠ gb183)); have n6_ := Aside0.mk ((by rw [hg]; exact Nat.ne_of_gt (blk_lt (g := gb182) (o := .cells #[.int .i64 a1_0, .bool a1_1, .slice A1_2 l1_2.length c1_2] 24 (0, 0)) (by (with_reducible repeat (first | refine blk_drewN ?_ _ | refine blk_drew ?_ | refine blk_alloc ?_ _)); exact BK182.out)) : gb183 ≠ gb182)); clear BK182; clear HB; have BK182 := n0_; have HB := n1_; have BK183 := n2_; have GW183 := n3_; have GE183 := n4_; have NB182_183 := n5_; have NB183_182 := n6_; clear n0_ n1_ n2_ n3_ n4_ n5_ n6_; clear hb hbox hg) | ((with_reducible refine gate_dst (N := 6) rfl ?_); refine box_event ?hg (N := 6) ?hd (cs := #[.int .i64 0, .bool false, .slice none 0 0]) (t := 24) ?hr ?_; (case hd => rfl); (case hg => rfl); (case hr => first | (go_simp; done) | (go_simp; rfl)); intro gb184 hg w46 hbox hb; have n0_ := Aside0.mk (blk_below (g := gb182) (o := .cells #[.int .i64 a1_0, .bool a1_1, .slice A1_2 l1_2.length c1_2] 24 (0, 0)) (by (with_reducible repeat (first | refine blk_drewN ?_ _ | refine blk_drew ?_ | refine blk_alloc ?_ _)); exact BK182.out) hb); have n1_ := Aside0.mk (blk_below (g := gb183) (o := .cells #[.int .i64 a2_0, .int .i64 a2_1, .int .i64 a2_2, .bool a2_3] 26 (0, 0)) (by (with_reducible repeat (first | refine blk_drewN ?_ _ | refine blk_drew ?_ | refine blk_alloc ?_ _)); exact BK183.out) hb); have n2_ := Aside0.mk (below_step (by repeat (first | (with_reducible first | exact HB.out | apply below_alloc | apply pw_below_drewN | apply below_drew1 | refine below_set ?_ GE182.out | refine below_set ?_ GE183.out) | exact HB.out)) hb); have n3_ := Aside0.mk (hbox); have n4_ := Aside0.mk ((by rw [hg]; exact (below_size (by repeat (first | (with_reducible first | exact HB.out | apply below_alloc | apply pw_below_drewN | apply below_drew1 | refine below_set ?_ GE182.out | refine below_set ?_ GE183.out) | exact HB.out))) : w.heap.size ≤ gb184)); have n5_ := Aside0.mk ((by rw [hg]; exact (below_size (by repeat (first | (with_reducible first | exact HB.out | apply below_alloc | apply pw_below_drewN | apply below_drew1 | refine below_set ?_ GE182.out | refine below_set ?_ GE183.out) | exact HB.out))) : w.heap.size ≤ gb184)); have n6_ := Aside0.mk ((by rw [hg]; exact Nat.ne_of_lt (blk_lt (g := gb182) (o := .cells #[.int .i64 a1_0, .bool a1_1, .slice A1_2 l1_2.length c1_2] 24 (0, 0)) (by (with_reducible repeat (first | refine blk_drewN ?_ _ | refine blk_drew ?_ | refine blk_alloc ?_ _)); exact BK182.out)) : gb182 ≠ gb184)); have n7_ := Aside0.mk ((by rw [hg]; exact Nat.ne_of_gt (blk_lt (g := gb182) (o := .cells #[.int .i64 a1_0, .bool a1_1, .slice A1_2 l1_2.length c1_2] 24 (0, 0)) (by (with_reducible repeat (first | refine blk_drewN ?_ _ | refine blk_drew ?_ | refine blk_alloc ?_ _)); exact BK182.out)) : gb184 ≠ gb182)); have n8_ := Aside0.mk ((by rw [hg]; exact Nat.ne_of_lt (blk_lt (g := gb183) (o := .cells #[.int .i64 a2_0, .int .i64 a2_1, .int .i64 a2_2, .bool a2_3] 26 (0, 0)) (by (with_reducible repeat (first | refine blk_drewN ?_ _ | refine blk_drew ?_ | refine blk_alloc ?_ _)); exact BK183.out)) : gb183 ≠ gb184)); have n9_ := Aside0.mk ((by rw [hg]; exact Nat.ne_of_gt (blk_lt (g := gb183) (o := .cells #[.int .i64 a2_0, .int .i64 a2_1, .int .i64 a2_2, .bool a2_3] 26 (0, 0)) (by (with_reducible repeat (first | refine blk_drewN ?_ _ | refine blk_drew ?_ | refine blk_alloc ?_ _)); exact BK183.out)) : gb184 ≠ gb183)); clear BK182; clear BK183; clear HB; have BK182 := n0_; have BK183 := n1_; have HB := n2_; have BK184 := n3_; have GW184 := n4_; have GE184 := n5_; have NB182_184 := n6_; have NB184_182 := n7_; have NB183_184 := n8_; have NB184_183 := n9_; clear n0_ n1_ n2_ n3_ n4_ n5_ n6_ n7_ n8_ n9_; clear hb hbox hg; have hnb47 := NB183_182.out; have hnc47 := NB182_183.out; have hnb48 := NB183_184.out; have hnc48 := NB184_183.out; obtain ⟨hcz49_0, hcz49_1, hcz49_2, hcz49_3⟩ := cel4 BK183.out; obtain ⟨hfz49_0, hfz49_1, hfz49_2, hfz49_3⟩ := frz4 BK183.out; have hnb50 := NB182_184.out; have hnc50 := NB184_182.out; obtain ⟨hcz51_0, hcz51_1, hcz51_2⟩ := cel3 BK182.out; obtain ⟨hfz51_0, hfz51_1, hfz51_2⟩ := frz3 BK182.out) | ((with_reducible refine gate_callee (f := 19) rfl ?_); refine goesL_ (some 45) rfl rfl Try.func19 (by kernel_rfl) rfl #[.int .i64 a0, .agg #[.int .i64 a1_0, .bool a1_1, .slice A1_2 l1_2.length c1_2], .bool a2_3] rfl (by (try simp only [List.map_toArray, List.map_cons, List.map_nil]); first | done | rfl | (simp only [List.length_drop, List.length_take]; rfl)) ?_; (with_reducible refine (toc_CloseSession.calls a0 a1_0 a1_1 _ _ l1_2 a2_3 t203 t204 t205 t208 _ ?side1 ?side2 A43.out).mono ?_); (case side1 => repeat (first | exact (Kd.C_below HR1_2.out HB.out) | (with_reducible refine Kd.C_alloc ?_ _) | (with_reducible refine Kd.C_drewN ?_ _) | (with_reducible refine Kd.C_drew ?_))); (case side2 => exact HC1_2.out); rintro e w52 ⟨v206, rfl, ho0, hb⟩; refine ⟨_, rfl, ?_⟩; have n0_ := Aside0.mk (Kd.R_lower ho0 (below_size (by repeat (first | (with_reducible first | exact HB.out | apply below_alloc | apply pw_below_drewN | apply below_drew1 | refine below_set ?_ GE182.out | refine below_set ?_ GE183.out | refine below_set ?_ GE184.out) | exact HB.out)))); have n1_ := Aside0.mk (blk_below (g := gb182) (o := .cells #[.int .i64 a1_0, .bool a1_1, .slice A1_2 l1_2.length c1_2] 24 (0, 0)) (by (with_reducible repeat (first | refine blk_drewN ?_ _ | refine blk_drew ?_ | refine blk_alloc ?_ _)); exact BK182.out) hb); have n2_ := Aside0.mk (blk_below (g := gb183) (o := .cells #[.int .i64 a2_0, .int .i64 a2_1, .int .i64 a2_2, .bool a2_3] 26 (0, 0)) (by (with_reducible repeat (first | refine blk_drewN ?_ _ | refine blk_drew ?_ | refine blk_alloc ?_ _)); exact BK183.out) hb); have n3_ := Aside0.mk (blk_below (g := gb184) (o := .cells #[.int .i64 0, .bool false, .slice none 0 0] 24 (0, 0)) (by (with_reducible repeat (first | refine blk_drewN ?_ _ | refine blk_drew ?_ | refine blk_alloc ?_ _)); exact BK184.out) hb); have n4_ := Aside0.mk (below_step (by repeat (first | (with_reducible first | exact HB.out | apply below_alloc | apply pw_below_drewN | apply below_drew1 | refine below_set ?_ GE182.out | refine below_set ?_ GE183.out | refine below_set ?_ GE184.out) | exact HB.out)) hb); clear BK182; clear BK183; clear BK184; clear HB; have HO207 := n0_; have BK182 := n1_; have BK183 := n2_; have BK184 := n3_; have HB := n4_; clear n0_ n1_ n2_ n3_ n4_; (try clear hb); (try clear hb2); (try clear hk); (try clear hi); (try clear ho0); obtain ⟨hcz53_0, hcz53_1, hcz53_2⟩ := cel3 BK184.out; obtain ⟨hfz53_0, hfz53_1, hfz53_2⟩ := frz3 BK184.out; obtain ⟨Ao54, co54, eo54⟩ := Kd.R_slice HO207.out; subst eo54))
       refine bodyPost_ret (results_ct rfl _ _ gb184 24 #[.int .i64 t203, .bool t204, .slice Ao54 t205.length co54] (0, 0) _ rfl (by (with_reducible repeat (first | refine blk_drewN ?_ _ | refine blk_drew ?_ | refine blk_alloc ?_ _)); refine blk_put (cs := #[.int .i64 t203, .bool t204, .slice none 0 0]) ?_ 2 _ rfl; (with_reducible repeat (first | refine blk_drewN ?_ _ | refine blk_drew ?_ | refine blk_alloc ?_ _)); refine blk_put (cs := #[.int .i64 t203, .bool false, .slice none 0 0]) ?_ 1 _ rfl; (with_reducible repeat (first | refine blk_drewN ?_ _ | refine blk_drew ?_ | refine blk_alloc ?_ _)); refine blk_put (cs := #[.int .i64 0, .bool false, .slice none 0 0]) ?_ 0 _ rfl; (with_reducible repeat (first | refine blk_drewN ?_ _ | refine blk_drew ?_ | refine blk_alloc ?_ _)); exact BK184.out) Try.underlying24 rfl (by kernel_rfl)) rfl ?_
       exact ⟨_, by first | rfl | (simp [errW_none, errW_some] <;> rfl) | (simp [*, errW_none, errW_some] <;> rfl), by (with_reducible repeat (first | apply Kd.R_alloc | apply Kd.R_drewN | apply Kd.R_drew)); exact Kd.R_mono (Kd.R_far (p := ⟨gb184, 2, none⟩) (Kd.R_far (p := ⟨gb184, 1, none⟩) (Kd.R_far (p := ⟨gb184, 0, none⟩) (Kd.R_types HO207.out BK184.out (by decide)) (fun _ hk => hk.2) (.int .i64 t203)) (fun _ hk => hk.2) (.bool t204)) (fun _ hk => hk.2) (.slice Ao54 t205.length co54)) (fun _ hk => trivial), by repeat (first | (with_reducible first | exact HB.out | apply below_alloc | apply pw_below_drewN | apply below_drew1 | refine below_set ?_ GE182.out | refine below_set ?_ GE183.out | refine below_set ?_ GE184.out) | exact HB.out)⟩
end Go.Proofs.Ytjhepdcdhabcjaa.G
namespace Go.Proofs.Ytjhepdcdhabcjaa.G
open Go.RowKit Go.Proofs.YtjhepdcdhabcjaaW.PrintWords Go.Proofs.YtjhepdcdhabcjaaW.PrintLast Go.Proofs.YtjhepdcdhabcjaaW.PrintMore
attribute [local go_sem] max2_int min2_int max_two min_two max_three min_three max_four min_four   -- for this text's walks alone
set_option linter.unusedVariables false
set_option linter.unusedSimpArgs false
attribute [local go_sem high] eqA40
def masterdisclaw14_awake.f (k : Nat)  : Option (Bool) := (toc_Reserve.f k 400 0 false ([] : List (S40)) 100 0).bind fun bt141 => (if bt141.2.2.2 = 0 then ((toc_Append.f k 400 bt141.1 bt141.2.1 bt141.2.2.1 0 40).bind fun bt148 => (if bt148.2.2.2 = 0 then ((toc_CloseTrack.f 400 bt148.1 bt148.2.1 bt148.2.2.1 1).bind fun bt154 => (if bt154.2.2.2 = 0 then ((toc_CloseSession.f 400 bt154.1 bt154.2.1 bt154.2.2.1 false).bind fun bt160 => (if bt160.2.2.2 = 0 then ((toc_Reserve.f k 400 bt160.1 bt160.2.1 bt160.2.2.1 10 0).bind fun bt166 => (if bt166.2.2.2 = 0 then (if (bt166.2.2.1.length : Int) = 2 then (if 0 < (bt166.2.2.1.length : Int) then (if ((rd_T40 bt166.2.2.1 0).f3) = 40 then (if 1 < (bt166.2.2.1.length : Int) then (some (((rd_T40 bt166.2.2.1 1).f0) == 2 && (((rd_T40 bt166.2.2.1 1).f1) == 2 && (((rd_T40 bt166.2.2.1 1).f2) == 56 && (((rd_T40 bt166.2.2.1 1).f3) == 10 && (((rd_T40 bt166.2.2.1 1).f4) == 56 && (((rd_T40 bt166.2.2.1 1).f5) == 0 && (((rd_T40 bt166.2.2.1 1).f6) == 0)))))))) else (none)) else (none)) else (none)) else (none)) else (none))) else (none))) else (none))) else (none))) else (none))
theorem masterdisclaw14_awake.mono : ∀ k, LeO (masterdisclaw14_awake.f k ) (masterdisclaw14_awake.f (k + 1) ) := by
 intro  k
 unfold masterdisclaw14_awake.f
 repeat' first
  | (with_reducible exact toc_Append.mono _ _ _ _ _ _ _)
  | (with_reducible exact toc_Reserve.mono _ _ _ _ _ _ _)
  | (with_reducible exact LeO.refl _)
  | (with_reducible exact LeO.none _)
  | (with_reducible refine LeO.ite ?_ ?_)
  | (with_reducible refine LeO.bind ?_ (fun _ => ?_))
  | exact toc_Append.mono _ _ _ _ _ _ _
  | exact toc_Reserve.mono _ _ _ _ _ _ _
  | exact LeO.none _
  | refine LeO.ite ?_ ?_
  | refine LeO.bind ?_ (fun _ => ?_)
set_option maxHeartbeats 8000000 in
set_option maxRecDepth 100000 in
theorem masterdisclaw14_awake.calls (k : Nat)  (r : Bool) (w : World) (h : masterdisclaw14_awake.f k  = some r) :
 Calls Try.prog 6 #[] w fun e w' => e = .returned (.bool r) ∧ Below w.heap.size w w' := by
 have hu24 := Try.underlying24
 have hu40 := Try.underlying40
 have HB := Aside0.mk (Below.refl w.heap.size w)
 have H : ((toc_Reserve.f k 400 0 false ([] : List (S40)) 100 0).bind fun bt141 => (if bt141.2.2.2 = 0 then ((toc_Append.f k 400 bt141.1 bt141.2.1 bt141.2.2.1 0 40).bind fun bt148 => (if bt148.2.2.2 = 0 then ((toc_CloseTrack.f 400 bt148.1 bt148.2.1 bt148.2.2.1 1).bind fun bt154 => (if bt154.2.2.2 = 0 then ((toc_CloseSession.f 400 bt154.1 bt154.2.1 bt154.2.2.1 false).bind fun bt160 => (if bt160.2.2.2 = 0 then ((toc_Reserve.f k 400 bt160.1 bt160.2.1 bt160.2.2.1 10 0).bind fun bt166 => (if bt166.2.2.2 = 0 then (if (bt166.2.2.1.length : Int) = 2 then (if 0 < (bt166.2.2.1.length : Int) then (if ((rd_T40 bt166.2.2.1 0).f3) = 40 then (if 1 < (bt166.2.2.1.length : Int) then (some (((rd_T40 bt166.2.2.1 1).f0) == 2 && (((rd_T40 bt166.2.2.1 1).f1) == 2 && (((rd_T40 bt166.2.2.1 1).f2) == 56 && (((rd_T40 bt166.2.2.1 1).f3) == 10 && (((rd_T40 bt166.2.2.1 1).f4) == 56 && (((rd_T40 bt166.2.2.1 1).f5) == 0 && (((rd_T40 bt166.2.2.1 1).f6) == 0)))))))) else (none)) else (none)) else (none)) else (none)) else (none))) else (none))) else (none))) else (none))) else (none))) = some r := h
 clear h
 replace H := Option.bind_eq_some_iff.mp H
 obtain ⟨⟨t141, t142, t143, t146⟩, A10, H⟩ := H
 replace H : (if t146 = 0 then ((toc_Append.f k 400 t141 t142 t143 0 40).bind fun bt148 => (if bt148.2.2.2 = 0 then ((toc_CloseTrack.f 400 bt148.1 bt148.2.1 bt148.2.2.1 1).bind fun bt154 => (if bt154.2.2.2 = 0 then ((toc_CloseSession.f 400 bt154.1 bt154.2.1 bt154.2.2.1 false).bind fun bt160 => (if bt160.2.2.2 = 0 then ((toc_Reserve.f k 400 bt160.1 bt160.2.1 bt160.2.2.1 10 0).bind fun bt166 => (if bt166.2.2.2 = 0 then (if (bt166.2.2.1.length : Int) = 2 then (if 0 < (bt166.2.2.1.length : Int) then (if ((rd_T40 bt166.2.2.1 0).f3) = 40 then (if 1 < (bt166.2.2.1.length : Int) then (some (((rd_T40 bt166.2.2.1 1).f0) == 2 && (((rd_T40 bt166.2.2.1 1).f1) == 2 && (((rd_T40 bt166.2.2.1 1).f2) == 56 && (((rd_T40 bt166.2.2.1 1).f3) == 10 && (((rd_T40 bt166.2.2.1 1).f4) == 56 && (((rd_T40 bt166.2.2.1 1).f5) == 0 && (((rd_T40 bt166.2.2.1 1).f6) == 0)))))))) else (none)) else (none)) else (none)) else (none)) else (none))) else (none))) else (none))) else (none))) else (none)) = some r := H
 have A1 := Aside0.mk A10
 clear A10
 by_cases c2 : t146 = 0
 · rw [if_pos c2] at H
   have c2b0 : (t146 == 0) = true := beq_iff_eq.mpr c2
   have c2b1 : (t146 != 0) = false := bne_eq_false_iff_eq.mpr c2
   clear c2
   replace H := Option.bind_eq_some_iff.mp H
   obtain ⟨⟨t148, t149, t150, t153⟩, A30, H⟩ := H
   replace H : (if t153 = 0 then ((toc_CloseTrack.f 400 t148 t149 t150 1).bind fun bt154 => (if bt154.2.2.2 = 0 then ((toc_CloseSession.f 400 bt154.1 bt154.2.1 bt154.2.2.1 false).bind fun bt160 => (if bt160.2.2.2 = 0 then ((toc_Reserve.f k 400 bt160.1 bt160.2.1 bt160.2.2.1 10 0).bind fun bt166 => (if bt166.2.2.2 = 0 then (if (bt166.2.2.1.length : Int) = 2 then (if 0 < (bt166.2.2.1.length : Int) then (if ((rd_T40 bt166.2.2.1 0).f3) = 40 then (if 1 < (bt166.2.2.1.length : Int) then (some (((rd_T40 bt166.2.2.1 1).f0) == 2 && (((rd_T40 bt166.2.2.1 1).f1) == 2 && (((rd_T40 bt166.2.2.1 1).f2) == 56 && (((rd_T40 bt166.2.2.1 1).f3) == 10 && (((rd_T40 bt166.2.2.1 1).f4) == 56 && (((rd_T40 bt166.2.2.1 1).f5) == 0 && (((rd_T40 bt166.2.2.1 1).f6) == 0)))))))) else (none)) else (none)) else (none)) else (none)) else (none))) else (none))) else (none))) else (none)) = some r := H
   have A3 := Aside0.mk A30
   clear A30
   by_cases c4 : t153 = 0
   · rw [if_pos c4] at H
     have c4b0 : (t153 == 0) = true := beq_iff_eq.mpr c4
     have c4b1 : (t153 != 0) = false := bne_eq_false_iff_eq.mpr c4
     clear c4
     replace H := Option.bind_eq_some_iff.mp H
     obtain ⟨⟨t154, t155, t156, t159⟩, A50, H⟩ := H
     replace H : (if t159 = 0 then ((toc_CloseSession.f 400 t154 t155 t156 false).bind fun bt160 => (if bt160.2.2.2 = 0 then ((toc_Reserve.f k 400 bt160.1 bt160.2.1 bt160.2.2.1 10 0).bind fun bt166 => (if bt166.2.2.2 = 0 then (if (bt166.2.2.1.length : Int) = 2 then (if 0 < (bt166.2.2.1.length : Int) then (if ((rd_T40 bt166.2.2.1 0).f3) = 40 then (if 1 < (bt166.2.2.1.length : Int) then (some (((rd_T40 bt166.2.2.1 1).f0) == 2 && (((rd_T40 bt166.2.2.1 1).f1) == 2 && (((rd_T40 bt166.2.2.1 1).f2) == 56 && (((rd_T40 bt166.2.2.1 1).f3) == 10 && (((rd_T40 bt166.2.2.1 1).f4) == 56 && (((rd_T40 bt166.2.2.1 1).f5) == 0 && (((rd_T40 bt166.2.2.1 1).f6) == 0)))))))) else (none)) else (none)) else (none)) else (none)) else (none))) else (none))) else (none)) = some r := H
     have A5 := Aside0.mk A50
     clear A50
     by_cases c6 : t159 = 0
     · rw [if_pos c6] at H
       have c6b0 : (t159 == 0) = true := beq_iff_eq.mpr c6
       have c6b1 : (t159 != 0) = false := bne_eq_false_iff_eq.mpr c6
       clear c6
       replace H := Option.bind_eq_some_iff.mp H
       obtain ⟨⟨t160, t161, t162, t165⟩, A70, H⟩ := H
       replace H : (if t165 = 0 then ((toc_Reserve.f k 400 t160 t161 t162 10 0).bind fun bt166 => (if bt166.2.2.2 = 0 then (if (bt166.2.2.1.length : Int) = 2 then (if 0 < (bt166.2.2.1.length : Int) then (if ((rd_T40 bt166.2.2.1 0).f3) = 40 then (if 1 < (bt166.2.2.1.length : Int) then (some (((rd_T40 bt166.2.2.1 1).f0) == 2 && (((rd_T40 bt166.2.2.1 1).f1) == 2 && (((rd_T40 bt166.2.2.1 1).f2) == 56 && (((rd_T40 bt166.2.2.1 1).f3) == 10 && (((rd_T40 bt166.2.2.1 1).f4) == 56 && (((rd_T40 bt166.2.2.1 1).f5) == 0 && (((rd_T40 bt166.2.2.1 1).f6) == 0)))))))) else (none)) else (none)) else (none)) else (none)) else (none))) else (none)) = some r := H
       have A7 := Aside0.mk A70
       clear A70
       by_cases c8 : t165 = 0
       · rw [if_pos c8] at H
         have c8b0 : (t165 == 0) = true := beq_iff_eq.mpr c8
         have c8b1 : (t165 != 0) = false := bne_eq_false_iff_eq.mpr c8
         clear c8
         replace H := Option.bind_eq_some_iff.mp H
         obtain ⟨⟨t166, t167, t168, t171⟩, A90, H⟩ := H
         replace H : (if t171 = 0 then (if (t168.length : Int) = 2 then (if 0 < (t168.length : Int) then (if ((rd_T40 t168 0).f3) = 40 then (if 1 < (t168.length : Int) then (some (((rd_T40 t168 1).f0) == 2 && (((rd_T40 t168 1).f1) == 2 && (((rd_T40 t168 1).f2) == 56 && (((rd_T40 t168 1).f3) == 10 && (((rd_T40 t168 1).f4) == 56 && (((rd_T40 t168 1).f5) == 0 && (((rd_T40 t168 1).f6) == 0)))))))) else (none)) else (none)) else (none)) else (none)) else (none)) = some r := H
         have A9 := Aside0.mk A90
         clear A90
         by_cases c10 : t171 = 0
         · rw [if_pos c10] at H
           have c10b0 : (t171 == 0) = true := beq_iff_eq.mpr c10
           have c10b1 : (t171 != 0) = false := bne_eq_false_iff_eq.mpr c10
           clear c10
           by_cases c11 : (t168.length : Int) = 2
           · rw [if_pos c11] at H
             have c11b0 : ((t168.length : Int) == 2) = true := beq_iff_eq.mpr c11
             have c11b1 : ((t168.length : Int) != 2) = false := bne_eq_false_iff_eq.mpr c11
             clear c11
             by_cases c12 : 0 < (t168.length : Int)
             · rw [if_pos c12] at H
               have c12b0 : decide (0 < (t168.length : Int)) = true := decide_eq_true c12
               have c12b1 : decide (0 < t168.length) = true := decide_eq_true (by omega)
               clear c12
               by_cases c13 : ((rd_T40 t168 0).f3) = 40
               · rw [if_pos c13] at H
                 have c13b0 : (((rd_T40 t168 0).f3) == 40) = true := beq_iff_eq.mpr c13
                 have c13b1 : (((rd_T40 t168 0).f3) != 40) = false := bne_eq_false_iff_eq.mpr c13
                 clear c13
                 by_cases c14 : 1 < (t168.length : Int)
                 · rw [if_pos c14] at H
                   have c14b0 : decide (1 < (t168.length : Int)) = true := decide_eq_true c14
                   have c14b1 : decide (1 < t168.length) = true := decide_eq_true (by omega)
                   clear c14
                   obtain rfl := Option.some.inj H
                   go_enter Try.func6, Try.ntmps6
                   go_wp2_with (first | ((with_reducible refine gate_callee (f := 16) rfl ?_); refine goesL_ (some 5) rfl rfl Try.func16 (by kernel_rfl) rfl #[.int .i64 400, .agg #[.int .i64 0, .bool false, .slice none 0 0], .int .i64 100, .int .i64 0] rfl (by (try simp only [List.map_toArray, List.map_cons, List.map_nil]); first | done | rfl | (simp only [List.length_drop, List.length_take]; rfl)) ?_; (refine (toc_Reserve.calls k 400 0 false _ _ ([] : List (S40)) 100 0 t141 t142 t143 t146 _ ?side1 ?side2 A1.out).mono ?_); (case side1 => exact Kd.C_nil _ _); (case side2 => exact Nat.le_refl _); rintro e w15 ⟨v144, rfl, ho0, hb⟩; refine ⟨_, rfl, ?_⟩; have n0_ := Aside0.mk (Kd.R_lower ho0 (below_size (by repeat (first | (with_reducible first | exact HB.out | apply below_alloc | apply pw_below_drewN | apply below_drew1) | exact HB.out)))); have n1_ := Aside0.mk (below_step (by repeat (first | (with_reducible first | exact HB.out | apply below_alloc | apply pw_below_drewN | apply below_drew1) | exact HB.out)) hb); clear HB; have HO145 := n0_; have HB := n1_; clear n0_ n1_; (try clear hb); (try clear hb2); (try clear hk); (try clear hi); (try clear ho0)) | ((with_reducible refine gate_dst (N := 1) rfl ?_); (try (refine gate_guard (by rfl) ?_; dsimp only)); refine box_event ?hg (N := 1) ?hd (cs := #[.int .i64 0, .bool false, .slice none 0 0]) (t := 24) ?hr ?_; (case hd => rfl); (case hg => rfl); (case hr => first | (go_simp; done) | (go_simp; rfl)); intro gb147 hg w16 hbox hb; have n0_ := Aside0.mk (Kd.R_below (by (with_reducible repeat (first | apply Kd.R_alloc | apply Kd.R_drewN | apply Kd.R_drew)); exact HO145.out) hb); have n1_ := Aside0.mk (below_step (by repeat (first | (with_reducible first | exact HB.out | apply below_alloc | apply pw_below_drewN | apply below_drew1) | exact HB.out)) hb); have n2_ := Aside0.mk (hbox); have n3_ := Aside0.mk ((by rw [hg]; exact (below_size (by repeat (first | (with_reducible first | exact HB.out | apply below_alloc | apply pw_below_drewN | apply below_drew1) | exact HB.out))) : w.heap.size ≤ gb147)); have n4_ := Aside0.mk ((by rw [hg]; exact (below_size (by repeat (first | (with_reducible first | exact HB.out | apply below_alloc | apply pw_below_drewN | apply below_drew1) | exact HB.out))) : w.heap.size ≤ gb147)); clear HO145; clear HB; have HO145 := n0_; have HB := n1_; have BK147 := n2_; have GW147 := n3_; have GE147 := n4_; clear n0_ n1_ n2_ n3_ n4_; clear hb hbox hg; obtain ⟨hcz17_0, hcz17_1, hcz17_2⟩ := cel3 BK147.out; obtain ⟨hfz17_0, hfz17_1, hfz17_2⟩ := frz3 BK147.out; obtain ⟨Ao18, co18, eo18⟩ := Kd.R_slice HO145.out; subst eo18) | ((with_reducible refine gate_callee (f := 17) rfl ?_); refine goesL_ (some 12) rfl rfl Try.func17 (by kernel_rfl) rfl #[.int .i64 400, .agg #[.int .i64 t141, .bool t142, .slice Ao18 t143.length co18], .int .i64 0, .int .i64 40] rfl (by (try simp only [List.map_toArray, List.map_cons, List.map_nil]); first | done | rfl | (simp only [List.length_drop, List.length_take]; rfl)) ?_; (with_reducible refine (toc_Append.calls k 400 t141 t142 _ _ t143 0 40 t148 t149 t150 t153 _ ?side1 ?side2 A3.out).mono ?_); (case side1 => refine (Kd.R_reads' (e := 40) (base := w.heap.size) (ok := fun k_ => True) (n := t143.length) (c := co18) ?_).2.2; exact (by (with_reducible repeat (first | apply Kd.R_alloc | apply Kd.R_drewN | apply Kd.R_drew)); exact (Kd.R_mono (Kd.R_far (p := ⟨gb147, 2, none⟩) (Kd.R_far (p := ⟨gb147, 1, none⟩) (Kd.R_far (p := ⟨gb147, 0, none⟩) (Kd.R_types HO145.out BK147.out (by decide)) (fun _ hk => hk.2) (.int .i64 t141)) (fun _ hk => hk.2) (.bool t142)) (fun _ hk => hk.2) (.slice Ao18 t143.length co18)) (fun _ h_ => h_.1)))); (case side2 => exact (Kd.R_reads' HO145.out).2.1); rintro e w19 ⟨v151, rfl, ho0, hb⟩; refine ⟨_, rfl, ?_⟩; have n0_ := Aside0.mk (Kd.R_elder' (by (with_reducible repeat (first | apply Kd.R_alloc | apply Kd.R_drewN | apply Kd.R_drew)); exact (Kd.R_mono (Kd.R_far (p := ⟨gb147, 2, none⟩) (Kd.R_far (p := ⟨gb147, 1, none⟩) (Kd.R_far (p := ⟨gb147, 0, none⟩) (Kd.R_types HO145.out BK147.out (by decide)) (fun _ hk => hk.2) (.int .i64 t141)) (fun _ hk => hk.2) (.bool t142)) (fun _ hk => hk.2) (.slice Ao18 t143.length co18)) (fun _ h_ => h_.1))) (Kd.R_base ho0) hb); have n1_ := Aside0.mk (Kd.R_lower (Kd.R_new' ho0 (Kd.R_lt (by (with_reducible repeat (first | apply Kd.R_alloc | apply Kd.R_drewN | apply Kd.R_drew)); exact (Kd.R_mono (Kd.R_far (p := ⟨gb147, 2, none⟩) (Kd.R_far (p := ⟨gb147, 1, none⟩) (Kd.R_far (p := ⟨gb147, 0, none⟩) (Kd.R_types HO145.out BK147.out (by decide)) (fun _ hk => hk.2) (.int .i64 t141)) (fun _ hk => hk.2) (.bool t142)) (fun _ hk => hk.2) (.slice Ao18 t143.length co18)) (fun _ h_ => h_.1))))) (below_size (by repeat (first | (with_reducible first | exact HB.out | apply below_alloc | apply pw_below_drewN | apply below_drew1 | refine below_set ?_ GE147.out) | exact HB.out)))); have n2_ := Aside0.mk (blk_below (g := gb147) (o := .cells #[.int .i64 t141, .bool t142, .slice Ao18 t143.length co18] 24 (0, 0)) (by (with_reducible repeat (first | refine blk_drewN ?_ _ | refine blk_drew ?_ | refine blk_alloc ?_ _)); refine blk_put (cs := #[.int .i64 t141, .bool t142, .slice none 0 0]) ?_ 2 _ rfl; (with_reducible repeat (first | refine blk_drewN ?_ _ | refine blk_drew ?_ | refine blk_alloc ?_ _)); refine blk_put (cs := #[.int .i64 t141, .bool false, .slice none 0 0]) ?_ 1 _ rfl; (with_reducible repeat (first | refine blk_drewN ?_ _ | refine blk_drew ?_ | refine blk_alloc ?_ _)); refine blk_put (cs := #[.int .i64 0, .bool false, .slice none 0 0]) ?_ 0 _ rfl; (with_reducible repeat (first | refine blk_drewN ?_ _ | refine blk_drew ?_ | refine blk_alloc ?_ _)); exact BK147.out) hb); have n3_ := Aside0.mk (below_step (by repeat (first | (with_reducible first | exact HB.out | apply below_alloc | apply pw_below_drewN | apply below_drew1 | refine below_set ?_ GE147.out) | exact HB.out)) hb); clear HO145; clear BK147; clear HB; have HO145 := n0_; have HO152 := n1_; have BK147 := n2_; have HB := n3_; clear n0_ n1_ n2_ n3_; (try clear hb); (try clear hb2); (try clear hk); (try clear hi); (try clear ho0); obtain ⟨hcz20_0, hcz20_1, hcz20_2⟩ := cel3 BK147.out; obtain ⟨hfz20_0, hfz20_1, hfz20_2⟩ := frz3 BK147.out; obtain ⟨Ao21, co21, eo21⟩ := Kd.R_slice HO152.out; subst eo21) | ((with_reducible refine gate_callee (f := 18) rfl ?_); refine goesL_ (some 19) rfl rfl Try.func18 (by kernel_rfl) rfl #[.int .i64 400, .agg #[.int .i64 t148, .bool t149, .slice Ao21 t150.length co21], .int .i64 1] rfl (by (try simp only [List.map_toArray, List.map_cons, List.map_nil]); first | done | rfl | (simp only [List.length_drop, List.length_take]; rfl)) ?_; (with_reducible refine (toc_CloseTrack.calls 400 t148 t149 _ _ t150 1 t154 t155 t156 t159 _ ?side1 ?side2 A5.out).mono ?_); (case side1 => refine (Kd.R_reads' (e := 40) (base := w.heap.size) (ok := fun k_ => (True ∧ some k_ ≠ (.slice Ao18 t143.length co18 : Value).ownBlock)) (n := t150.length) (c := co21) ?_).2.2; exact (by (with_reducible repeat (first | apply Kd.R_alloc | apply Kd.R_drewN | apply Kd.R_drew)); exact (Kd.R_mono (Kd.R_far (p := ⟨gb147, 2, none⟩) (Kd.R_far (p := ⟨gb147, 1, none⟩) (Kd.R_far (p := ⟨gb147, 0, none⟩) (Kd.R_types HO152.out BK147.out (by decide)) (fun _ hk => hk.2) (.int .i64 t148)) (fun _ hk => hk.2) (.bool t149)) (fun _ hk => hk.2) (.slice Ao21 t150.length co21)) (fun _ h_ => h_.1)))); (case side2 => exact (Kd.R_reads' HO152.out).2.1); rintro e w22 ⟨v157, rfl, ho0, hb⟩; refine ⟨_, rfl, ?_⟩; have n0_ := Aside0.mk (Kd.R_elder' (by (with_reducible repeat (first | apply Kd.R_alloc | apply Kd.R_drewN | apply Kd.R_drew)); exact (Kd.R_mono (Kd.R_far (p := ⟨gb147, 2, none⟩) (Kd.R_far (p := ⟨gb147, 1, none⟩) (Kd.R_far (p := ⟨gb147, 0, none⟩) (Kd.R_types HO145.out BK147.out (by decide)) (fun _ hk => hk.2) (.int .i64 t148)) (fun _ hk => hk.2) (.bool t149)) (fun _ hk => hk.2) (.slice Ao21 t150.length co21)) (fun _ h_ => h_.1))) (Kd.R_base ho0) hb); have n1_ := Aside0.mk (Kd.R_elder' (by (with_reducible repeat (first | apply Kd.R_alloc | apply Kd.R_drewN | apply Kd.R_drew)); exact (Kd.R_mono (Kd.R_far (p := ⟨gb147, 2, none⟩) (Kd.R_far (p := ⟨gb147, 1, none⟩) (Kd.R_far (p := ⟨gb147, 0, none⟩) (Kd.R_types HO152.out BK147.out (by decide)) (fun _ hk => hk.2) (.int .i64 t148)) (fun _ hk => hk.2) (.bool t149)) (fun _ hk => hk.2) (.slice Ao21 t150.length co21)) (fun _ h_ => h_.1))) (Kd.R_base ho0) hb); have n2_ := Aside0.mk (Kd.R_lower (Kd.R_new' (Kd.R_new' ho0 (Kd.R_lt (by (with_reducible repeat (first | apply Kd.R_alloc | apply Kd.R_drewN | apply Kd.R_drew)); exact (Kd.R_mono (Kd.R_far (p := ⟨gb147, 2, none⟩) (Kd.R_far (p := ⟨gb147, 1, none⟩) (Kd.R_far (p := ⟨gb147, 0, none⟩) (Kd.R_types HO145.out BK147.out (by decide)) (fun _ hk => hk.2) (.int .i64 t148)) (fun _ hk => hk.2) (.bool t149)) (fun _ hk => hk.2) (.slice Ao21 t150.length co21)) (fun _ h_ => h_.1))))) (Kd.R_lt (by (with_reducible repeat (first | apply Kd.R_alloc | apply Kd.R_drewN | apply Kd.R_drew)); exact (Kd.R_mono (Kd.R_far (p := ⟨gb147, 2, none⟩) (Kd.R_far (p := ⟨gb147, 1, none⟩) (Kd.R_far (p := ⟨gb147, 0, none⟩) (Kd.R_types HO152.out BK147.out (by decide)) (fun _ hk => hk.2) (.int .i64 t148)) (fun _ hk => hk.2) (.bool t149)) (fun _ hk => hk.2) (.slice Ao21 t150.length co21)) (fun _ h_ => h_.1))))) (below_size (by repeat (first | (with_reducible first | exact HB.out | apply below_alloc | apply pw_below_drewN | apply below_drew1 | refine below_set ?_ GE147.out) | exact HB.out)))); have n3_ := Aside0.mk (blk_below (g := gb147) (o := .cells #[.int .i64 t148, .bool t149, .slice Ao21 t150.length co21] 24 (0, 0)) (by (with_reducible repeat (first | refine blk_drewN ?_ _ | refine blk_drew ?_ | refine blk_alloc ?_ _)); refine blk_put (cs := #[.int .i64 t148, .bool t149, .slice Ao18 t143.length co18]) ?_ 2 _ rfl; (with_reducible repeat (first | refine blk_drewN ?_ _ | refine blk_drew ?_ | refine blk_alloc ?_ _)); refine blk_put (cs := #[.int .i64 t148, .bool t142, .slice Ao18 t143.length co18]) ?_ 1 _ rfl; (with_reducible repeat (first | refine blk_drewN ?_ _ | refine blk_drew ?_ | refine blk_alloc ?_ _)); refine blk_put (cs := #[.int .i64 t141, .bool t142, .slice Ao18 t143.length co18]) ?_ 0 _ rfl; (with_reducible repeat (first | refine blk_drewN ?_ _ | refine blk_drew ?_ | refine blk_alloc ?_ _)); exact BK147.out) hb); have n4_ := Aside0.mk (below_step (by repeat (first | (with_reducible first | exact HB.out | apply below_alloc | apply pw_below_drewN | apply below_drew1 | refine below_set ?_ GE147.out) | exact HB.out)) hb); clear HO145; clear HO152; clear BK147; clear HB; have HO145 := n0_; have HO152 := n1_; have HO158 := n2_; have BK147 := n3_; have HB := n4_; clear n0_ n1_ n2_ n3_ n4_; (try clear hb); (try clear hb2); (try clear hk); (try clear hi); (try clear ho0); obtain ⟨hcz23_0, hcz23_1, hcz23_2⟩ := cel3 BK147.out; obtain ⟨hfz23_0, hfz23_1, hfz23_2⟩ := frz3 BK147.out; obtain ⟨Ao24, co24, eo24⟩ := Kd.R_slice HO158.out; subst eo24) | ((with_reducible refine gate_callee (f := 19) rfl ?_); refine goesL_ (some 26) rfl rfl Try.func19 (by kernel_rfl) rfl #[.int .i64 400, .agg #[.int .i64 t154, .bool t155, .slice Ao24 t156.length co24], .bool false] rfl (by (try simp only [List.map_toArray, List.map_cons, List.map_nil]); first | done | rfl | (simp only [List.length_drop, List.length_take]; rfl)) ?_; (with_reducible refine (toc_CloseSession.calls 400 t154 t155 _ _ t156 false t160 t161 t162 t165 _ ?side1 ?side2 A7.out).mono ?_); (case side1 => refine (Kd.R_reads' (e := 40) (base := w.heap.size) (ok := fun k_ => ((True ∧ some k_ ≠ (.slice Ao18 t143.length co18 : Value).ownBlock) ∧ some k_ ≠ (.slice Ao21 t150.length co21 : Value).ownBlock)) (n := t156.length) (c := co24) ?_).2.2; exact (by (with_reducible repeat (first | apply Kd.R_alloc | apply Kd.R_drewN | apply Kd.R_drew)); exact (Kd.R_mono (Kd.R_far (p := ⟨gb147, 2, none⟩) (Kd.R_far (p := ⟨gb147, 1, none⟩) (Kd.R_far (p := ⟨gb147, 0, none⟩) (Kd.R_types HO158.out BK147.out (by decide)) (fun _ hk => hk.2) (.int .i64 t154)) (fun _ hk => hk.2) (.bool t155)) (fun _ hk => hk.2) (.slice Ao24 t156.length co24)) (fun _ h_ => h_.1)))); (case side2 => exact (Kd.R_reads' HO158.out).2.1); rintro e w25 ⟨v163, rfl, ho0, hb⟩; refine ⟨_, rfl, ?_⟩; have n0_ := Aside0.mk (Kd.R_elder' (by (with_reducible repeat (first | apply Kd.R_alloc | apply Kd.R_drewN | apply Kd.R_drew)); exact (Kd.R_mono (Kd.R_far (p := ⟨gb147, 2, none⟩) (Kd.R_far (p := ⟨gb147, 1, none⟩) (Kd.R_far (p := ⟨gb147, 0, none⟩) (Kd.R_types HO145.out BK147.out (by decide)) (fun _ hk => hk.2) (.int .i64 t154)) (fun _ hk => hk.2) (.bool t155)) (fun _ hk => hk.2) (.slice Ao24 t156.length co24)) (fun _ h_ => h_.1))) (Kd.R_base ho0) hb); have n1_ := Aside0.mk (Kd.R_elder' (by (with_reducible repeat (first | apply Kd.R_alloc | apply Kd.R_drewN | apply Kd.R_drew)); exact (Kd.R_mono (Kd.R_far (p := ⟨gb147, 2, none⟩) (Kd.R_far (p := ⟨gb147, 1, none⟩) (Kd.R_far (p := ⟨gb147, 0, none⟩) (Kd.R_types HO152.out BK147.out (by decide)) (fun _ hk => hk.2) (.int .i64 t154)) (fun _ hk => hk.2) (.bool t155)) (fun _ hk => hk.2) (.slice Ao24 t156.length co24)) (fun _ h_ => h_.1))) (Kd.R_base ho0) hb); have n2_ := Aside0.mk (Kd.R_elder' (by (with_reducible repeat (first | apply Kd.R_alloc | apply Kd.R_drewN | apply Kd.R_drew)); exact (Kd.R_mono (Kd.R_far (p := ⟨gb147, 2, none⟩) (Kd.R_far (p := ⟨gb147, 1, none⟩) (Kd.R_far (p := ⟨gb147, 0, none⟩) (Kd.R_types HO158.out BK147.out (by decide)) (fun _ hk => hk.2) (.int .i64 t154)) (fun _ hk => hk.2) (.bool t155)) (fun _ hk => hk.2) (.slice Ao24 t156.length co24)) (fun _ h_ => h_.1))) (Kd.R_base ho0) hb); have n3_ := Aside0.mk (Kd.R_lower (Kd.R_new' (Kd.R_new' (Kd.R_new' ho0 (Kd.R_lt (by (with_reducible repeat (first | apply Kd.R_alloc | apply Kd.R_drewN | apply Kd.R_drew)); exact (Kd.R_mono (Kd.R_far (p := ⟨gb147, 2, none⟩) (Kd.R_far (p := ⟨gb147, 1, none⟩) (Kd.R_far (p := ⟨gb147, 0, none⟩) (Kd.R_types HO145.out BK147.out (by decide)) (fun _ hk => hk.2) (.int .i64 t154)) (fun _ hk => hk.2) (.bool t155)) (fun _ hk => hk.2) (.slice Ao24 t156.length co24)) (fun _ h_ => h_.1))))) (Kd.R_lt (by (with_reducible repeat (first | apply Kd.R_alloc | apply Kd.R_drewN | apply Kd.R_drew)); exact (Kd.R_mono (Kd.R_far (p := ⟨gb147, 2, none⟩) (Kd.R_far (p := ⟨gb147, 1, none⟩) (Kd.R_far (p := ⟨gb147, 0, none⟩) (Kd.R_types HO152.out BK147.out (by decide)) (fun _ hk => hk.2) (.int .i64 t154)) (fun _ hk => hk.2) (.bool t155)) (fun _ hk => hk.2) (.slice Ao24 t156.length co24)) (fun _ h_ => h_.1))))) (Kd.R_lt (by (with_reducible repeat (first | apply Kd.R_alloc | apply Kd.R_drewN | apply Kd.R_drew)); exact (Kd.R_mono (Kd.R_far (p := ⟨gb147, 2, none⟩) (Kd.R_far (p := ⟨gb147, 1, none⟩) (Kd.R_far (p := ⟨gb147, 0, none⟩) (Kd.R_types HO158.out BK147.out (by decide)) (fun _ hk => hk.2) (.int .i64 t154)) (fun _ hk => hk.2) (.bool t155)) (fun _ hk => hk.2) (.slice Ao24 t156.length co24)) (fun _ h_ => h_.1))))) (below_size (by repeat (first | (with_reducible first | exact HB.out | apply below_alloc | apply pw_below_drewN | apply below_drew1 | refine below_set ?_ GE147.out) | exact HB.out)))); have n4_ := Aside0.mk (blk_below (g := gb147) (o := .cells #[.int .i64 t154, .bool t155, .slice Ao24 t156.length co24] 24 (0, 0)) (by (with_reducible repeat (first | refine blk_drewN ?_ _ | refine blk_drew ?_ | refine blk_alloc ?_ _)); refine blk_put (cs := #[.int .i64 t154, .bool t155, .slice Ao21 t150.length co21]) ?_ 2 _ rfl; (with_reducible repeat (first | refine blk_drewN ?_ _ | refine blk_drew ?_ | refine blk_alloc ?_ _)); refine blk_put (cs := #[.int .i64 t154, .bool t149, .slice Ao21 t150.length co21]) ?_ 1 _ rfl; (with_reducible repeat (first | refine blk_drewN ?_ _ | refine blk_drew ?_ | refine blk_alloc ?_ _)); refine blk_put (cs := #[.int .i64 t148, .bool t149, .slice Ao21 t150.length co21]) ?_ 0 _ rfl; (with_reducible repeat (first | refine blk_drewN ?_ _ | refine blk_drew ?_ | refine blk_alloc ?_ _)); exact BK147.out) hb); have n5_ := Aside0.mk (below_step (by repeat (first | (with_reducible first | exact HB.out | apply below_alloc | apply pw_below_drewN | apply below_drew1 | refine below_set ?_ GE147.out) | exact HB.out)) hb); clear HO145; clear HO152; clear HO158; clear BK147; clear HB; have HO145 := n0_; have HO152 := n1_; have HO158 := n2_; have HO164 := n3_; have BK147 := n4_; have HB := n5_; clear n0_ n1_ n2_ n3_ n4_ n5_; (try clear hb); (try clear hb2); (try clear hk); (try clear hi); (try clear ho0); obtain ⟨hcz26_0, hcz26_1, hcz26_2⟩ := cel3 BK147.out; obtain ⟨hfz26_0, hfz26_1, hfz26_2⟩ := frz3 BK147.out; obtain ⟨Ao27, co27, eo27⟩ := Kd.R_slice HO164.out; subst eo27) | ((with_reducible refine gate_callee (f := 16) rfl ?_); refine goesL_ (some 33) rfl rfl Try.func16 (by kernel_rfl) rfl #[.int .i64 400, .agg #[.int .i64 t160, .bool t161, .slice Ao27 t162.length co27], .int .i64 10, .int .i64 0] rfl (by (try simp only [List.map_toArray, List.map_cons, List.map_nil]); first | done | rfl | (simp only [List.length_drop, List.length_take]; rfl)) ?_; (with_reducible refine (toc_Reserve.calls k 400 t160 t161 _ _ t162 10 0 t166 t167 t168 t171 _ ?side1 ?side2 A9.out).mono ?_); (case side1 => refine (Kd.R_reads' (e := 40) (base := w.heap.size) (ok := fun k_ => (((True ∧ some k_ ≠ (.slice Ao18 t143.length co18 : Value).ownBlock) ∧ some k_ ≠ (.slice Ao21 t150.length co21 : Value).ownBlock) ∧ some k_ ≠ (.slice Ao24 t156.length co24 : Value).ownBlock)) (n := t162.length) (c := co27) ?_).2.2; exact (by (with_reducible repeat (first | apply Kd.R_alloc | apply Kd.R_drewN | apply Kd.R_drew)); exact (Kd.R_mono (Kd.R_far (p := ⟨gb147, 2, none⟩) (Kd.R_far (p := ⟨gb147, 1, none⟩) (Kd.R_far (p := ⟨gb147, 0, none⟩) (Kd.R_types HO164.out BK147.out (by decide)) (fun _ hk => hk.2) (.int .i64 t160)) (fun _ hk => hk.2) (.bool t161)) (fun _ hk => hk.2) (.slice Ao27 t162.length co27)) (fun _ h_ => h_.1)))); (case side2 => exact (Kd.R_reads' HO164.out).2.1); rintro e w28 ⟨v169, rfl, ho0, hb⟩; refine ⟨_, rfl, ?_⟩; have n0_ := Aside0.mk (Kd.R_elder' (by (with_reducible repeat (first | apply Kd.R_alloc | apply Kd.R_drewN | apply Kd.R_drew)); exact (Kd.R_mono (Kd.R_far (p := ⟨gb147, 2, none⟩) (Kd.R_far (p := ⟨gb147, 1, none⟩) (Kd.R_far (p := ⟨gb147, 0, none⟩) (Kd.R_types HO145.out BK147.out (by decide)) (fun _ hk => hk.2) (.int .i64 t160)) (fun _ hk => hk.2) (.bool t161)) (fun _ hk => hk.2) (.slice Ao27 t162.length co27)) (fun _ h_ => h_.1))) (Kd.R_base ho0) hb); have n1_ := Aside0.mk (Kd.R_elder' (by (with_reducible repeat (first | apply Kd.R_alloc | apply Kd.R_drewN | apply Kd.R_drew)); exact (Kd.R_mono (Kd.R_far (p := ⟨gb147, 2, none⟩) (Kd.R_far (p := ⟨gb147, 1, none⟩) (Kd.R_far (p := ⟨gb147, 0, none⟩) (Kd.R_types HO152.out BK147.out (by decide)) (fun _ hk => hk.2) (.int .i64 t160)) (fun _ hk => hk.2) (.bool t161)) (fun _ hk => hk.2) (.slice Ao27 t162.length co27)) (fun _ h_ => h_.1))) (Kd.R_base ho0) hb); have n2_ := Aside0.mk (Kd.R_elder' (by (with_reducible repeat (first | apply Kd.R_alloc | apply Kd.R_drewN | apply Kd.R_drew)); exact (Kd.R_mono (Kd.R_far (p := ⟨gb147, 2, none⟩) (Kd.R_far (p := ⟨gb147, 1, none⟩) (Kd.R_far (p := ⟨gb147, 0, none⟩) (Kd.R_types HO158.out BK147.out (by decide)) (fun _ hk => hk.2) (.int .i64 t160)) (fun _ hk => hk.2) (.bool t161)) (fun _ hk => hk.2) (.slice Ao27 t162.length co27)) (fun _ h_ => h_.1))) (Kd.R_base ho0) hb); have n3_ := Aside0.mk (Kd.R_elder' (by (with_reducible repeat (first | apply Kd.R_alloc | apply Kd.R_drewN | apply Kd.R_drew)); exact (Kd.R_mono (Kd.R_far (p := ⟨gb147, 2, none⟩) (Kd.R_far (p := ⟨gb147, 1, none⟩) (Kd.R_far (p := ⟨gb147, 0, none⟩) (Kd.R_types HO164.out BK147.out (by decide)) (fun _ hk => hk.2) (.int .i64 t160)) (fun _ hk => hk.2) (.bool t161)) (fun _ hk => hk.2) (.slice Ao27 t162.length co27)) (fun _ h_ => h_.1))) (Kd.R_base ho0) hb); have n4_ := Aside0.mk (Kd.R_lower (Kd.R_new' (Kd.R_new' (Kd.R_new' (Kd.R_new' ho0 (Kd.R_lt (by (with_reducible repeat (first | apply Kd.R_alloc | apply Kd.R_drewN | apply Kd.R_drew)); exact (Kd.R_mono (Kd.R_far (p := ⟨gb147, 2, none⟩) (Kd.R_far (p := ⟨gb147, 1, none⟩) (Kd.R_far (p := ⟨gb147, 0, none⟩) (Kd.R_types HO145.out BK147.out (by decide)) (fun _ hk => hk.2) (.int .i64 t160)) (fun _ hk => hk.2) (.bool t161)) (fun _ hk => hk.2) (.slice Ao27 t162.length co27)) (fun _ h_ => h_.1))))) (Kd.R_lt (by (with_reducible repeat (first | apply Kd.R_alloc | apply Kd.R_drewN | apply Kd.R_drew)); exact (Kd.R_mono (Kd.R_far (p := ⟨gb147, 2, none⟩) (Kd.R_far (p := ⟨gb147, 1, none⟩) (Kd.R_far (p := ⟨gb147, 0, none⟩) (Kd.R_types HO152.out BK147.out (by decide)) (fun _ hk => hk.2) (.int .i64 t160)) (fun _ hk => hk.2) (.bool t161)) (fun _ hk => hk.2) (.slice Ao27 t162.length co27)) (fun _ h_ => h_.1))))) (Kd.R_lt (by (with_reducible repeat (first | apply Kd.R_alloc | apply Kd.R_drewN | apply Kd.R_drew)); exact (Kd.R_mono (Kd.R_far (p := ⟨gb147, 2, none⟩) (Kd.R_far (p := ⟨gb147, 1, none⟩) (Kd.R_far (p := ⟨gb147, 0, none⟩) (Kd.R_types HO158.out BK147.out (by decide)) (fun _ hk => hk.2) (.int .i64 t160)) (fun _ hk => hk.2) (.bool t161)) (fun _ hk => hk.2) (.slice Ao27 t162.length co27)) (fun _ h_ => h_.1))))) (Kd.R_lt (by (with_reducible repeat (first | apply Kd.R_alloc | apply Kd.R_drewN | apply Kd.R_drew)); exact (Kd.R_mono (Kd.R_far (p := ⟨gb147, 2, none⟩) (Kd.R_far (p := ⟨gb147, 1, none⟩) (Kd.R_far (p := ⟨gb147, 0, none⟩) (Kd.R_types HO164.out BK147.out (by decide)) (fun _ hk => hk.2) (.int .i64 t160)) (fun _ hk => hk.2) (.bool t161)) (fun _ hk => hk.2) (.slice Ao27 t162.length co27)) (fun _ h_ => h_.1))))) (below_size (by repeat (first | (with_reducible first | exact HB.out | apply below_alloc | apply pw_below_drewN | apply below_drew1 | refine below_set ?_ GE147.out) | exact HB.out)))); have n5_ := Aside0.mk (blk_below (g := gb147) (o := .cells #[.int .i64 t160, .bool t161, .slice Ao27 t162.length co27] 24 (0, 0)) (by (with_reducible repeat (first | refine blk_drewN ?_ _ | refine blk_drew ?_ | refine blk_alloc ?_ _)); refine blk_put (cs := #[.int .i64 t160, .bool t161, .slice Ao24 t156.length co24]) ?_ 2 _ rfl; (with_reducible repeat (first | refine blk_drewN ?_ _ | refine blk_drew ?_ | refine blk_alloc ?_ _)); refine blk_put (cs := #[.int .i64 t160, .bool t155, .slice Ao24 t156.length co24]) ?_ 1 _ rfl; (with_reducible repeat (first | refine blk_drewN ?_ _ | refine blk_drew ?_ | refine blk_alloc ?_ _)); refine blk_put (cs := #[.int .i64 t154, .bool t155, .slice Ao24 t156.length co24]) ?_ 0 _ rfl; (with_reducible repeat (first | refine blk_drewN ?_ _ | refine blk_drew ?_ | refine blk_alloc ?_ _)); exact BK147.out) hb); have n6_ := Aside0.mk (below_step (by repeat (first | (with_reducible first | exact HB.out | apply below_alloc | apply pw_below_drewN | apply below_drew1 | refine below_set ?_ GE147.out) | exact HB.out)) hb); clear HO145; clear HO152; clear HO158; clear HO164; clear BK147; clear HB; have HO145 := n0_; have HO152 := n1_; have HO158 := n2_; have HO164 := n3_; have HO170 := n4_; have BK147 := n5_; have HB := n6_; clear n0_ n1_ n2_ n3_ n4_ n5_ n6_; (try clear hb); (try clear hb2); (try clear hk); (try clear hi); (try clear ho0); obtain ⟨hcz29_0, hcz29_1, hcz29_2⟩ := cel3 BK147.out; obtain ⟨hfz29_0, hfz29_1, hfz29_2⟩ := frz3 BK147.out; obtain ⟨Ao30, co30, eo30⟩ := Kd.R_slice HO170.out; subst eo30; have p172 : 0 ≤ (0 : Int) := (by omega); have q172 : 0 < (t168.length : Int) := of_decide_eq_true (by first | (with_reducible assumption) | assumption); obtain ⟨ad172, e172, hx172_0, hx172_1, hx172_2, hx172_3, hx172_4, hx172_5, hx172_6⟩ := at_T40 (Kd.R_reads' HO170.out).2.2 0 p172 q172; cases e172; have qi172 : (0 < t168.length) = True := eq_true (by omega); (try rw [show ((0 : Int)).toNat = 0 from rfl] at hx172_0); (try rw [show 0 * 7 = 0 from rfl] at hx172_0); (try rw [Addr.add_zero'] at hx172_0); (try rw [show ((0 : Int)).toNat = 0 from rfl] at hx172_1); (try rw [show 0 * 7 = 0 from rfl] at hx172_1); (try rw [Addr.add_zero'] at hx172_1); (try rw [show ((0 : Int)).toNat = 0 from rfl] at hx172_2); (try rw [show 0 * 7 = 0 from rfl] at hx172_2); (try rw [Addr.add_zero'] at hx172_2); (try rw [show ((0 : Int)).toNat = 0 from rfl] at hx172_3); (try rw [show 0 * 7 = 0 from rfl] at hx172_3); (try rw [Addr.add_zero'] at hx172_3); (try rw [show ((0 : Int)).toNat = 0 from rfl] at hx172_4); (try rw [show 0 * 7 = 0 from rfl] at hx172_4); (try rw [Addr.add_zero'] at hx172_4); (try rw [show ((0 : Int)).toNat = 0 from rfl] at hx172_5); (try rw [show 0 * 7 = 0 from rfl] at hx172_5); (try rw [Addr.add_zero'] at hx172_5); (try rw [show ((0 : Int)).toNat = 0 from rfl] at hx172_6); (try rw [show 0 * 7 = 0 from rfl] at hx172_6); (try rw [Addr.add_zero'] at hx172_6); have hn172_0 : ad172.block ≠ gb147 := Kd.own_blk (Kd.R_ne HO170.out BK147.out (by decide)); have hn172_1 : ad172.block ≠ gb147 := Kd.own_blk (Kd.R_ne HO170.out BK147.out (by decide)); have hn172_2 : ad172.block ≠ gb147 := Kd.own_blk (Kd.R_ne HO170.out BK147.out (by decide)); replace hx172_0 := (cell_far (p := ⟨gb147, 0, none⟩) (by first | (rw [add_block]; exact hn172_0) | (show (Addr.add _ _).block ≠ _; rw [add_block]; exact hn172_0) | exact hn172_0) (.int .i64 t166)).trans hx172_0; replace hx172_1 := (cell_far (p := ⟨gb147, 0, none⟩) (by first | (rw [add_block]; exact hn172_0) | (show (Addr.add _ _).block ≠ _; rw [add_block]; exact hn172_0) | exact hn172_0) (.int .i64 t166)).trans hx172_1; replace hx172_2 := (cell_far (p := ⟨gb147, 0, none⟩) (by first | (rw [add_block]; exact hn172_0) | (show (Addr.add _ _).block ≠ _; rw [add_block]; exact hn172_0) | exact hn172_0) (.int .i64 t166)).trans hx172_2; replace hx172_3 := (cell_far (p := ⟨gb147, 0, none⟩) (by first | (rw [add_block]; exact hn172_0) | (show (Addr.add _ _).block ≠ _; rw [add_block]; exact hn172_0) | exact hn172_0) (.int .i64 t166)).trans hx172_3; replace hx172_4 := (cell_far (p := ⟨gb147, 0, none⟩) (by first | (rw [add_block]; exact hn172_0) | (show (Addr.add _ _).block ≠ _; rw [add_block]; exact hn172_0) | exact hn172_0) (.int .i64 t166)).trans hx172_4; replace hx172_5 := (cell_far (p := ⟨gb147, 0, none⟩) (by first | (rw [add_block]; exact hn172_0) | (show (Addr.add _ _).block ≠ _; rw [add_block]; exact hn172_0) | exact hn172_0) (.int .i64 t166)).trans hx172_5; replace hx172_6 := (cell_far (p := ⟨gb147, 0, none⟩) (by first | (rw [add_block]; exact hn172_0) | (show (Addr.add _ _).block ≠ _; rw [add_block]; exact hn172_0) | exact hn172_0) (.int .i64 t166)).trans hx172_6; replace hx172_0 := (cell_far (p := ⟨gb147, 1, none⟩) (by first | (rw [add_block]; exact hn172_1) | (show (Addr.add _ _).block ≠ _; rw [add_block]; exact hn172_1) | exact hn172_1) (.bool t167)).trans hx172_0; replace hx172_1 := (cell_far (p := ⟨gb147, 1, none⟩) (by first | (rw [add_block]; exact hn172_1) | (show (Addr.add _ _).block ≠ _; rw [add_block]; exact hn172_1) | exact hn172_1) (.bool t167)).trans hx172_1; replace hx172_2 := (cell_far (p := ⟨gb147, 1, none⟩) (by first | (rw [add_block]; exact hn172_1) | (show (Addr.add _ _).block ≠ _; rw [add_block]; exact hn172_1) | exact hn172_1) (.bool t167)).trans hx172_2; replace hx172_3 := (cell_far (p := ⟨gb147, 1, none⟩) (by first | (rw [add_block]; exact hn172_1) | (show (Addr.add _ _).block ≠ _; rw [add_block]; exact hn172_1) | exact hn172_1) (.bool t167)).trans hx172_3; replace hx172_4 := (cell_far (p := ⟨gb147, 1, none⟩) (by first | (rw [add_block]; exact hn172_1) | (show (Addr.add _ _).block ≠ _; rw [add_block]; exact hn172_1) | exact hn172_1) (.bool t167)).trans hx172_4; replace hx172_5 := (cell_far (p := ⟨gb147, 1, none⟩) (by first | (rw [add_block]; exact hn172_1) | (show (Addr.add _ _).block ≠ _; rw [add_block]; exact hn172_1) | exact hn172_1) (.bool t167)).trans hx172_5; replace hx172_6 := (cell_far (p := ⟨gb147, 1, none⟩) (by first | (rw [add_block]; exact hn172_1) | (show (Addr.add _ _).block ≠ _; rw [add_block]; exact hn172_1) | exact hn172_1) (.bool t167)).trans hx172_6; replace hx172_0 := (cell_far (p := ⟨gb147, 2, none⟩) (by first | (rw [add_block]; exact hn172_2) | (show (Addr.add _ _).block ≠ _; rw [add_block]; exact hn172_2) | exact hn172_2) (.slice (some ad172) t168.length co30)).trans hx172_0; replace hx172_1 := (cell_far (p := ⟨gb147, 2, none⟩) (by first | (rw [add_block]; exact hn172_2) | (show (Addr.add _ _).block ≠ _; rw [add_block]; exact hn172_2) | exact hn172_2) (.slice (some ad172) t168.length co30)).trans hx172_1; replace hx172_2 := (cell_far (p := ⟨gb147, 2, none⟩) (by first | (rw [add_block]; exact hn172_2) | (show (Addr.add _ _).block ≠ _; rw [add_block]; exact hn172_2) | exact hn172_2) (.slice (some ad172) t168.length co30)).trans hx172_2; replace hx172_3 := (cell_far (p := ⟨gb147, 2, none⟩) (by first | (rw [add_block]; exact hn172_2) | (show (Addr.add _ _).block ≠ _; rw [add_block]; exact hn172_2) | exact hn172_2) (.slice (some ad172) t168.length co30)).trans hx172_3; replace hx172_4 := (cell_far (p := ⟨gb147, 2, none⟩) (by first | (rw [add_block]; exact hn172_2) | (show (Addr.add _ _).block ≠ _; rw [add_block]; exact hn172_2) | exact hn172_2) (.slice (some ad172) t168.length co30)).trans hx172_4; replace hx172_5 := (cell_far (p := ⟨gb147, 2, none⟩) (by first | (rw [add_block]; exact hn172_2) | (show (Addr.add _ _).block ≠ _; rw [add_block]; exact hn172_2) | exact hn172_2) (.slice (some ad172) t168.length co30)).trans hx172_5; replace hx172_6 := (cell_far (p := ⟨gb147, 2, none⟩) (by first | (rw [add_block]; exact hn172_2) | (show (Addr.add _ _).block ≠ _; rw [add_block]; exact hn172_2) | exact hn172_2) (.slice (some ad172) t168.length co30)).trans hx172_6; clear hn172_0; clear hn172_1; clear hn172_2; replace p172 := eq_true p172; replace q172 := eq_true q172; have p173 : 0 ≤ (1 : Int) := (by omega); have q173 : 1 < (t168.length : Int) := of_decide_eq_true (by first | (with_reducible assumption) | assumption); obtain ⟨ad173, e173, hx173_0, hx173_1, hx173_2, hx173_3, hx173_4, hx173_5, hx173_6⟩ := at_T40 (Kd.R_reads' HO170.out).2.2 1 p173 q173; obtain rfl : ad172 = ad173 := (by injection e173); (try simp only [show (1 : Int).toNat = 1 from rfl, Nat.reduceMul, Nat.reduceEqDiff, Go.Addr.add, ↓reduceIte] at hx173_0); (try simp only [show (1 : Int).toNat = 1 from rfl, Nat.reduceMul, Nat.reduceEqDiff, Go.Addr.add, ↓reduceIte] at hx173_1); (try simp only [show (1 : Int).toNat = 1 from rfl, Nat.reduceMul, Nat.reduceEqDiff, Go.Addr.add, ↓reduceIte] at hx173_2); (try simp only [show (1 : Int).toNat = 1 from rfl, Nat.reduceMul, Nat.reduceEqDiff, Go.Addr.add, ↓reduceIte] at hx173_3); (try simp only [show (1 : Int).toNat = 1 from rfl, Nat.reduceMul, Nat.reduceEqDiff, Go.Addr.add, ↓reduceIte] at hx173_4); (try simp only [show (1 : Int).toNat = 1 from rfl, Nat.reduceMul, Nat.reduceEqDiff, Go.Addr.add, ↓reduceIte] at hx173_5); (try simp only [show (1 : Int).toNat = 1 from rfl, Nat.reduceMul, Nat.reduceEqDiff, Go.Addr.add, ↓reduceIte] at hx173_6); have qi173 : (1 < t168.length) = True := eq_true (by omega); (try rw [show ((1 : Int)).toNat = 1 from rfl] at hx173_0); (try rw [show 1 * 7 = 7 from rfl] at hx173_0); (try rw [show ((1 : Int)).toNat = 1 from rfl] at hx173_1); (try rw [show 1 * 7 = 7 from rfl] at hx173_1); (try rw [show ((1 : Int)).toNat = 1 from rfl] at hx173_2); (try rw [show 1 * 7 = 7 from rfl] at hx173_2); (try rw [show ((1 : Int)).toNat = 1 from rfl] at hx173_3); (try rw [show 1 * 7 = 7 from rfl] at hx173_3); (try rw [show ((1 : Int)).toNat = 1 from rfl] at hx173_4); (try rw [show 1 * 7 = 7 from rfl] at hx173_4); (try rw [show ((1 : Int)).toNat = 1 from rfl] at hx173_5); (try rw [show 1 * 7 = 7 from rfl] at hx173_5); (try rw [show ((1 : Int)).toNat = 1 from rfl] at hx173_6); (try rw [show 1 * 7 = 7 from rfl] at hx173_6); have hn173_0 : ad172.block ≠ gb147 := Kd.own_blk (Kd.R_ne HO170.out BK147.out (by decide)); have hn173_1 : ad172.block ≠ gb147 := Kd.own_blk (Kd.R_ne HO170.out BK147.out (by decide)); have hn173_2 : ad172.block ≠ gb147 := Kd.own_blk (Kd.R_ne HO170.out BK147.out (by decide)); replace hx173_0 := (cell_far (p := ⟨gb147, 0, none⟩) (by first | (rw [add_block]; exact hn173_0) | (show (Addr.add _ _).block ≠ _; rw [add_block]; exact hn173_0) | exact hn173_0) (.int .i64 t166)).trans hx173_0; replace hx173_1 := (cell_far (p := ⟨gb147, 0, none⟩) (by first | (rw [add_block]; exact hn173_0) | (show (Addr.add _ _).block ≠ _; rw [add_block]; exact hn173_0) | exact hn173_0) (.int .i64 t166)).trans hx173_1; replace hx173_2 := (cell_far (p := ⟨gb147, 0, none⟩) (by first | (rw [add_block]; exact hn173_0) | (show (Addr.add _ _).block ≠ _; rw [add_block]; exact hn173_0) | exact hn173_0) (.int .i64 t166)).trans hx173_2; replace hx173_3 := (cell_far (p := ⟨gb147, 0, none⟩) (by first | (rw [add_block]; exact hn173_0) | (show (Addr.add _ _).block ≠ _; rw [add_block]; exact hn173_0) | exact hn173_0) (.int .i64 t166)).trans hx173_3; replace hx173_4 := (cell_far (p := ⟨gb147, 0, none⟩) (by first | (rw [add_block]; exact hn173_0) | (show (Addr.add _ _).block ≠ _; rw [add_block]; exact hn173_0) | exact hn173_0) (.int .i64 t166)).trans hx173_4; replace hx173_5 := (cell_far (p := ⟨gb147, 0, none⟩) (by first | (rw [add_block]; exact hn173_0) | (show (Addr.add _ _).block ≠ _; rw [add_block]; exact hn173_0) | exact hn173_0) (.int .i64 t166)).trans hx173_5; replace hx173_6 := (cell_far (p := ⟨gb147, 0, none⟩) (by first | (rw [add_block]; exact hn173_0) | (show (Addr.add _ _).block ≠ _; rw [add_block]; exact hn173_0) | exact hn173_0) (.int .i64 t166)).trans hx173_6; replace hx173_0 := (cell_far (p := ⟨gb147, 1, none⟩) (by first | (rw [add_block]; exact hn173_1) | (show (Addr.add _ _).block ≠ _; rw [add_block]; exact hn173_1) | exact hn173_1) (.bool t167)).trans hx173_0; replace hx173_1 := (cell_far (p := ⟨gb147, 1, none⟩) (by first | (rw [add_block]; exact hn173_1) | (show (Addr.add _ _).block ≠ _; rw [add_block]; exact hn173_1) | exact hn173_1) (.bool t167)).trans hx173_1; replace hx173_2 := (cell_far (p := ⟨gb147, 1, none⟩) (by first | (rw [add_block]; exact hn173_1) | (show (Addr.add _ _).block ≠ _; rw [add_block]; exact hn173_1) | exact hn173_1) (.bool t167)).trans hx173_2; replace hx173_3 := (cell_far (p := ⟨gb147, 1, none⟩) (by first | (rw [add_block]; exact hn173_1) | (show (Addr.add _ _).block ≠ _; rw [add_block]; exact hn173_1) | exact hn173_1) (.bool t167)).trans hx173_3; replace hx173_4 := (cell_far (p := ⟨gb147, 1, none⟩) (by first | (rw [add_block]; exact hn173_1) | (show (Addr.add _ _).block ≠ _; rw [add_block]; exact hn173_1) | exact hn173_1) (.bool t167)).trans hx173_4; replace hx173_5 := (cell_far (p := ⟨gb147, 1, none⟩) (by first | (rw [add_block]; exact hn173_1) | (show (Addr.add _ _).block ≠ _; rw [add_block]; exact hn173_1) | exact hn173_1) (.bool t167)).trans hx173_5; replace hx173_6 := (cell_far (p := ⟨gb147, 1, none⟩) (by first | (rw [add_block]; exact hn173_1) | (show (Addr.add _ _).block ≠ _; rw [add_block]; exact hn173_1) | exact hn173_1) (.bool t167)).trans hx173_6; replace hx173_0 := (cell_far (p := ⟨gb147, 2, none⟩) (by first | (rw [add_block]; exact hn173_2) | (show (Addr.add _ _).block ≠ _; rw [add_block]; exact hn173_2) | exact hn173_2) (.slice (some ad172) t168.length co30)).trans hx173_0; replace hx173_1 := (cell_far (p := ⟨gb147, 2, none⟩) (by first | (rw [add_block]; exact hn173_2) | (show (Addr.add _ _).block ≠ _; rw [add_block]; exact hn173_2) | exact hn173_2) (.slice (some ad172) t168.length co30)).trans hx173_1; replace hx173_2 := (cell_far (p := ⟨gb147, 2, none⟩) (by first | (rw [add_block]; exact hn173_2) | (show (Addr.add _ _).block ≠ _; rw [add_block]; exact hn173_2) | exact hn173_2) (.slice (some ad172) t168.length co30)).trans hx173_2; replace hx173_3 := (cell_far (p := ⟨gb147, 2, none⟩) (by first | (rw [add_block]; exact hn173_2) | (show (Addr.add _ _).block ≠ _; rw [add_block]; exact hn173_2) | exact hn173_2) (.slice (some ad172) t168.length co30)).trans hx173_3; replace hx173_4 := (cell_far (p := ⟨gb147, 2, none⟩) (by first | (rw [add_block]; exact hn173_2) | (show (Addr.add _ _).block ≠ _; rw [add_block]; exact hn173_2) | exact hn173_2) (.slice (some ad172) t168.length co30)).trans hx173_4; replace hx173_5 := (cell_far (p := ⟨gb147, 2, none⟩) (by first | (rw [add_block]; exact hn173_2) | (show (Addr.add _ _).block ≠ _; rw [add_block]; exact hn173_2) | exact hn173_2) (.slice (some ad172) t168.length co30)).trans hx173_5; replace hx173_6 := (cell_far (p := ⟨gb147, 2, none⟩) (by first | (rw [add_block]; exact hn173_2) | (show (Addr.add _ _).block ≠ _; rw [add_block]; exact hn173_2) | exact hn173_2) (.slice (some ad172) t168.length co30)).trans hx173_6; clear hn173_0; clear hn173_1; clear hn173_2; replace p173 := eq_true p173; replace q173 := eq_true q173))
                   go_ret
                   exact ⟨by first | rfl | (simp [errW_none, errW_some] <;> rfl) | (simp [*, errW_none, errW_some] <;> rfl), by repeat (first | (with_reducible first | exact HB.out | apply below_alloc | apply pw_below_drewN | apply below_drew1 | refine below_set ?_ GE147.out) | exact HB.out)⟩
                 · rw [if_neg c14] at H
                   exact absurd H (by simp)
               · rw [if_neg c13] at H
                 exact absurd H (by simp)
             · rw [if_neg c12] at H
               exact absurd H (by simp)
           · rw [if_neg c11] at H
             exact absurd H (by simp)
         · rw [if_neg c10] at H
           exact absurd H (by simp)
       · rw [if_neg c8] at H
         exact absurd H (by simp)
     · rw [if_neg c6] at H
       exact absurd H (by simp)
   · rw [if_neg c4] at H
     exact absurd H (by simp)
 · rw [if_neg c2] at H
   exact absurd H (by simp)
end Go.Proofs.Ytjhepdcdhabcjaa.G
namespace Go.Proofs.Ytjhepdcdhabcjaa.G
open Go.RowKit Go.Proofs.YtjhepdcdhabcjaaW.PrintWords Go.Proofs.YtjhepdcdhabcjaaW.PrintLast Go.Proofs.YtjhepdcdhabcjaaW.PrintMore
set_option linter.unusedVariables false
set_option linter.unusedSimpArgs false
theorem lift_k {α : Type} {f : Nat → Option α} (h : ∀ k, LeO (f k) (f (k + 1))) {k : Nat} {r : α} (hk : f k = some r) : ∀ d, f (k + d) = some r
 | 0 => hk
 | d + 1 => h (k + d) r (lift_k h hk d)
theorem lift_le {α : Type} {f : Nat → Option α} (h : ∀ k, LeO (f k) (f (k + 1))) {k k' : Nat} {r : α} (hk : f k = some r) (hle : k ≤ k') : f k' = some r := by
 have := lift_k h hk (k' - k)
 rwa [show k + (k' - k) = k' by omega] at this
theorem awake_true : masterdisclaw14_awake.f 10 = some true := by decide +kernel
def opDo (cap cl : Int) (fin : Bool) (l : List S40) (kind a b : Int) (fz : Bool) : Int × Bool × List S40 × Int :=
 if masterdiscref14_Valid.f cap cl fin l = some true then (if kind = 0 then opReserve cap cl fin l a b else if kind = 1 then opAppend cl fin l a b else if kind = 2 then opCloseT cl fin l a else opCloseS cl fin l fz) else (0, false, [], 1)
theorem do_toc (k : Nat) (cap cl : Int) (fin : Bool) (l : List S40) (kind a b : Int) (fz : Bool) (hB : ∀ x ∈ l, BdT x) : masterdisclaw14_do.f (k + l.length + 4) cap cl fin l kind a b fz = some (opDo cap cl fin l kind a b fz) := by
 unfold masterdisclaw14_do.f opDo
 obtain ⟨v, hv⟩ := valid_some cap cl fin l
 have hv' : toc_Valid.f cap cl fin l = some v := (valid_eq _ _ _ _ hB).trans hv
 cases v with
 | false =>
  rw [if_neg (show ¬ masterdiscref14_Valid.f cap cl fin l = some true from fun h => by rw [hv] at h; cases h)]
  have h1 : toc_Reserve.f (k + l.length + 4) cap cl fin l a b = some (0, false, [], 1) := by unfold toc_Reserve.f; rw [hv']; rfl
  have h2 : toc_Append.f (k + l.length + 4) cap cl fin l a b = some (0, false, [], 1) := by unfold toc_Append.f; rw [hv']; rfl
  have h3 : toc_CloseTrack.f cap cl fin l a = some (0, false, [], 1) := by unfold toc_CloseTrack.f; rw [hv']; rfl
  have h4 : toc_CloseSession.f cap cl fin l fz = some (0, false, [], 1) := by unfold toc_CloseSession.f; rw [hv']; rfl
  rw [h1, h2, h3, h4]
  simp only [Option.bind]
  split
  · rfl
  · split
    · rfl
    · split <;> rfl
 | true =>
  rw [if_pos hv]
  have h1 : toc_Reserve.f (k + l.length + 4) cap cl fin l a b = _ := reserve_toc (k + l.length) cap cl fin l a b hB hv
  have h2 : toc_Append.f (k + l.length + 4) cap cl fin l a b = some (opAppend cl fin l a b) := by
   have := append_toc (k + 2) cap cl fin l a b hB hv
   rwa [show k + 2 + l.length + 2 = k + l.length + 4 by omega] at this
  rw [h1, h2, closeT_toc cap cl fin l a hB hv, closeS_toc cap cl fin l fz hB hv]
  simp only [Option.bind]
  split
  · rfl
  · split
    · rfl
    · split <;> rfl
end Go.Proofs.Ytjhepdcdhabcjaa.G
namespace Go.Proofs.Ytjhepdcdhabcjaa.G
open Go.RowKit Go.Proofs.YtjhepdcdhabcjaaW.PrintWords Go.Proofs.YtjhepdcdhabcjaaW.PrintLast Go.Proofs.YtjhepdcdhabcjaaW.PrintMore
set_option linter.unusedVariables false
set_option linter.unusedSimpArgs false
theorem rd_app_lt {l : List S40} (y : S40) {i : Nat} (h : i < l.length) : rd_T40 (l ++ [y]) (i : Int) = rd_T40 l (i : Int) := by
 unfold rd_T40
 rw [Int.toNat_natCast, List.getD_eq_getElem?_getD, List.getD_eq_getElem?_getD, List.getElem?_append_left h]
theorem rd_app_eq (l : List S40) (y : S40) : rd_T40 (l ++ [y]) (l.length : Int) = y := by
 unfold rd_T40
 rw [Int.toNat_natCast, List.getD_eq_getElem?_getD, List.getElem?_append_right (Nat.le_refl _), Nat.sub_self]
 rfl
theorem rd_set_eq {l : List S40} (y : S40) {i : Nat} (h : i < l.length) : rd_T40 (l.set i y) (i : Int) = y := by
 have := rd_set_self (l := l) (i := (i : Int)) y (by omega) (by omega)
 rwa [Int.toNat_natCast] at this
theorem rd_set_ne {l : List S40} (y : S40) {i j : Nat} (h : i ≠ j) : rd_T40 (l.set i y) (j : Int) = rd_T40 l (j : Int) := by
 unfold rd_T40
 rw [Int.toNat_natCast, List.getD_eq_getElem?_getD, List.getD_eq_getElem?_getD, List.getElem?_set_ne h]
theorem rd_mem {l : List S40} {i : Nat} (h : i < l.length) : rd_T40 l (i : Int) ∈ l := by
 unfold rd_T40
 rw [Int.toNat_natCast, List.getD_eq_getElem?_getD, List.getElem?_eq_getElem h]
 exact List.getElem_mem h
theorem mem_rd {l : List S40} {x : S40} (h : x ∈ l) : ∃ i, i < l.length ∧ rd_T40 l (i : Int) = x := by
 obtain ⟨i, hi, rfl⟩ := List.getElem_of_mem h
 refine ⟨i, hi, ?_⟩
 unfold rd_T40
 rw [Int.toNat_natCast, List.getD_eq_getElem?_getD, List.getElem?_eq_getElem hi]
 rfl
theorem v_bdT {cap cl : Int} {fin : Bool} {l : List S40} (h : VALID cap cl fin l) : ∀ x ∈ l, BdT x := by
 intro x hx
 obtain ⟨i, hi, rfl⟩ := mem_rd hx
 obtain ⟨ht, h0, h1⟩ := v_tk h hi
 have hb := v_bd h i (by omega)
 have hn := tk_next ht hb.1 hb.2.2.1
 have hc := h.cap0
 have hcn := h.cnt
 obtain ⟨t0, t1, t2, t3, t4, t5, -, t7, -⟩ := ht
 have h5 : 0 ≤ (rd_T40 l (i : Int)).f5 ∧ (rd_T40 l (i : Int)).f5 ≤ 2 := by
  rcases t7 with ⟨a, -⟩ | ⟨a, -⟩ | ⟨a, -⟩ <;> omega
 unfold BdT Bd
 generalize rd_T40 l (i : Int) = x at *
 exact ⟨⟨by omega, by omega⟩, ⟨by omega, by omega⟩, ⟨by omega, by omega⟩, ⟨by omega, by omega⟩, ⟨by omega, by omega⟩, ⟨by omega, by omega⟩, ⟨by omega, by omega⟩⟩
theorem v_nil {cap : Int} (h : 1 ≤ cap ∧ cap ≤ 449849) : VALID cap 0 false [] :=
 ⟨h, Nat.zero_le _, ⟨Int.le_refl _, by omega⟩, fun i hi => absurd hi (Nat.not_lt_zero _), ⟨Int.le_refl _, fun h => by cases h⟩⟩
theorem lastS_eq {l : List S40} (h : 0 < l.length) : lastS l = pS l l.length := by unfold lastS; rw [if_pos h]
theorem v_start {cap cl : Int} {fin : Bool} {l : List S40} (h : VALID cap cl fin l) : (cl + 1 = pS l l.length ∧ newStart cl l = pE l l.length) ∨ (0 < (l.length : Int) ∧ cl + 1 = pS l l.length + 1 ∧ newStart cl l = pE l l.length + 16) := by
 unfold newStart
 have he := h.en.1
 by_cases hp : 0 < l.length
 · have hl := v_last h (i := l.length - 1) (by omega)
   rw [lastS_eq hp] at hl he
   have e1 : pS l l.length = (rd_T40 l ((l.length : Int) - 1)).f1 := by unfold pS; rw [if_neg (by omega)]
   have e2 : pE l l.length = (rd_T40 l ((l.length : Int) - 1)).f2 + (rd_T40 l ((l.length : Int) - 1)).f3 := by unfold pE; rw [if_neg (by omega)]
   rw [if_pos hp, e2]
   rw [e1] at hl he ⊢
   by_cases hc : (rd_T40 l ((l.length : Int) - 1)).f1 ≤ cl
   · rw [if_pos hc]; exact .inr ⟨by omega, by omega, rfl⟩
   · rw [if_neg hc]; exact .inl ⟨by omega, rfl⟩
 · have hl : lastS l = 0 := by unfold lastS; rw [if_neg hp]
   have h0 : l.length = 0 := by omega
   rw [hl] at he
   have hc := h.cl0
   rw [if_neg hp, h0]
   exact .inl ⟨by show cl + 1 = 1; omega, rfl⟩
theorem v_reserve {cap cl : Int} {l : List S40} {a b : Int} (h : VALID cap cl false l) (hp : pkP a b) (hn : ¬ (l.length : Int) = 99) (hcl : ¬ cl = 16) (hf : ¬ a > cap - newStart cl l) :
 VALID cap cl false (l ++ [⟨(l.length : Int) + 1, cl + 1, newStart cl l, a, newStart cl l, 0, b⟩]) := by
 have hc := h.cl0
 have hlen : (l ++ [(⟨(l.length : Int) + 1, cl + 1, newStart cl l, a, newStart cl l, 0, b⟩ : S40)]).length = l.length + 1 := by simp
 have hEq : ∀ j : Nat, j ≤ l.length → pE (l ++ [(⟨(l.length : Int) + 1, cl + 1, newStart cl l, a, newStart cl l, 0, b⟩ : S40)]) j = pE l j ∧ pS (l ++ [(⟨(l.length : Int) + 1, cl + 1, newStart cl l, a, newStart cl l, 0, b⟩ : S40)]) j = pS l j := by
  intro j hj
  match j, hj with
  | 0, _ => exact ⟨rfl, rfl⟩
  | j + 1, hj => rw [pE_succ, pE_succ, pS_succ, pS_succ, rd_app_lt _ (by omega)]; exact ⟨rfl, rfl⟩
 refine ⟨h.cap0, by rw [hlen]; have := h.cnt; omega, h.cl0, fun i hi => ?_, ?_, fun h => by cases h⟩
 · rw [hlen] at hi
   rw [(hEq i (by omega)).1, (hEq i (by omega)).2]
   by_cases hil : i < l.length
   · rw [rd_app_lt _ hil]; exact h.tk i hil
   · obtain rfl : i = l.length := by omega
     rw [rd_app_eq]
     obtain ⟨p1, p2, p3, p4⟩ := hp
     have hs := v_start h
     refine ⟨rfl, ?_, ⟨Int.le_refl _, by show cl + 1 ≤ 16; omega⟩, ⟨p1, by show a ≤ cap - newStart cl l; omega⟩, ⟨p2, p3⟩, ⟨Int.le_refl _, by show newStart cl l ≤ newStart cl l + a; omega⟩, ?_, .inr (.inl ⟨rfl, rfl⟩), fun hle => ?_⟩
     · rcases hs with ⟨s1, s2⟩ | ⟨s0, s1, s2⟩
       · exact .inl ⟨s1, s2⟩
       · exact .inr ⟨s0, s1, s2⟩
     · intro hb
       have hb : 0 < b := hb
       refine ⟨p4.resolve_left (by omega), ?_⟩
       show Int.tmod (newStart cl l - newStart cl l) b = 0
       rw [Int.sub_self, Int.zero_tmod]
     · have hle : cl + 1 ≤ cl := hle
       omega
 · rw [lastS_eq (by rw [hlen]; omega), hlen, pS_succ, rd_app_eq]
   show cl ≤ cl + 1
   omega
theorem v_set {cap cl : Int} {fin : Bool} {l : List S40} (h : VALID cap cl fin l) {i : Nat} (hi : i < l.length) (y : S40) (h1 : y.f1 = (rd_T40 l (i : Int)).f1)
 (h2 : y.f2 + y.f3 = (rd_T40 l (i : Int)).f2 + (rd_T40 l (i : Int)).f3 ∨ i + 1 = l.length) (hk : TK cap cl (i : Int) (pE l i) (pS l i) y) : VALID cap cl fin (l.set i y) := by
 have hS : ∀ j : Nat, j ≤ l.length → pS (l.set i y) j = pS l j := by
  intro j hj
  match j, hj with
  | 0, _ => rfl
  | j + 1, hj =>
   rw [pS_succ, pS_succ]
   by_cases hij : i = j
   · subst hij; rw [rd_set_eq _ hi, h1]
   · rw [rd_set_ne _ hij]
 have hE : ∀ j : Nat, j < l.length → pE (l.set i y) j = pE l j := by
  intro j hj
  match j, hj with
  | 0, _ => rfl
  | j + 1, hj =>
   rw [pE_succ, pE_succ]
   by_cases hij : i = j
   · subst hij; rw [rd_set_eq _ hi]; exact h2.resolve_right (by omega)
   · rw [rd_set_ne _ hij]
 have hl : lastS (l.set i y) = lastS l := by
  unfold lastS
  rw [List.length_set, if_pos (by omega), if_pos (by omega), hS _ (Nat.le_refl _)]
 refine ⟨h.cap0, by rw [List.length_set]; exact h.cnt, h.cl0, fun j hj => ?_, by rw [hl]; exact h.en⟩
 rw [List.length_set] at hj
 rw [hE j hj, hS j (by omega)]
 by_cases hij : i = j
 · subst hij; rw [rd_set_eq _ hi]; exact hk
 · rw [rd_set_ne _ hij]; exact h.tk j hj
theorem tmod_add {a b n : Int} (ha : Int.tmod a n = 0) (hb : Int.tmod b n = 0) : Int.tmod (a + b) n = 0 :=
 Int.tmod_eq_zero_of_dvd (Int.dvd_add (Int.dvd_of_tmod_eq_zero ha) (Int.dvd_of_tmod_eq_zero hb))
theorem v_append {cap cl : Int} {fin : Bool} {l : List S40} (h : VALID cap cl fin l) {i : Nat} (hi : i < l.length) {cnt : Int} (h5 : ¬ (rd_T40 l (i : Int)).f5 = 2) (hp : pkP cnt (rd_T40 l (i : Int)).f6)
 (hf : ¬ cnt > (rd_T40 l (i : Int)).f2 + (rd_T40 l (i : Int)).f3 - (rd_T40 l (i : Int)).f4) : VALID cap cl fin (l.set i (apNew (rd_T40 l (i : Int)) cnt)) := by
 refine v_set h hi _ rfl (.inl rfl) ?_
 obtain ⟨t0, t1, t2, t3, t4, t5, t6, t7, t8⟩ := h.tk i hi
 obtain ⟨p1, p2, p3, p4⟩ := hp
 generalize rd_T40 l (i : Int) = x at *
 refine ⟨t0, t1, t2, t3, t4, ⟨by show x.f2 ≤ x.f4 + cnt; omega, by show x.f4 + cnt ≤ x.f2 + x.f3; omega⟩, ?_, .inr (.inr ⟨rfl, by show ¬ x.f4 + cnt = x.f2; omega⟩), fun hle => absurd (t8 hle) h5⟩
 intro hb
 have hb : 0 < x.f6 := hb
 obtain ⟨q1, q2⟩ := t6 hb
 refine ⟨q1, ?_⟩
 show Int.tmod (x.f4 + cnt - x.f2) x.f6 = 0
 rw [show x.f4 + cnt - x.f2 = (x.f4 - x.f2) + cnt by omega]
 exact tmod_add q2 (p4.resolve_left (by omega))
theorem v_closeT {cap cl : Int} {fin : Bool} {l : List S40} (h : VALID cap cl fin l) {i : Nat} (hi : i < l.length) (h5 : (rd_T40 l (i : Int)).f5 = 1) (hl : i + 1 = l.length ∨ (rd_T40 l (i : Int)).f4 = (rd_T40 l (i : Int)).f2 + (rd_T40 l (i : Int)).f3) :
 VALID cap cl fin (l.set i ⟨(rd_T40 l (i : Int)).f0, (rd_T40 l (i : Int)).f1, (rd_T40 l (i : Int)).f2, (rd_T40 l (i : Int)).f4 - (rd_T40 l (i : Int)).f2, (rd_T40 l (i : Int)).f4, 2, (rd_T40 l (i : Int)).f6⟩) := by
 refine v_set h hi _ rfl ?_ ?_
 · rcases hl with h | h
   · exact .inr h
   · refine .inl ?_
     show (rd_T40 l (i : Int)).f2 + ((rd_T40 l (i : Int)).f4 - (rd_T40 l (i : Int)).f2) = _
     omega
 · obtain ⟨t0, t1, t2, t3, t4, t5, t6, t7, t8⟩ := h.tk i hi
   generalize rd_T40 l (i : Int) = x at *
   have h42 : ¬ x.f4 = x.f2 := by rcases t7 with ⟨a, -⟩ | ⟨a, -⟩ | ⟨-, a⟩ <;> first | exact a | omega
   refine ⟨t0, t1, t2, ⟨by show 1 ≤ x.f4 - x.f2; omega, by show x.f4 - x.f2 ≤ cap - x.f2; omega⟩, t4, ⟨t5.1, by show x.f4 ≤ x.f2 + (x.f4 - x.f2); omega⟩, ?_, .inl ⟨rfl, by show x.f4 = x.f2 + (x.f4 - x.f2); omega⟩, fun _ => rfl⟩
   intro hb
   obtain ⟨q1, q2⟩ := t6 hb
   exact ⟨q2, q2⟩
theorem v_closeS1 {cap cl : Int} {l : List S40} (fz : Bool) (h : VALID cap cl false l) (hu : l.any unfB = false) (ho : l.any (openB cl) = true) : VALID cap (cl + 1) fz l := by
 obtain ⟨x, hx, hox⟩ := List.any_eq_true.mp ho
 obtain ⟨i, hi, rfl⟩ := mem_rd hx
 have hox : cl < (rd_T40 l (i : Int)).f1 := of_decide_eq_true hox
 obtain ⟨l1, l2, l3⟩ := v_last h hi
 have hc := h.cl0
 refine ⟨h.cap0, h.cnt, ⟨by omega, by omega⟩, fun j hj => ?_, ⟨by omega, fun _ => ⟨by omega, by omega⟩⟩⟩
 obtain ⟨t0, t1, t2, t3, t4, t5, t6, t7, t8⟩ := h.tk j hj
 have h5 : (rd_T40 l (j : Int)).f5 = 2 := by
  have := List.any_eq_false.mp hu _ (rd_mem hj)
  unfold unfB at this
  simpa using this
 exact ⟨t0, t1, ⟨by omega, t2.2⟩, t3, t4, t5, t6, t7, fun _ => h5⟩
theorem v_closeS2 {cap cl : Int} {l : List S40} (h : VALID cap cl false l) (ho : l.any (openB cl) = false) (h0 : ¬ cl = 0) : VALID cap cl true l := by
 have hc := h.cl0
 have he := h.en.1
 refine ⟨h.cap0, h.cnt, h.cl0, h.tk, ⟨he, fun _ => ⟨by omega, ?_⟩⟩⟩
 have hp : 0 < l.length := by
  by_cases hp : 0 < l.length
  · exact hp
  · unfold lastS at he; rw [if_neg hp] at he; omega
 have hm := List.any_eq_false.mp ho _ (rd_mem (i := l.length - 1) (by omega))
 have hl : lastS l = (rd_T40 l ((l.length - 1 : Nat) : Int)).f1 := by
  rw [lastS_eq hp]
  have := pS_succ l (l.length - 1)
  rwa [show l.length - 1 + 1 = l.length by omega] at this
 rw [hl] at he ⊢
 unfold openB at hm
 have hm : ¬ cl < (rd_T40 l ((l.length - 1 : Nat) : Int)).f1 := fun hh => hm (decide_eq_true hh)
 omega
inductive Step (cap cl : Int) (fin : Bool) (l : List S40) (kind a b : Int) : Int → Bool → List S40 → Prop
 | reserve : kind = 0 → fin = false → pkP a b → ¬ (l.length : Int) = 99 → ¬ cl = 16 → ¬ a > cap - newStart cl l → Step cap cl fin l kind a b cl false (l ++ [⟨(l.length : Int) + 1, cl + 1, newStart cl l, a, newStart cl l, 0, b⟩])
 | append (i : Nat) : kind = 1 → i < l.length → ¬ (rd_T40 l (i : Int)).f5 = 2 → (rd_T40 l (i : Int)).f4 = a → pkP b (rd_T40 l (i : Int)).f6 → ¬ b > (rd_T40 l (i : Int)).f2 + (rd_T40 l (i : Int)).f3 - (rd_T40 l (i : Int)).f4 → Step cap cl fin l kind a b cl fin (l.set i (apNew (rd_T40 l (i : Int)) b))
 | closeT (i : Nat) : ¬ kind = 1 → i < l.length → (rd_T40 l (i : Int)).f5 = 1 → (i + 1 = l.length ∨ (rd_T40 l (i : Int)).f4 = (rd_T40 l (i : Int)).f2 + (rd_T40 l (i : Int)).f3) →
  Step cap cl fin l kind a b cl fin (l.set i ⟨(rd_T40 l (i : Int)).f0, (rd_T40 l (i : Int)).f1, (rd_T40 l (i : Int)).f2, (rd_T40 l (i : Int)).f4 - (rd_T40 l (i : Int)).f2, (rd_T40 l (i : Int)).f4, 2, (rd_T40 l (i : Int)).f6⟩)
 | closeS1 (fz : Bool) : ¬ kind = 1 → fin = false → l.any unfB = false → l.any (openB cl) = true → Step cap cl fin l kind a b (cl + 1) fz l
 | closeS2 : ¬ kind = 1 → fin = false → l.any unfB = false → l.any (openB cl) = false → ¬ cl = 0 → Step cap cl fin l kind a b cl true l
theorem step_of {cap cl : Int} {fin : Bool} {l : List S40} {kind a b : Int} {fz : Bool} (h : VALID cap cl fin l) (hb : fin = true → lastS l = cl) (h0 : (opDo cap cl fin l kind a b fz).2.2.2 = 0) :
 Step cap cl fin l kind a b (opDo cap cl fin l kind a b fz).1 (opDo cap cl fin l kind a b fz).2.1 (opDo cap cl fin l kind a b fz).2.2.1 := by
 have hv := (valid_iff cap cl fin l).2 h
 unfold opDo at h0 ⊢
 rw [if_pos hv] at h0 ⊢
 by_cases hk0 : kind = 0
 · rw [if_pos hk0] at h0 ⊢
   unfold opReserve at h0 ⊢
   by_cases hf : fin = true
   · rw [if_pos hf] at h0; exact absurd h0 (by decide)
   · rw [if_neg hf] at h0 ⊢
     by_cases hp : pkP a b
     · rw [if_pos hp] at h0 ⊢
       by_cases h9 : (l.length : Int) = 99 ∨ cl = 16
       · rw [if_pos h9] at h0; exact absurd h0 (by decide)
       · rw [if_neg h9] at h0 ⊢
         by_cases hc : a > cap - newStart cl l
         · rw [if_pos hc] at h0; exact absurd h0 (by decide)
         · rw [if_neg hc]
           have hff : fin = false := Bool.eq_false_iff.mpr hf
           subst hff
           exact .reserve hk0 rfl hp (fun h => h9 (.inl h)) (fun h => h9 (.inr h)) hc
     · rw [if_neg hp] at h0; exact absurd h0 (by decide)
 · rw [if_neg hk0] at h0 ⊢
   by_cases hk1 : kind = 1
   · rw [if_pos hk1] at h0 ⊢
     unfold opAppend at h0 ⊢
     cases hfi : apFind l a l.length with
     | none => rw [hfi] at h0; exact absurd h0 (by show ¬ (2 : Int) = 0; decide)
     | some i =>
      rw [hfi] at h0
      obtain ⟨hi, h5, h4⟩ := apFind_some hfi
      unfold apRes at h0 ⊢
      dsimp only at h0 ⊢
      by_cases hp : pkP b (rd_T40 l (i : Int)).f6
      · rw [if_pos hp] at h0 ⊢
        by_cases hc : b > (rd_T40 l (i : Int)).f2 + (rd_T40 l (i : Int)).f3 - (rd_T40 l (i : Int)).f4
        · rw [if_pos hc] at h0; exact absurd h0 (by decide)
        · rw [if_neg hc]
          exact .append i hk1 hi h5 h4 hp hc
      · rw [if_neg hp] at h0; exact absurd h0 (by decide)
   · rw [if_neg hk1] at h0 ⊢
     by_cases hk2 : kind = 2
     · rw [if_pos hk2] at h0 ⊢
       unfold opCloseT at h0 ⊢
       by_cases hn : a < 1 ∨ a > (l.length : Int)
       · rw [if_pos hn] at h0; exact absurd h0 (by decide)
       · rw [if_neg hn] at h0 ⊢
         obtain ⟨i, hi⟩ : ∃ i : Nat, (i : Int) = a - 1 := ⟨(a - 1).toNat, by omega⟩
         rw [← hi] at h0 ⊢
         by_cases hc : (rd_T40 l (i : Int)).f5 = 1 ∧ (a = (l.length : Int) ∨ (rd_T40 l (i : Int)).f4 = (rd_T40 l (i : Int)).f2 + (rd_T40 l (i : Int)).f3)
         · rw [if_pos hc, Int.toNat_natCast]
           exact .closeT i hk1 (by omega) hc.1 (hc.2.imp (fun h => by omega) id)
         · rw [if_neg hc] at h0; exact absurd h0 (by decide)
     · rw [if_neg hk2] at h0 ⊢
       unfold opCloseS at h0 ⊢
       by_cases hf : fin = true
       · rw [if_pos hf] at h0; exact absurd h0 (by decide)
       · rw [if_neg hf] at h0 ⊢
         have hff : fin = false := Bool.eq_false_iff.mpr hf
         cases hu : l.any unfB with
         | true => rw [hu, if_pos rfl] at h0; exact absurd h0 (by decide)
         | false =>
          rw [hu, if_neg (by decide)] at h0
          rw [if_neg (by decide)]
          cases ho : l.any (openB cl) with
          | true => rw [if_pos rfl]; exact .closeS1 fz hk1 hff hu ho
          | false =>
           rw [ho, if_neg (by decide)] at h0
           rw [if_neg (by decide)]
           by_cases hz : fz = true ∧ ¬ cl = 0
           · rw [if_pos hz]; exact .closeS2 hk1 hff hu ho hz.2
           · rw [if_neg hz] at h0; exact absurd h0 (by decide)
theorem step_valid {cap cl : Int} {fin : Bool} {l : List S40} {kind a b cl' : Int} {fin' : Bool} {l' : List S40} (h : VALID cap cl fin l) (hs : Step cap cl fin l kind a b cl' fin' l') : VALID cap cl' fin' l' := by
 cases hs with
 | reserve _ hf hp hn hc ha => subst hf; exact v_reserve h hp hn hc ha
 | append i _ hi h5 _ hp hf => exact v_append h hi h5 hp hf
 | closeT i _ hi h5 hl => exact v_closeT h hi h5 hl
 | closeS1 _ _ hf hu ho => subst hf; exact v_closeS1 _ h hu ho
 | closeS2 _ hf hu ho h0 => subst hf; exact v_closeS2 h ho h0
end Go.Proofs.Ytjhepdcdhabcjaa.G
namespace Go.Proofs.Ytjhepdcdhabcjaa.G
open Go.RowKit Go.Proofs.YtjhepdcdhabcjaaW.PrintWords Go.Proofs.YtjhepdcdhabcjaaW.PrintLast Go.Proofs.YtjhepdcdhabcjaaW.PrintMore
attribute [local go_sem] max2_int min2_int max_two min_two max_three min_three max_four min_four   -- for this text's walks alone
set_option linter.unusedVariables false
set_option linter.unusedSimpArgs false
theorem ses_row {W : World} {base g n cap : Nat} {ok : Nat → Prop} {xs : List S46} (h : Kd.R k46 46 W base ok (.slice (some ⟨g, 0, none⟩) n cap) xs) (i : Int) (h0 : 0 ≤ i) (h1 : i < (n : Int)) : (W.cell? ⟨g, i.toNat * 3, none⟩ = some (.int .i64 (rd_T46 xs i).f0) ∧ W.cell? ⟨g, i.toNat * 3 + 1, none⟩ = some (.int .i64 (rd_T46 xs i).f1) ∧ W.cell? ⟨g, i.toNat * 3 + 2, none⟩ = some (.bool (rd_T46 xs i).f2)) ∧ W.frozen? ⟨g, i.toNat * 3, none⟩ = false ∧ W.frozen? ⟨g, i.toNat * 3 + 1, none⟩ = false ∧ W.frozen? ⟨g, i.toNat * 3 + 2, none⟩ = false := by
 obtain ⟨ce, hcl, hM, hcc, hfr⟩ := Kd.R_elem h z46 i h0 h1
 obtain rfl := k46_openM hM
 exact ⟨⟨hcc 0 _ rfl, hcc 1 _ rfl, hcc 2 _ rfl⟩, hfr 0, hfr 1, hfr 2⟩
def toc_Sessions.l0 : Nat → List (S46) → List (S40) → Int → Int → Int → Bool → List (S40) → Option ((List (S46)))
 | 0, _, _, _, _, _, _, _ => none
 | k + 1, x3, x8, x9, x10, x348000, x348001, x348002 => if x10 < x9 then (if 0 ≤ x10 then (if x10 < (x8.length : Int) then (if x10 = 0 then (if x3.length < 5864062014805 then ((some (x3 ++ [(⟨(rd_T40 x8 x10).f2, 0, decide (((rd_T40 x8 x10).f1) ≤ x348000)⟩ : S46)] : List (S46))).bind fun y350 => (if 0 ≤ (wrap64 ((y350.length : Int) - 1)) then (if (wrap64 ((y350.length : Int) - 1)) < (y350.length : Int) then ((toc_end.f ((rd_T40 x8 x10).f0) ((rd_T40 x8 x10).f1) ((rd_T40 x8 x10).f2) ((rd_T40 x8 x10).f3) ((rd_T40 x8 x10).f4) ((rd_T40 x8 x10).f5) ((rd_T40 x8 x10).f6)).bind fun t353 => (toc_Sessions.l0 k (y350.set ((wrap64 ((y350.length : Int) - 1)) : Int).toNat (⟨(rd_T46 y350 (wrap64 ((y350.length : Int) - 1))).f0, wrap64 (t353 - ((rd_T46 y350 (wrap64 ((y350.length : Int) - 1))).f0)), (rd_T46 y350 (wrap64 ((y350.length : Int) - 1))).f2⟩ : S46)) x8 x9 (wrap64 (x10 + 1)) x348000 x348001 x348002)) else (none)) else (none))) else (none)) else (if 0 ≤ (wrap64 (x10 - 1)) then (if (wrap64 (x10 - 1)) < (x348002.length : Int) then (if ((rd_T40 x348002 (wrap64 (x10 - 1))).f1) = ((rd_T40 x8 x10).f1) then (if 0 ≤ (wrap64 ((x3.length : Int) - 1)) then (if (wrap64 ((x3.length : Int) - 1)) < (x3.length : Int) then ((toc_end.f ((rd_T40 x8 x10).f0) ((rd_T40 x8 x10).f1) ((rd_T40 x8 x10).f2) ((rd_T40 x8 x10).f3) ((rd_T40 x8 x10).f4) ((rd_T40 x8 x10).f5) ((rd_T40 x8 x10).f6)).bind fun t356 => (toc_Sessions.l0 k (x3.set ((wrap64 ((x3.length : Int) - 1)) : Int).toNat (⟨(rd_T46 x3 (wrap64 ((x3.length : Int) - 1))).f0, wrap64 (t356 - ((rd_T46 x3 (wrap64 ((x3.length : Int) - 1))).f0)), (rd_T46 x3 (wrap64 ((x3.length : Int) - 1))).f2⟩ : S46)) x8 x9 (wrap64 (x10 + 1)) x348000 x348001 x348002)) else (none)) else (none)) else (if x3.length < 5864062014805 then ((some (x3 ++ [(⟨(rd_T40 x8 x10).f2, 0, decide (((rd_T40 x8 x10).f1) ≤ x348000)⟩ : S46)] : List (S46))).bind fun y358 => (if 0 ≤ (wrap64 ((y358.length : Int) - 1)) then (if (wrap64 ((y358.length : Int) - 1)) < (y358.length : Int) then ((toc_end.f ((rd_T40 x8 x10).f0) ((rd_T40 x8 x10).f1) ((rd_T40 x8 x10).f2) ((rd_T40 x8 x10).f3) ((rd_T40 x8 x10).f4) ((rd_T40 x8 x10).f5) ((rd_T40 x8 x10).f6)).bind fun t361 => (toc_Sessions.l0 k (y358.set ((wrap64 ((y358.length : Int) - 1)) : Int).toNat (⟨(rd_T46 y358 (wrap64 ((y358.length : Int) - 1))).f0, wrap64 (t361 - ((rd_T46 y358 (wrap64 ((y358.length : Int) - 1))).f0)), (rd_T46 y358 (wrap64 ((y358.length : Int) - 1))).f2⟩ : S46)) x8 x9 (wrap64 (x10 + 1)) x348000 x348001 x348002)) else (none)) else (none))) else (none))) else (none)) else (none))) else (none)) else (none)) else (some x3)
def toc_Sessions.f (k : Nat) (a0_0 : Int) (a0_1 : Bool) (l0_2 : List (S40)) : Option ((List (S46))) := toc_Sessions.l0 k ([] : List (S46)) l0_2 (l0_2.length : Int) 0 a0_0 a0_1 l0_2
theorem toc_Sessions.mono_l : ∀ k, (∀ y0 y1 y2 y3 y4 y5 y6, LeO (toc_Sessions.l0 k y0 y1 y2 y3 y4 y5 y6) (toc_Sessions.l0 (k + 1) y0 y1 y2 y3 y4 y5 y6))
 | 0 => fun _ _ _ _ _ _ _ r h => by simp [toc_Sessions.l0] at h
 | k + 1 => by
  have ih0 := toc_Sessions.mono_l k
  · intro y0 y1 y2 y3 y4 y5 y6
    unfold toc_Sessions.l0
    repeat' first
    | (with_reducible exact ih0 _ _ _ _ _ _ _)
    | (with_reducible exact LeO.refl _)
    | (with_reducible exact LeO.none _)
    | (with_reducible refine LeO.ite ?_ ?_)
    | (with_reducible refine LeO.bind ?_ (fun _ => ?_))
    | exact ih0 _ _ _ _ _ _ _
    | exact LeO.none _
    | refine LeO.ite ?_ ?_
    | refine LeO.bind ?_ (fun _ => ?_)
theorem toc_Sessions.mono : ∀ a0 a1 a2 k, LeO (toc_Sessions.f k a0 a1 a2) (toc_Sessions.f (k + 1) a0 a1 a2) := by
 intro a0 a1 a2 k
 have ih0 := toc_Sessions.mono_l k
 unfold toc_Sessions.f
 repeat' first
  | (with_reducible exact ih0 _ _ _ _ _ _ _)
  | (with_reducible exact LeO.refl _)
  | (with_reducible exact LeO.none _)
  | (with_reducible refine LeO.ite ?_ ?_)
  | (with_reducible refine LeO.bind ?_ (fun _ => ?_))
  | exact ih0 _ _ _ _ _ _ _
  | exact LeO.none _
  | refine LeO.ite ?_ ?_
  | refine LeO.bind ?_ (fun _ => ?_)
def toc_Sessions.T5 : Bool × List (List Nat × List Nat) := (true, [([], []), ([0], [0]), ([1], [1]), ([2], [2]), ([3, 2], [2, 3]), ([2], [2]), ([5, 2], [2, 5]), ([4, 6, 2], [2, 4, 6]), ([7, 2], [2, 7]), ([8, 2], [2, 8]), ([2], [2]), ([10, 2], [2, 10]), ([9, 11, 2], [2, 9, 11]), ([2, 12], [2, 12])])
def toc_Sessions.B5 : List Nat := [0, 1, 3, 7, 15, 7, 39, 127, 255, 511, 7, 1031, 4095, 8191]
theorem toc_Sessions.tab5 : rtab .any (opsOf Try.f14 5) = toc_Sessions.T5 := by kernel_rfl
theorem toc_Sessions.bits5 : waitsOk toc_Sessions.T5.2 toc_Sessions.B5 = true := by kernel_rfl
def toc_Sessions.T8 : Bool × List (List Nat × List Nat) := (true, [([], []), ([], []), ([1], [1]), ([], []), ([3], [3]), ([4], [4]), ([5], [5]), ([2, 6], [2, 6]), ([0, 0, 1, 2, 3, 4, 5, 6, 7], [0]), ([8, 0, 1, 2, 3, 4, 5, 6, 7], [8]), ([9, 7, 2, 0, 1, 2, 3, 4, 5, 6, 7], [7, 9])])
def toc_Sessions.B8 : List Nat := [0, 0, 2, 0, 8, 24, 56, 126, 255, 511, 1023]
theorem toc_Sessions.tab8 : rtab .any (opsOf Try.f14 8) = toc_Sessions.T8 := by kernel_rfl
theorem toc_Sessions.bits8 : waitsOk toc_Sessions.T8.2 toc_Sessions.B8 = true := by kernel_rfl
set_option maxHeartbeats 8000000 in
set_option maxRecDepth 100000 in
theorem toc_Sessions.calls (k : Nat) (a0_0 : Int) (a0_1 : Bool) (A0_2 : Option Addr) (c0_2 : Nat) (l0_2 : List (S40)) (r : List (S46)) (w : World) (hr0_2 : Kd.C k40 w A0_2 l0_2.length l0_2) (hc0_2 : l0_2.length ≤ c0_2) (h : toc_Sessions.f k a0_0 a0_1 l0_2 = some r) :
 Calls Try.prog 14 #[.agg #[.int .i64 a0_0, .bool a0_1, .slice A0_2 l0_2.length c0_2]] w fun e w' => ∃ v0_ : Value, e = .returned (v0_) ∧ Kd.R k46 46 w' w.heap.size (fun _ => True) v0_ r ∧ Below w.heap.size w w' := by
 have hu24 := Try.underlying24
 have hu40 := Try.underlying40
 have hu46 := Try.underlying46
 have HR0_2 := Aside0.mk hr0_2
 have HC0_2 := Aside0.mk hc0_2
 clear hr0_2 hc0_2
 have HB := Aside0.mk (Below.refl w.heap.size w)
 have H : (toc_Sessions.l0 k ([] : List (S46)) l0_2 (l0_2.length : Int) 0 a0_0 a0_1 l0_2) = some r := h
 clear h
 have H' := Aside0.mk H
 clear H
 go_enter Try.func14, Try.ntmps14
 go_wp2_with (first | ((with_reducible refine gate_dst (N := 1) rfl ?_); refine box_event ?hg (N := 1) ?hd (cs := #[.int .i64 a0_0, .bool a0_1, .slice A0_2 l0_2.length c0_2]) (t := 24) ?hr ?_; (case hd => rfl); (case hg => rfl); (case hr => first | (go_simp; done) | (go_simp; rfl)); intro gb347 hg w2 hbox hb; have n0_ := Aside0.mk (below_step (by repeat (first | (with_reducible first | exact HB.out | apply below_alloc | apply pw_below_drewN | apply below_drew1) | exact HB.out)) hb); have n1_ := Aside0.mk (hbox); have n2_ := Aside0.mk ((by rw [hg]; exact (below_size (by repeat (first | (with_reducible first | exact HB.out | apply below_alloc | apply pw_below_drewN | apply below_drew1) | exact HB.out))) : w.heap.size ≤ gb347)); have n3_ := Aside0.mk ((by rw [hg]; exact (below_size (by repeat (first | (with_reducible first | exact HB.out | apply below_alloc | apply pw_below_drewN | apply below_drew1) | exact HB.out))) : w.heap.size ≤ gb347)); clear HB; have HB := n0_; have BK347 := n1_; have GW347 := n2_; have GE347 := n3_; clear n0_ n1_ n2_ n3_; clear hb hbox hg; obtain ⟨hcz3_0, hcz3_1, hcz3_2⟩ := cel3 BK347.out; obtain ⟨hfz3_0, hfz3_1, hfz3_2⟩ := frz3 BK347.out))
 go_loopg [3, 10] k (fun kq v3 v10 w' => ∃ (x3_1 : List (S46)) (x10_1 : Int), v10 = .int .i64 x10_1 ∧ Aside0 (toc_Sessions.l0 kq x3_1 l0_2 (l0_2.length : Int) x10_1 a0_0 a0_1 l0_2 = some r) ∧ Aside0 (kq ≤ k) ∧ Aside0 (Kd.R k46 46 w' w.heap.size (fun _ => True) v3 x3_1) ∧ Aside0 (w'.heap[gb347]? = some (.cells #[.int .i64 a0_0, .bool a0_1, (.slice A0_2 l0_2.length c0_2)] 24 (0, 0))) ∧ Aside0 (Below w.heap.size w w'))
 case atStart => exact ⟨(([] : List (S46))), (0), (by first | rfl | (simp; done) | (simp [*]; done)), H', ⟨Nat.le_refl _⟩, ⟨by first | exact Kd.R_nil _ _ _ _ _ | exact Kd.N_nil _ _ _ _ _ | exact Kd.V_nil _ _ _ _ _ | exact Kd.Q_nil _ _ _ _ _ | exact Kd.S_nil _ _ _ _ _⟩, ⟨by (with_reducible repeat (first | refine blk_drewN ?_ _ | refine blk_drew ?_ | refine blk_alloc ?_ _)); exact BK347.out⟩, ⟨by repeat (first | (with_reducible first | exact HB.out | apply below_alloc | apply pw_below_drewN | apply below_drew1 | refine below_set ?_ GE347.out) | exact HB.out)⟩⟩
 case round =>
  clear H'
  try clear c1
  try clear p2
  try clear hcz3_0
  try clear hcz3_1
  try clear hcz3_2
  try clear hfz3_0
  try clear hfz3_1
  try clear hfz3_2
  obtain ⟨x3_1, x10_1, rfl, HA, HK1, HO_3, BK347, HB⟩ := hrel
  cases gk with
  | zero => exact absurd HA.out (by simp [toc_Sessions.l0])
  | succ k1 =>
   have H := HA.out
   clear HA
   simp only [toc_Sessions.l0] at H
   by_cases c4 : x10_1 < (l0_2.length : Int)
   · rw [if_pos c4] at H
     have c4b0 : decide (x10_1 < (l0_2.length : Int)) = true := decide_eq_true c4
     clear c4
     by_cases c5 : 0 ≤ x10_1
     · rw [if_pos c5] at H
       have c5b0 : decide (0 ≤ x10_1) = true := decide_eq_true c5
       clear c5
       by_cases c6 : x10_1 < (l0_2.length : Int)
       · rw [if_pos c6] at H
         have c6b0 : decide (x10_1 < (l0_2.length : Int)) = true := decide_eq_true c6
         clear c6
         by_cases c7 : x10_1 = 0
         · rw [if_pos c7] at H
           have c7b0 : (x10_1 == 0) = true := beq_iff_eq.mpr c7
           have c7b1 : (x10_1 != 0) = false := bne_eq_false_iff_eq.mpr c7
           clear c7
           by_cases c8 : x3_1.length < 5864062014805
           · rw [if_pos c8] at H
             have LMc8 := Aside0.mk c8
             clear c8
             obtain ⟨y350, hy350⟩ : ∃ y_ : List (S46), y_ = (x3_1 ++ [(⟨(rd_T40 l0_2 x10_1).f2, 0, decide (((rd_T40 l0_2 x10_1).f1) ≤ a0_0)⟩ : S46)]) := ⟨_, rfl⟩
             replace H : (if 0 ≤ (wrap64 ((y350.length : Int) - 1)) then (if (wrap64 ((y350.length : Int) - 1)) < (y350.length : Int) then ((toc_end.f ((rd_T40 l0_2 x10_1).f0) ((rd_T40 l0_2 x10_1).f1) ((rd_T40 l0_2 x10_1).f2) ((rd_T40 l0_2 x10_1).f3) ((rd_T40 l0_2 x10_1).f4) ((rd_T40 l0_2 x10_1).f5) ((rd_T40 l0_2 x10_1).f6)).bind fun t353 => (toc_Sessions.l0 k1 (y350.set ((wrap64 ((y350.length : Int) - 1)) : Int).toNat (⟨(rd_T46 y350 (wrap64 ((y350.length : Int) - 1))).f0, wrap64 (t353 - ((rd_T46 y350 (wrap64 ((y350.length : Int) - 1))).f0)), (rd_T46 y350 (wrap64 ((y350.length : Int) - 1))).f2⟩ : S46)) l0_2 (l0_2.length : Int) (wrap64 (x10_1 + 1)) a0_0 a0_1 l0_2)) else (none)) else (none)) = some r := by first | (rw [hy350]; with_reducible exact H) | (have H2_ := (Option.bind_some _ _).symm.trans H; rw [hy350]; with_reducible exact H2_) | (have H2_ := (Option.bind_some _ _).symm.trans H; with_reducible exact H2_) | with_reducible exact H | (rw [hy350]; exact H) | exact H
             have Ny350 := Aside0.mk hy350
             clear hy350
             obtain ⟨ji9, hji9⟩ : ∃ j_ : Int, (wrap64 ((y350.length : Int) - 1)) = j_ := ⟨_, rfl⟩
             replace H : (if 0 ≤ (ji9) then (if (ji9) < (y350.length : Int) then ((toc_end.f ((rd_T40 l0_2 x10_1).f0) ((rd_T40 l0_2 x10_1).f1) ((rd_T40 l0_2 x10_1).f2) ((rd_T40 l0_2 x10_1).f3) ((rd_T40 l0_2 x10_1).f4) ((rd_T40 l0_2 x10_1).f5) ((rd_T40 l0_2 x10_1).f6)).bind fun t353 => (toc_Sessions.l0 k1 (y350.set ((ji9) : Int).toNat (⟨(rd_T46 y350 (ji9)).f0, wrap64 (t353 - ((rd_T46 y350 (ji9)).f0)), (rd_T46 y350 (ji9)).f2⟩ : S46)) l0_2 (l0_2.length : Int) (wrap64 (x10_1 + 1)) a0_0 a0_1 l0_2)) else (none)) else (none)) = some r := by first | (rw [hji9] at H; exact H) | (simp only [hji9] at H ⊢; exact H)
             have hji9w : (IntKind.i64.wrap ((y350.length : Int) - 1)) = ji9 := (i64_w _).trans hji9
             by_cases c10 : 0 ≤ (ji9)
             · rw [if_pos c10] at H
               have c10b0 : decide (0 ≤ (ji9)) = true := decide_eq_true c10
               clear c10
               by_cases c11 : (ji9) < (y350.length : Int)
               · rw [if_pos c11] at H
                 have c11b0 : decide ((ji9) < (y350.length : Int)) = true := decide_eq_true c11
                 clear c11
                 replace H := Option.bind_eq_some_iff.mp H
                 obtain ⟨t353, A130, H⟩ := H
                 replace H : (toc_Sessions.l0 k1 (y350.set ((ji9) : Int).toNat (⟨(rd_T46 y350 (ji9)).f0, wrap64 (t353 - ((rd_T46 y350 (ji9)).f0)), (rd_T46 y350 (ji9)).f2⟩ : S46)) l0_2 (l0_2.length : Int) (wrap64 (x10_1 + 1)) a0_0 a0_1 l0_2) = some r := H
                 have A13 := Aside0.mk A130
                 clear A130
                 obtain ⟨y354, hy354⟩ : ∃ y_ : List (S46), y_ = (y350.set ((ji9) : Int).toNat (⟨(rd_T46 y350 (ji9)).f0, wrap64 (t353 - ((rd_T46 y350 (ji9)).f0)), (rd_T46 y350 (ji9)).f2⟩ : S46)) := ⟨_, rfl⟩
                 replace H : (toc_Sessions.l0 k1 y354 l0_2 (l0_2.length : Int) (wrap64 (x10_1 + 1)) a0_0 a0_1 l0_2) = some r := by first | (rw [hy354]; with_reducible exact H) | (have H2_ := (Option.bind_some _ _).symm.trans H; rw [hy354]; with_reducible exact H2_) | (have H2_ := (Option.bind_some _ _).symm.trans H; with_reducible exact H2_) | with_reducible exact H | (rw [hy354]; exact H) | exact H
                 have Ny354 := Aside0.mk hy354
                 clear hy354
                 have H' := Aside0.mk H
                 clear H
                 have p348 : 0 ≤ (x10_1 : Int) := of_decide_eq_true (by first | (with_reducible assumption) | assumption)
                 have q348 : x10_1 < (l0_2.length : Int) := of_decide_eq_true (by first | (with_reducible assumption) | assumption)
                 obtain ⟨ad348, e348, hx348_0, hx348_1, hx348_2, hx348_3, hx348_4, hx348_5, hx348_6⟩ := at_T40 HR0_2.out x10_1 p348 q348
                 cases e348
                 replace hx348_0 := upc HB.out hx348_0
                 replace hx348_1 := upc HB.out hx348_1
                 replace hx348_2 := upc HB.out hx348_2
                 replace hx348_3 := upc HB.out hx348_3
                 replace hx348_4 := upc HB.out hx348_4
                 replace hx348_5 := upc HB.out hx348_5
                 replace hx348_6 := upc HB.out hx348_6
                 replace p348 := eq_true p348
                 replace q348 := eq_true q348
                 try go_wp2_with (first | ((with_reducible refine gate_dst (N := 5) rfl ?_); refine box_event ?hg (N := 5) ?hd (cs := #[.int .i64 0, .int .i64 0, .int .i64 0, .int .i64 0, .int .i64 0, .int .i64 0, .int .i64 0]) (t := 40) ?hr ?_; (case hd => rfl); (case hg => rfl); (case hr => first | (go_simp; done) | (go_simp; rfl)); intro gb349 hg w14 hbox hb; have n0_ := Aside0.mk (Kd.R_below (by (with_reducible repeat (first | apply Kd.R_alloc | apply Kd.R_drewN | apply Kd.R_drew)); exact HO_3.out) hb); have n1_ := Aside0.mk (blk_below (g := gb347) (o := .cells #[.int .i64 a0_0, .bool a0_1, .slice (some ad348) l0_2.length c0_2] 24 (0, 0)) (by (with_reducible repeat (first | refine blk_drewN ?_ _ | refine blk_drew ?_ | refine blk_alloc ?_ _)); exact BK347.out) hb); have n2_ := Aside0.mk (below_step (by repeat (first | (with_reducible first | exact HB.out | apply below_alloc | apply pw_below_drewN | apply below_drew1 | refine below_set ?_ GE347.out) | exact HB.out)) hb); have n3_ := Aside0.mk (hbox); have n4_ := Aside0.mk ((by rw [hg]; exact (below_size (by repeat (first | (with_reducible first | exact HB.out | apply below_alloc | apply pw_below_drewN | apply below_drew1 | refine below_set ?_ GE347.out) | exact HB.out))) : w.heap.size ≤ gb349)); have n5_ := Aside0.mk ((by rw [hg]; exact (below_size (by repeat (first | (with_reducible first | exact HB.out | apply below_alloc | apply pw_below_drewN | apply below_drew1 | refine below_set ?_ GE347.out) | exact HB.out))) : w.heap.size ≤ gb349)); have n6_ := Aside0.mk ((by rw [hg]; exact Nat.ne_of_lt (blk_lt (g := gb347) (o := .cells #[.int .i64 a0_0, .bool a0_1, .slice (some ad348) l0_2.length c0_2] 24 (0, 0)) (by (with_reducible repeat (first | refine blk_drewN ?_ _ | refine blk_drew ?_ | refine blk_alloc ?_ _)); exact BK347.out)) : gb347 ≠ gb349)); have n7_ := Aside0.mk ((by rw [hg]; exact Nat.ne_of_gt (blk_lt (g := gb347) (o := .cells #[.int .i64 a0_0, .bool a0_1, .slice (some ad348) l0_2.length c0_2] 24 (0, 0)) (by (with_reducible repeat (first | refine blk_drewN ?_ _ | refine blk_drew ?_ | refine blk_alloc ?_ _)); exact BK347.out)) : gb349 ≠ gb347)); clear HO_3; clear BK347; clear HB; have HO_3 := n0_; have BK347 := n1_; have HB := n2_; have BK349 := n3_; have GW349 := n4_; have GE349 := n5_; have NB347_349 := n6_; have NB349_347 := n7_; clear n0_ n1_ n2_ n3_ n4_ n5_ n6_ n7_; clear hb hbox hg; have hnb15 := NB349_347.out; have hnc15 := NB347_349.out; obtain ⟨hcz16_0, hcz16_1, hcz16_2, hcz16_3, hcz16_4, hcz16_5, hcz16_6⟩ := cel7 BK349.out; obtain ⟨hfz16_0, hfz16_1, hfz16_2, hfz16_3, hfz16_4, hfz16_5, hfz16_6⟩ := frz7 BK349.out))
                 have n0_ : Aside0 (Kd.R k46 46 (((((((w14.setCell ⟨gb349, 0, none⟩ (.int .i64 ((rd_T40 l0_2 x10_1).f0))).setCell ⟨gb349, 1, none⟩ (.int .i64 ((rd_T40 l0_2 x10_1).f1))).setCell ⟨gb349, 2, none⟩ (.int .i64 ((rd_T40 l0_2 x10_1).f2))).setCell ⟨gb349, 3, none⟩ (.int .i64 ((rd_T40 l0_2 x10_1).f3))).setCell ⟨gb349, 4, none⟩ (.int .i64 ((rd_T40 l0_2 x10_1).f4))).setCell ⟨gb349, 5, none⟩ (.int .i64 ((rd_T40 l0_2 x10_1).f5))).setCell ⟨gb349, 6, none⟩ (.int .i64 ((rd_T40 l0_2 x10_1).f6))) w.heap.size (fun _ => True) u3 x3_1) := ⟨by (with_reducible repeat (first | apply Kd.R_alloc | apply Kd.R_drewN | apply Kd.R_drew)); exact Kd.R_mono (Kd.R_far (p := ⟨gb349, 6, none⟩) (Kd.R_far (p := ⟨gb349, 5, none⟩) (Kd.R_far (p := ⟨gb349, 4, none⟩) (Kd.R_far (p := ⟨gb349, 3, none⟩) (Kd.R_far (p := ⟨gb349, 2, none⟩) (Kd.R_far (p := ⟨gb349, 1, none⟩) (Kd.R_far (p := ⟨gb349, 0, none⟩) (Kd.R_types HO_3.out BK349.out (by decide)) (fun _ hk => hk.2) (.int .i64 ((rd_T40 l0_2 x10_1).f0))) (fun _ hk => hk.2) (.int .i64 ((rd_T40 l0_2 x10_1).f1))) (fun _ hk => hk.2) (.int .i64 ((rd_T40 l0_2 x10_1).f2))) (fun _ hk => hk.2) (.int .i64 ((rd_T40 l0_2 x10_1).f3))) (fun _ hk => hk.2) (.int .i64 ((rd_T40 l0_2 x10_1).f4))) (fun _ hk => hk.2) (.int .i64 ((rd_T40 l0_2 x10_1).f5))) (fun _ hk => hk.2) (.int .i64 ((rd_T40 l0_2 x10_1).f6))) (fun _ hk => trivial)⟩
                 have n1_ : Aside0 ((((((((w14.setCell ⟨gb349, 0, none⟩ (.int .i64 ((rd_T40 l0_2 x10_1).f0))).setCell ⟨gb349, 1, none⟩ (.int .i64 ((rd_T40 l0_2 x10_1).f1))).setCell ⟨gb349, 2, none⟩ (.int .i64 ((rd_T40 l0_2 x10_1).f2))).setCell ⟨gb349, 3, none⟩ (.int .i64 ((rd_T40 l0_2 x10_1).f3))).setCell ⟨gb349, 4, none⟩ (.int .i64 ((rd_T40 l0_2 x10_1).f4))).setCell ⟨gb349, 5, none⟩ (.int .i64 ((rd_T40 l0_2 x10_1).f5))).setCell ⟨gb349, 6, none⟩ (.int .i64 ((rd_T40 l0_2 x10_1).f6))).heap[gb347]? = some (.cells #[.int .i64 a0_0, .bool a0_1, .slice (some ad348) l0_2.length c0_2] 24 (0, 0))) := ⟨by (with_reducible repeat (first | refine blk_drewN ?_ _ | refine blk_drew ?_ | refine blk_alloc ?_ _)); refine blk_far ?_ NB347_349.out _; (with_reducible repeat (first | refine blk_drewN ?_ _ | refine blk_drew ?_ | refine blk_alloc ?_ _)); refine blk_far ?_ NB347_349.out _; (with_reducible repeat (first | refine blk_drewN ?_ _ | refine blk_drew ?_ | refine blk_alloc ?_ _)); refine blk_far ?_ NB347_349.out _; (with_reducible repeat (first | refine blk_drewN ?_ _ | refine blk_drew ?_ | refine blk_alloc ?_ _)); refine blk_far ?_ NB347_349.out _; (with_reducible repeat (first | refine blk_drewN ?_ _ | refine blk_drew ?_ | refine blk_alloc ?_ _)); refine blk_far ?_ NB347_349.out _; (with_reducible repeat (first | refine blk_drewN ?_ _ | refine blk_drew ?_ | refine blk_alloc ?_ _)); refine blk_far ?_ NB347_349.out _; (with_reducible repeat (first | refine blk_drewN ?_ _ | refine blk_drew ?_ | refine blk_alloc ?_ _)); refine blk_far ?_ NB347_349.out _; (with_reducible repeat (first | refine blk_drewN ?_ _ | refine blk_drew ?_ | refine blk_alloc ?_ _)); exact BK347.out⟩
                 have n2_ : Aside0 ((((((((w14.setCell ⟨gb349, 0, none⟩ (.int .i64 ((rd_T40 l0_2 x10_1).f0))).setCell ⟨gb349, 1, none⟩ (.int .i64 ((rd_T40 l0_2 x10_1).f1))).setCell ⟨gb349, 2, none⟩ (.int .i64 ((rd_T40 l0_2 x10_1).f2))).setCell ⟨gb349, 3, none⟩ (.int .i64 ((rd_T40 l0_2 x10_1).f3))).setCell ⟨gb349, 4, none⟩ (.int .i64 ((rd_T40 l0_2 x10_1).f4))).setCell ⟨gb349, 5, none⟩ (.int .i64 ((rd_T40 l0_2 x10_1).f5))).setCell ⟨gb349, 6, none⟩ (.int .i64 ((rd_T40 l0_2 x10_1).f6))).heap[gb349]? = some (.cells #[.int .i64 ((rd_T40 l0_2 x10_1).f0), .int .i64 ((rd_T40 l0_2 x10_1).f1), .int .i64 ((rd_T40 l0_2 x10_1).f2), .int .i64 ((rd_T40 l0_2 x10_1).f3), .int .i64 ((rd_T40 l0_2 x10_1).f4), .int .i64 ((rd_T40 l0_2 x10_1).f5), .int .i64 ((rd_T40 l0_2 x10_1).f6)] 40 (0, 0))) := ⟨by (with_reducible repeat (first | refine blk_drewN ?_ _ | refine blk_drew ?_ | refine blk_alloc ?_ _)); refine blk_put (cs := #[.int .i64 ((rd_T40 l0_2 x10_1).f0), .int .i64 ((rd_T40 l0_2 x10_1).f1), .int .i64 ((rd_T40 l0_2 x10_1).f2), .int .i64 ((rd_T40 l0_2 x10_1).f3), .int .i64 ((rd_T40 l0_2 x10_1).f4), .int .i64 ((rd_T40 l0_2 x10_1).f5), .int .i64 0]) ?_ 6 _ rfl; (with_reducible repeat (first | refine blk_drewN ?_ _ | refine blk_drew ?_ | refine blk_alloc ?_ _)); refine blk_put (cs := #[.int .i64 ((rd_T40 l0_2 x10_1).f0), .int .i64 ((rd_T40 l0_2 x10_1).f1), .int .i64 ((rd_T40 l0_2 x10_1).f2), .int .i64 ((rd_T40 l0_2 x10_1).f3), .int .i64 ((rd_T40 l0_2 x10_1).f4), .int .i64 0, .int .i64 0]) ?_ 5 _ rfl; (with_reducible repeat (first | refine blk_drewN ?_ _ | refine blk_drew ?_ | refine blk_alloc ?_ _)); refine blk_put (cs := #[.int .i64 ((rd_T40 l0_2 x10_1).f0), .int .i64 ((rd_T40 l0_2 x10_1).f1), .int .i64 ((rd_T40 l0_2 x10_1).f2), .int .i64 ((rd_T40 l0_2 x10_1).f3), .int .i64 0, .int .i64 0, .int .i64 0]) ?_ 4 _ rfl; (with_reducible repeat (first | refine blk_drewN ?_ _ | refine blk_drew ?_ | refine blk_alloc ?_ _)); refine blk_put (cs := #[.int .i64 ((rd_T40 l0_2 x10_1).f0), .int .i64 ((rd_T40 l0_2 x10_1).f1), .int .i64 ((rd_T40 l0_2 x10_1).f2), .int .i64 0, .int .i64 0, .int .i64 0, .int .i64 0]) ?_ 3 _ rfl; (with_reducible repeat (first | refine blk_drewN ?_ _ | refine blk_drew ?_ | refine blk_alloc ?_ _)); refine blk_put (cs := #[.int .i64 ((rd_T40 l0_2 x10_1).f0), .int .i64 ((rd_T40 l0_2 x10_1).f1), .int .i64 0, .int .i64 0, .int .i64 0, .int .i64 0, .int .i64 0]) ?_ 2 _ rfl; (with_reducible repeat (first | refine blk_drewN ?_ _ | refine blk_drew ?_ | refine blk_alloc ?_ _)); refine blk_put (cs := #[.int .i64 ((rd_T40 l0_2 x10_1).f0), .int .i64 0, .int .i64 0, .int .i64 0, .int .i64 0, .int .i64 0, .int .i64 0]) ?_ 1 _ rfl; (with_reducible repeat (first | refine blk_drewN ?_ _ | refine blk_drew ?_ | refine blk_alloc ?_ _)); refine blk_put (cs := #[.int .i64 0, .int .i64 0, .int .i64 0, .int .i64 0, .int .i64 0, .int .i64 0, .int .i64 0]) ?_ 0 _ rfl; (with_reducible repeat (first | refine blk_drewN ?_ _ | refine blk_drew ?_ | refine blk_alloc ?_ _)); exact BK349.out⟩
                 have n3_ : Aside0 (Below w.heap.size w (((((((w14.setCell ⟨gb349, 0, none⟩ (.int .i64 ((rd_T40 l0_2 x10_1).f0))).setCell ⟨gb349, 1, none⟩ (.int .i64 ((rd_T40 l0_2 x10_1).f1))).setCell ⟨gb349, 2, none⟩ (.int .i64 ((rd_T40 l0_2 x10_1).f2))).setCell ⟨gb349, 3, none⟩ (.int .i64 ((rd_T40 l0_2 x10_1).f3))).setCell ⟨gb349, 4, none⟩ (.int .i64 ((rd_T40 l0_2 x10_1).f4))).setCell ⟨gb349, 5, none⟩ (.int .i64 ((rd_T40 l0_2 x10_1).f5))).setCell ⟨gb349, 6, none⟩ (.int .i64 ((rd_T40 l0_2 x10_1).f6)))) := ⟨by repeat (first | (with_reducible first | exact HB.out | apply below_alloc | apply pw_below_drewN | apply below_drew1 | refine below_set ?_ GE347.out | refine below_set ?_ GE349.out) | exact HB.out)⟩
                 (try clear HO_3)
                 (try clear BK347)
                 (try clear BK349)
                 (try clear HB)
                 generalize (((((((w14.setCell ⟨gb349, 0, none⟩ (.int .i64 ((rd_T40 l0_2 x10_1).f0))).setCell ⟨gb349, 1, none⟩ (.int .i64 ((rd_T40 l0_2 x10_1).f1))).setCell ⟨gb349, 2, none⟩ (.int .i64 ((rd_T40 l0_2 x10_1).f2))).setCell ⟨gb349, 3, none⟩ (.int .i64 ((rd_T40 l0_2 x10_1).f3))).setCell ⟨gb349, 4, none⟩ (.int .i64 ((rd_T40 l0_2 x10_1).f4))).setCell ⟨gb349, 5, none⟩ (.int .i64 ((rd_T40 l0_2 x10_1).f5))).setCell ⟨gb349, 6, none⟩ (.int .i64 ((rd_T40 l0_2 x10_1).f6))) = w17 at n0_ n1_ n2_ n3_ ⊢
                 have HO_3 := n0_
                 have BK347 := n1_
                 have BK349 := n2_
                 have HB := n3_
                 clear n0_ n1_ n2_ n3_
                 have n0_ := Aside0.mk (Kd.R_drew HO_3.out)
                 have n1_ := Aside0.mk (blk_drew BK347.out)
                 have n2_ := Aside0.mk (blk_drew BK349.out)
                 have n3_ := Aside0.mk (below_drew1 HB.out)
                 clear HO_3
                 clear BK347
                 clear BK349
                 clear HB
                 have HO_3 := n0_
                 have BK347 := n1_
                 have BK349 := n2_
                 have HB := n3_
                 clear n0_ n1_ n2_ n3_
                 refine start_ (n := 14) (S := fun w' => True) (ds := []) #[false, false, false, false, false, false, false, false, false, false, false, false, false, false] (by kernel_rfl) rfl rfl trivial (fun hHeld => ?_); refine with_tabW toc_Sessions.tab5 toc_Sessions.bits5 (fun HT_ HW_ => ?_)
                 generalize w17.drew = w18 at HO_3 BK347 BK349 HB hHeld ⊢
                 refine pure_ (i := 0) (N := some 15) (v := ?_) (a' := ?_) #[true, false, false, false, false, false, false, false, false, false, false, false, false, false] rfl rfl (any_of HT_.out (by kernel_rfl)) (fun _ _ _ h => h) (Or.inl ⟨by rfl, ?_⟩) ?_ ?_
                 rotate_left
                 · intro w'
                   go_simp
                   with_reducible rfl
                 rotate_left
                 · simp only [Act.put, List.setIfInBounds_toArray, List.set_cons_zero, List.set_cons_succ, i64_w, i32_w]
                   rfl
                 refine pure_ (i := 1) (N := some 16) (v := ?_) (a' := ?_) #[true, true, false, false, false, false, false, false, false, false, false, false, false, false] rfl rfl (any_of HT_.out (by kernel_rfl)) (fun _ _ _ h => h) (Or.inl ⟨by rfl, ?_⟩) ?_ ?_
                 rotate_left
                 · intro w'
                   go_simp
                   with_reducible rfl
                 rotate_left
                 · simp only [Act.put, List.setIfInBounds_toArray, List.set_cons_zero, List.set_cons_succ, i64_w, i32_w]
                   rfl
                 refine pure_ (i := 2) (N := some 17) (v := ?_) (a' := ?_) #[true, true, true, false, false, false, false, false, false, false, false, false, false, false] rfl rfl (any_of HT_.out (by kernel_rfl)) (fun _ _ _ h => h) (Or.inl ⟨by rfl, ?_⟩) ?_ ?_
                 rotate_left
                 · intro w'
                   go_simp
                   with_reducible rfl
                 rotate_left
                 · simp only [Act.put, List.setIfInBounds_toArray, List.set_cons_zero, List.set_cons_succ, i64_w, i32_w]
                   rfl
                 refine pure_ (i := 3) (N := some 18) (v := undef) (a' := ?_) #[true, true, true, true, false, false, false, false, false, false, false, false, false, false] rfl rfl (any_of HT_.out (by kernel_rfl)) (fun _ _ _ h => h) (Or.inr ⟨by rfl, rfl⟩) ?_ ?_
                 rotate_left
                 · simp only [Act.put, List.setIfInBounds_toArray, List.set_cons_zero, List.set_cons_succ, i64_w, i32_w]
                   rfl
                 refine pure_ (i := 4) (N := some 19) (v := undef) (a' := ?_) #[true, true, true, true, true, false, false, false, false, false, false, false, false, false] rfl rfl (any_of HT_.out (by kernel_rfl)) (fun _ _ _ h => h) (Or.inr ⟨by rfl, rfl⟩) ?_ ?_
                 rotate_left
                 · simp only [Act.put, List.setIfInBounds_toArray, List.set_cons_zero, List.set_cons_succ, i64_w, i32_w]
                   rfl
                 refine pure_ (i := 5) (N := some 20) (v := undef) (a' := ?_) #[true, true, true, true, true, true, false, false, false, false, false, false, false, false] rfl rfl (any_of HT_.out (by kernel_rfl)) (fun _ _ _ h => h) (Or.inr ⟨by rfl, rfl⟩) ?_ ?_
                 rotate_left
                 · simp only [Act.put, List.setIfInBounds_toArray, List.set_cons_zero, List.set_cons_succ, i64_w, i32_w]
                   rfl
                 refine pure_ (i := 6) (N := some 21) (v := undef) (a' := ?_) #[true, true, true, true, true, true, true, false, false, false, false, false, false, false] rfl rfl (any_of HT_.out (by kernel_rfl)) (fun _ _ _ h => h) (Or.inr ⟨by rfl, rfl⟩) ?_ ?_
                 rotate_left
                 · simp only [Act.put, List.setIfInBounds_toArray, List.set_cons_zero, List.set_cons_succ, i64_w, i32_w]
                   rfl
                 refine pure_ (i := 7) (N := some 22) (v := undef) (a' := ?_) #[true, true, true, true, true, true, true, true, false, false, false, false, false, false] rfl rfl (any_of HT_.out (by kernel_rfl)) (fun _ _ _ h => h) (Or.inr ⟨by rfl, rfl⟩) ?_ ?_
                 rotate_left
                 · simp only [Act.put, List.setIfInBounds_toArray, List.set_cons_zero, List.set_cons_succ, i64_w, i32_w]
                   rfl
                 refine pure_ (i := 8) (N := some 23) (v := undef) (a' := ?_) #[true, true, true, true, true, true, true, true, true, false, false, false, false, false] rfl rfl (any_of HT_.out (by kernel_rfl)) (fun _ _ _ h => h) (Or.inr ⟨by rfl, rfl⟩) ?_ ?_
                 rotate_left
                 · simp only [Act.put, List.setIfInBounds_toArray, List.set_cons_zero, List.set_cons_succ, i64_w, i32_w]
                   rfl
                 refine pure_ (i := 9) (N := some 24) (v := undef) (a' := ?_) #[true, true, true, true, true, true, true, true, true, true, false, false, false, false] rfl rfl (any_of HT_.out (by kernel_rfl)) (fun _ _ _ h => h) (Or.inr ⟨by rfl, rfl⟩) ?_ ?_
                 rotate_left
                 · simp only [Act.put, List.setIfInBounds_toArray, List.set_cons_zero, List.set_cons_succ, i64_w, i32_w]
                   rfl
                 refine pure_ (i := 10) (N := some 25) (v := undef) (a' := ?_) #[true, true, true, true, true, true, true, true, true, true, true, false, false, false] rfl rfl (any_of HT_.out (by kernel_rfl)) (fun _ _ _ h => h) (Or.inr ⟨by rfl, rfl⟩) ?_ ?_
                 rotate_left
                 · simp only [Act.put, List.setIfInBounds_toArray, List.set_cons_zero, List.set_cons_succ, i64_w, i32_w]
                   rfl
                 refine pure_ (i := 11) (N := some 26) (v := undef) (a' := ?_) #[true, true, true, true, true, true, true, true, true, true, true, true, false, false] rfl rfl (any_of HT_.out (by kernel_rfl)) (fun _ _ _ h => h) (Or.inr ⟨by rfl, rfl⟩) ?_ ?_
                 rotate_left
                 · simp only [Act.put, List.setIfInBounds_toArray, List.set_cons_zero, List.set_cons_succ, i64_w, i32_w]
                   rfl
                 refine pure_ (i := 12) (N := some 27) (v := undef) (a' := ?_) #[true, true, true, true, true, true, true, true, true, true, true, true, true, false] rfl rfl (any_of HT_.out (by kernel_rfl)) (fun _ _ _ h => h) (Or.inr ⟨by rfl, rfl⟩) ?_ ?_
                 rotate_left
                 · simp only [Act.put, List.setIfInBounds_toArray, List.set_cons_zero, List.set_cons_succ, i64_w, i32_w]
                   rfl
                 refine pure_ (i := 13) (N := some 28) (v := ?_) (a' := ?_) #[true, true, true, true, true, true, true, true, true, true, true, true, true, true] rfl rfl (any_of HT_.out (by kernel_rfl)) (fun _ _ _ h => h) (Or.inl ⟨by rfl, ?_⟩) ?_ ?_
                 rotate_left
                 · intro w'
                   go_simp
                   with_reducible rfl
                 rotate_left
                 · simp only [Act.put, List.setIfInBounds_toArray, List.set_cons_zero, List.set_cons_succ, i64_w, i32_w]
                   rfl
                 refine done_ (done_of HT_.out (by kernel_rfl)) ?_
                 obtain ⟨hcz19_0, hcz19_1, hcz19_2, hcz19_3, hcz19_4, hcz19_5, hcz19_6⟩ := cel7 BK349.out
                 obtain ⟨hfz19_0, hfz19_1, hfz19_2, hfz19_3, hfz19_4, hfz19_5, hfz19_6⟩ := frz7 BK349.out
                 obtain ⟨hcz20_0, hcz20_1, hcz20_2⟩ := cel3 BK347.out
                 obtain ⟨hfz20_0, hfz20_1, hfz20_2⟩ := frz3 BK347.out
                 try go_wp2_with (first | ((with_reducible refine gate_builtin (b := .append) (xs := #[.tmp 29, .tmp 38]) rfl ?_); at_builtin; refine Kd.R_append k46 (w0 := w) w.heap.size rfl (.tmp 29) (.tmp 38) 42 46 (.agg #[(.int .i64 0), (.int .i64 0), (.bool false)]) 24 rfl Try.underlying42 info46 rfl (by decide) (by omega) u3 x3_1 (⟨(rd_T40 l0_2 x10_1).f2, 0, decide (((rd_T40 l0_2 x10_1).f1) ≤ a0_0)⟩ : S46) [.int .i64 ((rd_T40 l0_2 x10_1).f2), .int .i64 0, .bool (decide (((rd_T40 l0_2 x10_1).f1) ≤ a0_0))] (fun _ => True) (fun _ => False) rfl rfl ?aP (fun _ hk => hk.elim) ?aF ?aO ?aB ?aS ?aL ?_; (case aP => exact k46_mkM _ _ _ (⟨(rd_T40 l0_2 x10_1).f2, 0, decide (((rd_T40 l0_2 x10_1).f1) ≤ a0_0)⟩ : S46)); (case aB => exact (by repeat (first | (with_reducible first | exact HB.out | apply below_alloc | apply pw_below_drewN | apply below_drew1 | refine below_set ?_ GE347.out | refine below_set ?_ GE349.out) | exact HB.out))); (case aF => exact (fun _ _ => trivial)); (case aO => exact (by (with_reducible repeat (first | apply Kd.R_alloc | apply Kd.R_drewN | apply Kd.R_drew)); exact HO_3.out)); (case aS => exact (below_size (by repeat (first | (with_reducible first | exact HB.out | apply below_alloc | apply pw_below_drewN | apply below_drew1 | refine below_set ?_ GE347.out | refine below_set ?_ GE349.out) | exact HB.out)))); (case aL => have := LMc8.out; omega); intro v351 w21 ho hb hg hat; rw [← Ny350.out] at ho; have n0_ := Aside0.mk (blk_grown (g := gb347) (o := .cells #[.int .i64 a0_0, .bool a0_1, .slice (some ad348) l0_2.length c0_2] 24 (0, 0)) (by (with_reducible repeat (first | refine blk_drewN ?_ _ | refine blk_drew ?_ | refine blk_alloc ?_ _)); exact BK347.out) hg (Kd.R_ne HO_3.out BK347.out (by decide))); have n1_ := Aside0.mk (blk_grown (g := gb349) (o := .cells #[.int .i64 ((rd_T40 l0_2 x10_1).f0), .int .i64 ((rd_T40 l0_2 x10_1).f1), .int .i64 ((rd_T40 l0_2 x10_1).f2), .int .i64 ((rd_T40 l0_2 x10_1).f3), .int .i64 ((rd_T40 l0_2 x10_1).f4), .int .i64 ((rd_T40 l0_2 x10_1).f5), .int .i64 ((rd_T40 l0_2 x10_1).f6)] 40 (0, 0)) (by (with_reducible repeat (first | refine blk_drewN ?_ _ | refine blk_drew ?_ | refine blk_alloc ?_ _)); exact BK349.out) hg (Kd.R_ne HO_3.out BK349.out (by decide))); have n2_ := Aside0.mk (hb); have n3_ := Aside0.mk (ho); clear BK347; clear BK349; clear HB; clear HO_3; have BK347 := n0_; have BK349 := n1_; have HB := n2_; have HO352 := n3_; clear n0_ n1_ n2_ n3_; clear ho hb hg hat; obtain ⟨Ao22, co22, eo22⟩ := Kd.R_slice HO352.out; subst eo22; have p12 : 0 ≤ ((ji9) : Int) := of_decide_eq_true (by first | (with_reducible assumption) | assumption); have q12 : ((ji9) : Int) < ((y350.length : Int) : Int) := of_decide_eq_true (by first | (with_reducible assumption) | assumption); obtain ⟨go12, co12, eo12, gb12, gl12, cl12, HG12⟩ := Kd.R_form HO352.out (by omega); (first | cases eo12 | (injection eo12 with ea_ en_ ec_; (first | subst ea_ | (injection ea_ with ea_; subst ea_)); subst ec_; clear en_)); have GB12 := Aside0.mk gb12; have GG12 := Aside0.mk HG12; clear gb12 gl12 HG12; obtain ⟨ce12, hcl12, hM12, hcc12, hfr12⟩ := Kd.R_elem HO352.out z46 ((ji9) : Int) p12 q12; obtain rfl := k46_openM hM12; have hx12_0 : w21.cell? ⟨go12, ((ji9) : Int).toNat * 3, none⟩ = some (.int .i64 ((rd_T46 y350 (ji9)).f0)) := hcc12 0 _ rfl; have hx12_1 : w21.cell? ⟨go12, ((ji9) : Int).toNat * 3 + 1, none⟩ = some (.int .i64 ((rd_T46 y350 (ji9)).f1)) := hcc12 1 _ rfl; have hx12_2 : w21.cell? ⟨go12, ((ji9) : Int).toNat * 3 + 2, none⟩ = some (.bool ((rd_T46 y350 (ji9)).f2)) := hcc12 2 _ rfl; have hf12_0 : w21.frozen? ⟨go12, ((ji9) : Int).toNat * 3, none⟩ = false := hfr12 0; have hf12_1 : w21.frozen? ⟨go12, ((ji9) : Int).toNat * 3 + 1, none⟩ = false := hfr12 1; have hf12_2 : w21.frozen? ⟨go12, ((ji9) : Int).toNat * 3 + 2, none⟩ = false := hfr12 2; clear hcl12 hcc12 hfr12 hM12; replace p12 := eq_true p12; replace q12 := eq_true q12))
                 have n0_ := Aside0.mk (Kd.R_drew HO352.out)
                 have n1_ := Aside0.mk (blk_drew BK347.out)
                 have n2_ := Aside0.mk (blk_drew BK349.out)
                 have n3_ := Aside0.mk (below_drew1 HB.out)
                 clear HO352
                 clear BK347
                 clear BK349
                 clear HB
                 have HO352 := n0_
                 have BK347 := n1_
                 have BK349 := n2_
                 have HB := n3_
                 clear n0_ n1_ n2_ n3_
                 refine start_ (n := 11) (S := fun w' => w'.cell? ⟨gb349, 0, none⟩ = some (.int .i64 ((rd_T40 l0_2 x10_1).f0)) ∧ w'.cell? ⟨gb349, 1, none⟩ = some (.int .i64 ((rd_T40 l0_2 x10_1).f1)) ∧ w'.cell? ⟨gb349, 2, none⟩ = some (.int .i64 ((rd_T40 l0_2 x10_1).f2)) ∧ w'.cell? ⟨gb349, 3, none⟩ = some (.int .i64 ((rd_T40 l0_2 x10_1).f3)) ∧ w'.cell? ⟨gb349, 4, none⟩ = some (.int .i64 ((rd_T40 l0_2 x10_1).f4)) ∧ w'.cell? ⟨gb349, 5, none⟩ = some (.int .i64 ((rd_T40 l0_2 x10_1).f5)) ∧ w'.cell? ⟨gb349, 6, none⟩ = some (.int .i64 ((rd_T40 l0_2 x10_1).f6)) ∧ w'.cell? ⟨go12, ((ji9) : Int).toNat * 3, none⟩ = some (.int .i64 ((rd_T46 y350 (ji9)).f0))) (ds := [10]) #[false, false, false, false, false, false, false, false, false, false, false] (by kernel_rfl) rfl rfl ⟨(blk_cell BK349.out 0).trans rfl, (blk_cell BK349.out 1).trans rfl, (blk_cell BK349.out 2).trans rfl, (blk_cell BK349.out 3).trans rfl, (blk_cell BK349.out 4).trans rfl, (blk_cell BK349.out 5).trans rfl, (blk_cell BK349.out 6).trans rfl, (ses_row HO352.out ((ji9) : Int) (of_eq_true p12) (of_eq_true q12)).1.1⟩ (fun hHeld => ?_); refine with_tabW toc_Sessions.tab8 toc_Sessions.bits8 (fun HT_ HW_ => ?_)
                 generalize w21.drew = w23 at HO352 BK347 BK349 HB hHeld ⊢
                 refine pure_ (i := 0) (N := some 45) (v := ?_) (a' := ?_) #[true, false, false, false, false, false, false, false, false, false, false] rfl rfl (any_of HT_.out (by kernel_rfl)) (fun _ _ _ h => h) (Or.inl ⟨by rfl, ?_⟩) ?_ ?_
                 rotate_left
                 · intro w'
                   go_simp
                   with_reducible rfl
                 rotate_left
                 · simp only [Act.put, List.setIfInBounds_toArray, List.set_cons_zero, List.set_cons_succ, i64_w, i32_w]
                   rfl
                 refine pure_ (i := 3) (N := some 48) (v := ?_) (a' := ?_) #[true, false, false, true, false, false, false, false, false, false, false] rfl rfl (any_of HT_.out (by kernel_rfl)) (fun _ _ _ h => h) (Or.inl ⟨by rfl, ?_⟩) ?_ ?_
                 rotate_left
                 · intro w'
                   go_simp
                   with_reducible rfl
                 rotate_left
                 · simp only [Act.put, List.setIfInBounds_toArray, List.set_cons_zero, List.set_cons_succ, i64_w, i32_w]
                   rfl
                 refine pure_ (i := 4) (N := some 49) (v := ?_) (a' := ?_) #[true, false, false, true, true, false, false, false, false, false, false] rfl rfl (any_of HT_.out (by kernel_rfl)) (fun _ _ _ h => h) (Or.inl ⟨by rfl, ?_⟩) ?_ ?_
                 rotate_left
                 · intro w'
                   go_simp
                   with_reducible rfl
                 rotate_left
                 · simp only [Act.put, List.setIfInBounds_toArray, List.set_cons_zero, List.set_cons_succ, i64_w, i32_w]
                   rfl
                 refine pure_ (i := 5) (N := some 50) (v := ?_) (a' := ?_) #[true, false, false, true, true, true, false, false, false, false, false] rfl rfl (any_of HT_.out (by kernel_rfl)) (fun _ _ _ h => h) (Or.inl ⟨by rfl, ?_⟩) ?_ ?_
                 rotate_left
                 · intro w'
                   go_simp
                   with_reducible rfl
                 rotate_left
                 · simp only [Act.put, List.setIfInBounds_toArray, List.set_cons_zero, List.set_cons_succ, i64_w, i32_w]
                   rfl
                 refine take_ (i := 1) (N := some 46) (v := ?_) (a' := ?_) #[true, true, false, true, true, true, false, false, false, false, false] rfl rfl (take_ofW HT_.out HW_.out (by kernel_rfl)) (fun _ _ _ h => h) (Or.inl ⟨by rfl, ?_⟩) hHeld ?_ ?_
                 rotate_left
                 · rintro w' ⟨s0, s1, s2, s3, s4, s5, s6, s7⟩
                   go_simp
                   with_reducible rfl
                 rotate_left
                 · simp only [Act.put, List.setIfInBounds_toArray, List.set_cons_zero, List.set_cons_succ, i64_w, i32_w]
                   rfl
                 refine take_ (i := 6) (N := some 51) (v := ?_) (a' := ?_) #[true, true, false, true, true, true, true, false, false, false, false] rfl rfl (take_ofW HT_.out HW_.out (by kernel_rfl)) (fun _ _ _ h => h) (Or.inl ⟨by rfl, ?_⟩) hHeld ?_ ?_
                 rotate_left
                 · rintro w' ⟨s0, s1, s2, s3, s4, s5, s6, s7⟩
                   go_simp
                   with_reducible rfl
                 rotate_left
                 · simp only [Act.put, List.setIfInBounds_toArray, List.set_cons_zero, List.set_cons_succ, i64_w, i32_w]
                   rfl
                 refine one_ (i := 2) (N := some 47) #[true, true, true, true, true, true, true, false, false, false, false] rfl rfl (one_of HT_.out (by kernel_rfl)) (by decide) (fun K hK => ?_)
                 refine goes_ Try.func26 (by kernel_rfl) rfl #[.agg #[.int .i64 ((rd_T40 l0_2 x10_1).f0), .int .i64 ((rd_T40 l0_2 x10_1).f1), .int .i64 ((rd_T40 l0_2 x10_1).f2), .int .i64 ((rd_T40 l0_2 x10_1).f3), .int .i64 ((rd_T40 l0_2 x10_1).f4), .int .i64 ((rd_T40 l0_2 x10_1).f5), .int .i64 ((rd_T40 l0_2 x10_1).f6)]] (by rfl) rfl rfl (by (try simp only [List.map_toArray, List.map_cons, List.map_nil]); first | done | rfl | (simp only [List.length_drop, List.length_take]; rfl)) ?_
                 with_reducible refine (toc_end.calls ((rd_T40 l0_2 x10_1).f0) ((rd_T40 l0_2 x10_1).f1) ((rd_T40 l0_2 x10_1).f2) ((rd_T40 l0_2 x10_1).f3) ((rd_T40 l0_2 x10_1).f4) ((rd_T40 l0_2 x10_1).f5) ((rd_T40 l0_2 x10_1).f6) t353 _ A13.out).mono ?_
                 rintro e w24 ⟨rfl, hb⟩
                 refine ⟨_, rfl, ?_⟩
                 have n0_ := Aside0.mk (Kd.R_below (by (with_reducible repeat (first | apply Kd.R_alloc | apply Kd.R_drewN | apply Kd.R_drew)); exact HO352.out) hb)
                 have n1_ := Aside0.mk (blk_below (g := gb347) (o := .cells #[.int .i64 a0_0, .bool a0_1, .slice (some ad348) l0_2.length c0_2] 24 (0, 0)) (by (with_reducible repeat (first | refine blk_drewN ?_ _ | refine blk_drew ?_ | refine blk_alloc ?_ _)); exact BK347.out) hb)
                 have n2_ := Aside0.mk (blk_below (g := gb349) (o := .cells #[.int .i64 ((rd_T40 l0_2 x10_1).f0), .int .i64 ((rd_T40 l0_2 x10_1).f1), .int .i64 ((rd_T40 l0_2 x10_1).f2), .int .i64 ((rd_T40 l0_2 x10_1).f3), .int .i64 ((rd_T40 l0_2 x10_1).f4), .int .i64 ((rd_T40 l0_2 x10_1).f5), .int .i64 ((rd_T40 l0_2 x10_1).f6)] 40 (0, 0)) (by (with_reducible repeat (first | refine blk_drewN ?_ _ | refine blk_drew ?_ | refine blk_alloc ?_ _)); exact BK349.out) hb)
                 have n3_ := Aside0.mk (below_step (by repeat (first | (with_reducible first | exact HB.out | apply below_alloc | apply pw_below_drewN | apply below_drew1 | refine below_set ?_ GE347.out | refine below_set ?_ GE349.out) | exact HB.out)) hb)
                 clear HO352
                 clear BK347
                 clear BK349
                 clear HB
                 have HO352 := n0_
                 have BK347 := n1_
                 have BK349 := n2_
                 have HB := n3_
                 clear n0_ n1_ n2_ n3_
                 (try clear hb)
                 (try clear hb2)
                 (try clear hk)
                 (try clear hi)
                 obtain ⟨ce25, hcl25, hM25, hcc25, hfr25⟩ := Kd.R_elem HO352.out z46 ((ji9) : Int) (of_decide_eq_true (by first | (with_reducible assumption) | assumption)) (by have h_ : ((ji9) : Int) < ((y350.length : Int) : Int) := of_decide_eq_true (by first | (with_reducible assumption) | assumption); first | exact h_ | (have e_ := (Kd.R_reads' HO352.out).1; omega) | simpa using h_)
                 obtain rfl := k46_openM hM25
                 have HP25 := (Kd.R_seg HO352.out ((ji9) : Int) (of_decide_eq_true (by first | (with_reducible assumption) | assumption)) (by have h_ : ((ji9) : Int) < ((y350.length : Int) : Int) := of_decide_eq_true (by first | (with_reducible assumption) | assumption); first | exact h_ | (have e_ := (Kd.R_reads' HO352.out).1; omega) | simpa using h_) (seg := [.int .i64 (wrap64 (t353 - ((rd_T46 y350 (ji9)).f0)))]) (j := 1) hcl25 hcc25 (show 2 ≤ 3 from by decide) (x' := (⟨(rd_T46 y350 (ji9)).f0, wrap64 (t353 - ((rd_T46 y350 (ji9)).f0)), (rd_T46 y350 (ji9)).f2⟩ : S46)) (k46_mkM _ _ _ (⟨(rd_T46 y350 (ji9)).f0, wrap64 (t353 - ((rd_T46 y350 (ji9)).f0)), (rd_T46 y350 (ji9)).f2⟩ : S46) ) (fun _ hk => hk)).1
                 rw [← Ny354.out] at HP25
                 have HQ25 := Aside0.mk HP25
                 clear hcl25 hcc25 hfr25 hM25 HP25
                 refine hK.out _ _ ⟨(blk_cell BK349.out 0).trans rfl, (blk_cell BK349.out 1).trans rfl, (blk_cell BK349.out 2).trans rfl, (blk_cell BK349.out 3).trans rfl, (blk_cell BK349.out 4).trans rfl, (blk_cell BK349.out 5).trans rfl, (blk_cell BK349.out 6).trans rfl, (ses_row HO352.out ((ji9) : Int) (of_eq_true p12) (of_eq_true q12)).1.1⟩ (fun hHeld => ?_)
                 clear hK K
                 refine norm_ (a' := ?_) ?_ ?_
                 rotate_left
                 · show Act.put _ (some 47) _ = _
                   simp only [Act.put, List.setIfInBounds_toArray, List.set_cons_zero, List.set_cons_succ, i64_w, i32_w]
                   rfl
                 refine pure_ (i := 7) (N := some 52) (v := ?_) (a' := ?_) #[true, true, true, true, true, true, true, true, false, false, false] rfl rfl (any_of HT_.out (by kernel_rfl)) (fun _ _ _ h => h) (Or.inl ⟨by rfl, ?_⟩) ?_ ?_
                 rotate_left
                 · intro w'
                   go_simp
                   with_reducible rfl
                 rotate_left
                 · simp only [Act.put, List.setIfInBounds_toArray, List.set_cons_zero, List.set_cons_succ, i64_w, i32_w]
                   rfl
                 refine pure_ (i := 8) (N := some 53) (v := ?_) (a' := ?_) #[true, true, true, true, true, true, true, true, true, false, false] rfl rfl (any_of HT_.out (by kernel_rfl)) (fun _ _ _ h => h) (Or.inl ⟨by rfl, ?_⟩) ?_ ?_
                 rotate_left
                 · intro w'
                   go_simp
                   with_reducible rfl
                 rotate_left
                 · simp only [Act.put, List.setIfInBounds_toArray, List.set_cons_zero, List.set_cons_succ, i64_w, i32_w]
                   rfl
                 refine pure_ (i := 9) (N := some 54) (v := ?_) (a' := ?_) #[true, true, true, true, true, true, true, true, true, true, false] rfl rfl (any_of HT_.out (by kernel_rfl)) (fun _ _ _ h => h) (Or.inl ⟨by rfl, ?_⟩) ?_ ?_
                 rotate_left
                 · intro w'
                   go_simp
                   with_reducible rfl
                 rotate_left
                 · simp only [Act.put, List.setIfInBounds_toArray, List.set_cons_zero, List.set_cons_succ, i64_w, i32_w]
                   rfl
                 obtain ⟨⟨rz0, rz1, rz2⟩, zf0, zf1, zf2⟩ := ses_row HO352.out ((ji9) : Int) (of_eq_true p12) (of_eq_true q12)
                 refine last_ (i := 10) (N := none) #[true, true, true, true, true, true, true, true, true, true, true] rfl rfl (one_of HT_.out (by kernel_rfl)) (by decide) (fun K hK => ?_)
                 refine skip_ (w1 := ?_) (by rfl) rfl ?_ ?_
                 rotate_left
                 · go_simp
                   rfl
                 refine hK.out _ _ ?_
                 clear hK K
                 refine done_ (done_of HT_.out (by kernel_rfl)) ?_
                 try go_wp2
                 go_roundg k1
                 case measure => have := HK1.out; omega
                 case rel => exact ⟨(y354), (wrap64 (x10_1 + 1)), (by first | rfl | (simp; done) | (simp [*]; done)), H', ⟨by have := HK1.out; omega⟩, ⟨by (with_reducible repeat (first | apply Kd.R_alloc | apply Kd.R_drewN | apply Kd.R_drew)); exact HQ25.out⟩, ⟨by (with_reducible repeat (first | refine blk_drewN ?_ _ | refine blk_drew ?_ | refine blk_alloc ?_ _)); refine blk_far ?_ (by have h_ := Kd.R_ne HO352.out BK347.out (by decide); intro e_; exact h_ (by rw [e_]; rfl)) _; (with_reducible repeat (first | refine blk_drewN ?_ _ | refine blk_drew ?_ | refine blk_alloc ?_ _)); exact BK347.out⟩, ⟨by repeat (first | (with_reducible first | exact HB.out | apply below_alloc | apply pw_below_drewN | apply below_drew1 | refine below_set ?_ GB12.out | refine below_set ?_ GE347.out | refine below_set ?_ GE349.out) | exact HB.out)⟩⟩
               · rw [if_neg c11] at H
                 exact absurd H (by simp)
             · rw [if_neg c10] at H
               exact absurd H (by simp)
           · rw [if_neg c8] at H
             exact absurd H (by simp)
         · rw [if_neg c7] at H
           have c7b0 : (x10_1 == 0) = false := beq_eq_false_iff_ne.mpr c7
           have c7b1 : (x10_1 != 0) = true := bne_iff_ne.mpr c7
           obtain ⟨ji26, hji26⟩ : ∃ j_ : Int, (wrap64 (x10_1 - 1)) = j_ := ⟨_, rfl⟩
           replace H : (if 0 ≤ (ji26) then (if (ji26) < (l0_2.length : Int) then (if ((rd_T40 l0_2 (ji26)).f1) = ((rd_T40 l0_2 x10_1).f1) then (if 0 ≤ (wrap64 ((x3_1.length : Int) - 1)) then (if (wrap64 ((x3_1.length : Int) - 1)) < (x3_1.length : Int) then ((toc_end.f ((rd_T40 l0_2 x10_1).f0) ((rd_T40 l0_2 x10_1).f1) ((rd_T40 l0_2 x10_1).f2) ((rd_T40 l0_2 x10_1).f3) ((rd_T40 l0_2 x10_1).f4) ((rd_T40 l0_2 x10_1).f5) ((rd_T40 l0_2 x10_1).f6)).bind fun t356 => (toc_Sessions.l0 k1 (x3_1.set ((wrap64 ((x3_1.length : Int) - 1)) : Int).toNat (⟨(rd_T46 x3_1 (wrap64 ((x3_1.length : Int) - 1))).f0, wrap64 (t356 - ((rd_T46 x3_1 (wrap64 ((x3_1.length : Int) - 1))).f0)), (rd_T46 x3_1 (wrap64 ((x3_1.length : Int) - 1))).f2⟩ : S46)) l0_2 (l0_2.length : Int) (wrap64 (x10_1 + 1)) a0_0 a0_1 l0_2)) else (none)) else (none)) else (if x3_1.length < 5864062014805 then ((some (x3_1 ++ [(⟨(rd_T40 l0_2 x10_1).f2, 0, decide (((rd_T40 l0_2 x10_1).f1) ≤ a0_0)⟩ : S46)] : List (S46))).bind fun y358 => (if 0 ≤ (wrap64 ((y358.length : Int) - 1)) then (if (wrap64 ((y358.length : Int) - 1)) < (y358.length : Int) then ((toc_end.f ((rd_T40 l0_2 x10_1).f0) ((rd_T40 l0_2 x10_1).f1) ((rd_T40 l0_2 x10_1).f2) ((rd_T40 l0_2 x10_1).f3) ((rd_T40 l0_2 x10_1).f4) ((rd_T40 l0_2 x10_1).f5) ((rd_T40 l0_2 x10_1).f6)).bind fun t361 => (toc_Sessions.l0 k1 (y358.set ((wrap64 ((y358.length : Int) - 1)) : Int).toNat (⟨(rd_T46 y358 (wrap64 ((y358.length : Int) - 1))).f0, wrap64 (t361 - ((rd_T46 y358 (wrap64 ((y358.length : Int) - 1))).f0)), (rd_T46 y358 (wrap64 ((y358.length : Int) - 1))).f2⟩ : S46)) l0_2 (l0_2.length : Int) (wrap64 (x10_1 + 1)) a0_0 a0_1 l0_2)) else (none)) else (none))) else (none))) else (none)) else (none)) = some r := by first | (rw [hji26] at H; exact H) | (simp only [hji26] at H ⊢; exact H)
           have hji26w : (IntKind.i64.wrap (x10_1 - 1)) = ji26 := (i64_w _).trans hji26
           by_cases c27 : 0 ≤ (ji26)
           · rw [if_pos c27] at H
             have c27b0 : decide (0 ≤ (ji26)) = true := decide_eq_true c27
             clear c27
             by_cases c28 : (ji26) < (l0_2.length : Int)
             · rw [if_pos c28] at H
               have c28b0 : decide ((ji26) < (l0_2.length : Int)) = true := decide_eq_true c28
               clear c28
               by_cases c29 : ((rd_T40 l0_2 (ji26)).f1) = ((rd_T40 l0_2 x10_1).f1)
               · rw [if_pos c29] at H
                 have c29b0 : (((rd_T40 l0_2 (ji26)).f1) == ((rd_T40 l0_2 x10_1).f1)) = true := beq_iff_eq.mpr c29
                 have c29b1 : (((rd_T40 l0_2 (ji26)).f1) != ((rd_T40 l0_2 x10_1).f1)) = false := bne_eq_false_iff_eq.mpr c29
                 clear c29
                 obtain ⟨ji30, hji30⟩ : ∃ j_ : Int, (wrap64 ((x3_1.length : Int) - 1)) = j_ := ⟨_, rfl⟩
                 replace H : (if 0 ≤ (ji30) then (if (ji30) < (x3_1.length : Int) then ((toc_end.f ((rd_T40 l0_2 x10_1).f0) ((rd_T40 l0_2 x10_1).f1) ((rd_T40 l0_2 x10_1).f2) ((rd_T40 l0_2 x10_1).f3) ((rd_T40 l0_2 x10_1).f4) ((rd_T40 l0_2 x10_1).f5) ((rd_T40 l0_2 x10_1).f6)).bind fun t356 => (toc_Sessions.l0 k1 (x3_1.set ((ji30) : Int).toNat (⟨(rd_T46 x3_1 (ji30)).f0, wrap64 (t356 - ((rd_T46 x3_1 (ji30)).f0)), (rd_T46 x3_1 (ji30)).f2⟩ : S46)) l0_2 (l0_2.length : Int) (wrap64 (x10_1 + 1)) a0_0 a0_1 l0_2)) else (none)) else (none)) = some r := by first | (rw [hji30] at H; exact H) | (simp only [hji30] at H ⊢; exact H)
                 have hji30w : (IntKind.i64.wrap ((x3_1.length : Int) - 1)) = ji30 := (i64_w _).trans hji30
                 by_cases c31 : 0 ≤ (ji30)
                 · rw [if_pos c31] at H
                   have c31b0 : decide (0 ≤ (ji30)) = true := decide_eq_true c31
                   clear c31
                   by_cases c32 : (ji30) < (x3_1.length : Int)
                   · rw [if_pos c32] at H
                     have c32b0 : decide ((ji30) < (x3_1.length : Int)) = true := decide_eq_true c32
                     clear c32
                     replace H := Option.bind_eq_some_iff.mp H
                     obtain ⟨t356, A340, H⟩ := H
                     replace H : (toc_Sessions.l0 k1 (x3_1.set ((ji30) : Int).toNat (⟨(rd_T46 x3_1 (ji30)).f0, wrap64 (t356 - ((rd_T46 x3_1 (ji30)).f0)), (rd_T46 x3_1 (ji30)).f2⟩ : S46)) l0_2 (l0_2.length : Int) (wrap64 (x10_1 + 1)) a0_0 a0_1 l0_2) = some r := H
                     have A34 := Aside0.mk A340
                     clear A340
                     obtain ⟨y357, hy357⟩ : ∃ y_ : List (S46), y_ = (x3_1.set ((ji30) : Int).toNat (⟨(rd_T46 x3_1 (ji30)).f0, wrap64 (t356 - ((rd_T46 x3_1 (ji30)).f0)), (rd_T46 x3_1 (ji30)).f2⟩ : S46)) := ⟨_, rfl⟩
                     replace H : (toc_Sessions.l0 k1 y357 l0_2 (l0_2.length : Int) (wrap64 (x10_1 + 1)) a0_0 a0_1 l0_2) = some r := by first | (rw [hy357]; with_reducible exact H) | (have H2_ := (Option.bind_some _ _).symm.trans H; rw [hy357]; with_reducible exact H2_) | (have H2_ := (Option.bind_some _ _).symm.trans H; with_reducible exact H2_) | with_reducible exact H | (rw [hy357]; exact H) | exact H
                     have Ny357 := Aside0.mk hy357
                     clear hy357
                     have H' := Aside0.mk H
                     clear H
                     have p348 : 0 ≤ (x10_1 : Int) := of_decide_eq_true (by first | (with_reducible assumption) | assumption)
                     have q348 : x10_1 < (l0_2.length : Int) := of_decide_eq_true (by first | (with_reducible assumption) | assumption)
                     obtain ⟨ad348, e348, hx348_0, hx348_1, hx348_2, hx348_3, hx348_4, hx348_5, hx348_6⟩ := at_T40 HR0_2.out x10_1 p348 q348
                     cases e348
                     replace hx348_0 := upc HB.out hx348_0
                     replace hx348_1 := upc HB.out hx348_1
                     replace hx348_2 := upc HB.out hx348_2
                     replace hx348_3 := upc HB.out hx348_3
                     replace hx348_4 := upc HB.out hx348_4
                     replace hx348_5 := upc HB.out hx348_5
                     replace hx348_6 := upc HB.out hx348_6
                     replace p348 := eq_true p348
                     replace q348 := eq_true q348
                     try go_wp2_with (first | ((with_reducible refine gate_dst (N := 5) rfl ?_); refine box_event ?hg (N := 5) ?hd (cs := #[.int .i64 0, .int .i64 0, .int .i64 0, .int .i64 0, .int .i64 0, .int .i64 0, .int .i64 0]) (t := 40) ?hr ?_; (case hd => rfl); (case hg => rfl); (case hr => first | (go_simp; done) | (go_simp; rfl)); intro gb349 hg w35 hbox hb; have n0_ := Aside0.mk (Kd.R_below (by (with_reducible repeat (first | apply Kd.R_alloc | apply Kd.R_drewN | apply Kd.R_drew)); exact HO_3.out) hb); have n1_ := Aside0.mk (blk_below (g := gb347) (o := .cells #[.int .i64 a0_0, .bool a0_1, .slice (some ad348) l0_2.length c0_2] 24 (0, 0)) (by (with_reducible repeat (first | refine blk_drewN ?_ _ | refine blk_drew ?_ | refine blk_alloc ?_ _)); exact BK347.out) hb); have n2_ := Aside0.mk (below_step (by repeat (first | (with_reducible first | exact HB.out | apply below_alloc | apply pw_below_drewN | apply below_drew1 | refine below_set ?_ GE347.out) | exact HB.out)) hb); have n3_ := Aside0.mk (hbox); have n4_ := Aside0.mk ((by rw [hg]; exact (below_size (by repeat (first | (with_reducible first | exact HB.out | apply below_alloc | apply pw_below_drewN | apply below_drew1 | refine below_set ?_ GE347.out) | exact HB.out))) : w.heap.size ≤ gb349)); have n5_ := Aside0.mk ((by rw [hg]; exact (below_size (by repeat (first | (with_reducible first | exact HB.out | apply below_alloc | apply pw_below_drewN | apply below_drew1 | refine below_set ?_ GE347.out) | exact HB.out))) : w.heap.size ≤ gb349)); have n6_ := Aside0.mk ((by rw [hg]; exact Nat.ne_of_lt (blk_lt (g := gb347) (o := .cells #[.int .i64 a0_0, .bool a0_1, .slice (some ad348) l0_2.length c0_2] 24 (0, 0)) (by (with_reducible repeat (first | refine blk_drewN ?_ _ | refine blk_drew ?_ | refine blk_alloc ?_ _)); exact BK347.out)) : gb347 ≠ gb349)); have n7_ := Aside0.mk ((by rw [hg]; exact Nat.ne_of_gt (blk_lt (g := gb347) (o := .cells #[.int .i64 a0_0, .bool a0_1, .slice (some ad348) l0_2.length c0_2] 24 (0, 0)) (by (with_reducible repeat (first | refine blk_drewN ?_ _ | refine blk_drew ?_ | refine blk_alloc ?_ _)); exact BK347.out)) : gb349 ≠ gb347)); clear HO_3; clear BK347; clear HB; have HO_3 := n0_; have BK347 := n1_; have HB := n2_; have BK349 := n3_; have GW349 := n4_; have GE349 := n5_; have NB347_349 := n6_; have NB349_347 := n7_; clear n0_ n1_ n2_ n3_ n4_ n5_ n6_ n7_; clear hb hbox hg; have hnb36 := NB349_347.out; have hnc36 := NB347_349.out; obtain ⟨hcz37_0, hcz37_1, hcz37_2, hcz37_3, hcz37_4, hcz37_5, hcz37_6⟩ := cel7 BK349.out; obtain ⟨hfz37_0, hfz37_1, hfz37_2, hfz37_3, hfz37_4, hfz37_5, hfz37_6⟩ := frz7 BK349.out))
                     have n0_ : Aside0 (Kd.R k46 46 (((((((w35.setCell ⟨gb349, 0, none⟩ (.int .i64 ((rd_T40 l0_2 x10_1).f0))).setCell ⟨gb349, 1, none⟩ (.int .i64 ((rd_T40 l0_2 x10_1).f1))).setCell ⟨gb349, 2, none⟩ (.int .i64 ((rd_T40 l0_2 x10_1).f2))).setCell ⟨gb349, 3, none⟩ (.int .i64 ((rd_T40 l0_2 x10_1).f3))).setCell ⟨gb349, 4, none⟩ (.int .i64 ((rd_T40 l0_2 x10_1).f4))).setCell ⟨gb349, 5, none⟩ (.int .i64 ((rd_T40 l0_2 x10_1).f5))).setCell ⟨gb349, 6, none⟩ (.int .i64 ((rd_T40 l0_2 x10_1).f6))) w.heap.size (fun _ => True) u3 x3_1) := ⟨by (with_reducible repeat (first | apply Kd.R_alloc | apply Kd.R_drewN | apply Kd.R_drew)); exact Kd.R_mono (Kd.R_far (p := ⟨gb349, 6, none⟩) (Kd.R_far (p := ⟨gb349, 5, none⟩) (Kd.R_far (p := ⟨gb349, 4, none⟩) (Kd.R_far (p := ⟨gb349, 3, none⟩) (Kd.R_far (p := ⟨gb349, 2, none⟩) (Kd.R_far (p := ⟨gb349, 1, none⟩) (Kd.R_far (p := ⟨gb349, 0, none⟩) (Kd.R_types HO_3.out BK349.out (by decide)) (fun _ hk => hk.2) (.int .i64 ((rd_T40 l0_2 x10_1).f0))) (fun _ hk => hk.2) (.int .i64 ((rd_T40 l0_2 x10_1).f1))) (fun _ hk => hk.2) (.int .i64 ((rd_T40 l0_2 x10_1).f2))) (fun _ hk => hk.2) (.int .i64 ((rd_T40 l0_2 x10_1).f3))) (fun _ hk => hk.2) (.int .i64 ((rd_T40 l0_2 x10_1).f4))) (fun _ hk => hk.2) (.int .i64 ((rd_T40 l0_2 x10_1).f5))) (fun _ hk => hk.2) (.int .i64 ((rd_T40 l0_2 x10_1).f6))) (fun _ hk => trivial)⟩
                     have n1_ : Aside0 ((((((((w35.setCell ⟨gb349, 0, none⟩ (.int .i64 ((rd_T40 l0_2 x10_1).f0))).setCell ⟨gb349, 1, none⟩ (.int .i64 ((rd_T40 l0_2 x10_1).f1))).setCell ⟨gb349, 2, none⟩ (.int .i64 ((rd_T40 l0_2 x10_1).f2))).setCell ⟨gb349, 3, none⟩ (.int .i64 ((rd_T40 l0_2 x10_1).f3))).setCell ⟨gb349, 4, none⟩ (.int .i64 ((rd_T40 l0_2 x10_1).f4))).setCell ⟨gb349, 5, none⟩ (.int .i64 ((rd_T40 l0_2 x10_1).f5))).setCell ⟨gb349, 6, none⟩ (.int .i64 ((rd_T40 l0_2 x10_1).f6))).heap[gb347]? = some (.cells #[.int .i64 a0_0, .bool a0_1, .slice (some ad348) l0_2.length c0_2] 24 (0, 0))) := ⟨by (with_reducible repeat (first | refine blk_drewN ?_ _ | refine blk_drew ?_ | refine blk_alloc ?_ _)); refine blk_far ?_ NB347_349.out _; (with_reducible repeat (first | refine blk_drewN ?_ _ | refine blk_drew ?_ | refine blk_alloc ?_ _)); refine blk_far ?_ NB347_349.out _; (with_reducible repeat (first | refine blk_drewN ?_ _ | refine blk_drew ?_ | refine blk_alloc ?_ _)); refine blk_far ?_ NB347_349.out _; (with_reducible repeat (first | refine blk_drewN ?_ _ | refine blk_drew ?_ | refine blk_alloc ?_ _)); refine blk_far ?_ NB347_349.out _; (with_reducible repeat (first | refine blk_drewN ?_ _ | refine blk_drew ?_ | refine blk_alloc ?_ _)); refine blk_far ?_ NB347_349.out _; (with_reducible repeat (first | refine blk_drewN ?_ _ | refine blk_drew ?_ | refine blk_alloc ?_ _)); refine blk_far ?_ NB347_349.out _; (with_reducible repeat (first | refine blk_drewN ?_ _ | refine blk_drew ?_ | refine blk_alloc ?_ _)); refine blk_far ?_ NB347_349.out _; (with_reducible repeat (first | refine blk_drewN ?_ _ | refine blk_drew ?_ | refine blk_alloc ?_ _)); exact BK347.out⟩
                     have n2_ : Aside0 ((((((((w35.setCell ⟨gb349, 0, none⟩ (.int .i64 ((rd_T40 l0_2 x10_1).f0))).setCell ⟨gb349, 1, none⟩ (.int .i64 ((rd_T40 l0_2 x10_1).f1))).setCell ⟨gb349, 2, none⟩ (.int .i64 ((rd_T40 l0_2 x10_1).f2))).setCell ⟨gb349, 3, none⟩ (.int .i64 ((rd_T40 l0_2 x10_1).f3))).setCell ⟨gb349, 4, none⟩ (.int .i64 ((rd_T40 l0_2 x10_1).f4))).setCell ⟨gb349, 5, none⟩ (.int .i64 ((rd_T40 l0_2 x10_1).f5))).setCell ⟨gb349, 6, none⟩ (.int .i64 ((rd_T40 l0_2 x10_1).f6))).heap[gb349]? = some (.cells #[.int .i64 ((rd_T40 l0_2 x10_1).f0), .int .i64 ((rd_T40 l0_2 x10_1).f1), .int .i64 ((rd_T40 l0_2 x10_1).f2), .int .i64 ((rd_T40 l0_2 x10_1).f3), .int .i64 ((rd_T40 l0_2 x10_1).f4), .int .i64 ((rd_T40 l0_2 x10_1).f5), .int .i64 ((rd_T40 l0_2 x10_1).f6)] 40 (0, 0))) := ⟨by (with_reducible repeat (first | refine blk_drewN ?_ _ | refine blk_drew ?_ | refine blk_alloc ?_ _)); refine blk_put (cs := #[.int .i64 ((rd_T40 l0_2 x10_1).f0), .int .i64 ((rd_T40 l0_2 x10_1).f1), .int .i64 ((rd_T40 l0_2 x10_1).f2), .int .i64 ((rd_T40 l0_2 x10_1).f3), .int .i64 ((rd_T40 l0_2 x10_1).f4), .int .i64 ((rd_T40 l0_2 x10_1).f5), .int .i64 0]) ?_ 6 _ rfl; (with_reducible repeat (first | refine blk_drewN ?_ _ | refine blk_drew ?_ | refine blk_alloc ?_ _)); refine blk_put (cs := #[.int .i64 ((rd_T40 l0_2 x10_1).f0), .int .i64 ((rd_T40 l0_2 x10_1).f1), .int .i64 ((rd_T40 l0_2 x10_1).f2), .int .i64 ((rd_T40 l0_2 x10_1).f3), .int .i64 ((rd_T40 l0_2 x10_1).f4), .int .i64 0, .int .i64 0]) ?_ 5 _ rfl; (with_reducible repeat (first | refine blk_drewN ?_ _ | refine blk_drew ?_ | refine blk_alloc ?_ _)); refine blk_put (cs := #[.int .i64 ((rd_T40 l0_2 x10_1).f0), .int .i64 ((rd_T40 l0_2 x10_1).f1), .int .i64 ((rd_T40 l0_2 x10_1).f2), .int .i64 ((rd_T40 l0_2 x10_1).f3), .int .i64 0, .int .i64 0, .int .i64 0]) ?_ 4 _ rfl; (with_reducible repeat (first | refine blk_drewN ?_ _ | refine blk_drew ?_ | refine blk_alloc ?_ _)); refine blk_put (cs := #[.int .i64 ((rd_T40 l0_2 x10_1).f0), .int .i64 ((rd_T40 l0_2 x10_1).f1), .int .i64 ((rd_T40 l0_2 x10_1).f2), .int .i64 0, .int .i64 0, .int .i64 0, .int .i64 0]) ?_ 3 _ rfl; (with_reducible repeat (first | refine blk_drewN ?_ _ | refine blk_drew ?_ | refine blk_alloc ?_ _)); refine blk_put (cs := #[.int .i64 ((rd_T40 l0_2 x10_1).f0), .int .i64 ((rd_T40 l0_2 x10_1).f1), .int .i64 0, .int .i64 0, .int .i64 0, .int .i64 0, .int .i64 0]) ?_ 2 _ rfl; (with_reducible repeat (first | refine blk_drewN ?_ _ | refine blk_drew ?_ | refine blk_alloc ?_ _)); refine blk_put (cs := #[.int .i64 ((rd_T40 l0_2 x10_1).f0), .int .i64 0, .int .i64 0, .int .i64 0, .int .i64 0, .int .i64 0, .int .i64 0]) ?_ 1 _ rfl; (with_reducible repeat (first | refine blk_drewN ?_ _ | refine blk_drew ?_ | refine blk_alloc ?_ _)); refine blk_put (cs := #[.int .i64 0, .int .i64 0, .int .i64 0, .int .i64 0, .int .i64 0, .int .i64 0, .int .i64 0]) ?_ 0 _ rfl; (with_reducible repeat (first | refine blk_drewN ?_ _ | refine blk_drew ?_ | refine blk_alloc ?_ _)); exact BK349.out⟩
                     have n3_ : Aside0 (Below w.heap.size w (((((((w35.setCell ⟨gb349, 0, none⟩ (.int .i64 ((rd_T40 l0_2 x10_1).f0))).setCell ⟨gb349, 1, none⟩ (.int .i64 ((rd_T40 l0_2 x10_1).f1))).setCell ⟨gb349, 2, none⟩ (.int .i64 ((rd_T40 l0_2 x10_1).f2))).setCell ⟨gb349, 3, none⟩ (.int .i64 ((rd_T40 l0_2 x10_1).f3))).setCell ⟨gb349, 4, none⟩ (.int .i64 ((rd_T40 l0_2 x10_1).f4))).setCell ⟨gb349, 5, none⟩ (.int .i64 ((rd_T40 l0_2 x10_1).f5))).setCell ⟨gb349, 6, none⟩ (.int .i64 ((rd_T40 l0_2 x10_1).f6)))) := ⟨by repeat (first | (with_reducible first | exact HB.out | apply below_alloc | apply pw_below_drewN | apply below_drew1 | refine below_set ?_ GE347.out | refine below_set ?_ GE349.out) | exact HB.out)⟩
                     (try clear HO_3)
                     (try clear BK347)
                     (try clear BK349)
                     (try clear HB)
                     generalize (((((((w35.setCell ⟨gb349, 0, none⟩ (.int .i64 ((rd_T40 l0_2 x10_1).f0))).setCell ⟨gb349, 1, none⟩ (.int .i64 ((rd_T40 l0_2 x10_1).f1))).setCell ⟨gb349, 2, none⟩ (.int .i64 ((rd_T40 l0_2 x10_1).f2))).setCell ⟨gb349, 3, none⟩ (.int .i64 ((rd_T40 l0_2 x10_1).f3))).setCell ⟨gb349, 4, none⟩ (.int .i64 ((rd_T40 l0_2 x10_1).f4))).setCell ⟨gb349, 5, none⟩ (.int .i64 ((rd_T40 l0_2 x10_1).f5))).setCell ⟨gb349, 6, none⟩ (.int .i64 ((rd_T40 l0_2 x10_1).f6))) = w38 at n0_ n1_ n2_ n3_ ⊢
                     have HO_3 := n0_
                     have BK347 := n1_
                     have BK349 := n2_
                     have HB := n3_
                     clear n0_ n1_ n2_ n3_
                     have n0_ := Aside0.mk (Kd.R_drew HO_3.out)
                     have n1_ := Aside0.mk (blk_drew BK347.out)
                     have n2_ := Aside0.mk (blk_drew BK349.out)
                     have n3_ := Aside0.mk (below_drew1 HB.out)
                     clear HO_3
                     clear BK347
                     clear BK349
                     clear HB
                     have HO_3 := n0_
                     have BK347 := n1_
                     have BK349 := n2_
                     have HB := n3_
                     clear n0_ n1_ n2_ n3_
                     have p355 : 0 ≤ ((ji26) : Int) := of_decide_eq_true (by first | (with_reducible assumption) | assumption)
                     have q355 : (ji26) < (l0_2.length : Int) := of_decide_eq_true (by first | (with_reducible assumption) | assumption)
                     obtain ⟨ad355, e355, hx355_0, hx355_1, hx355_2, hx355_3, hx355_4, hx355_5, hx355_6⟩ := at_T40 HR0_2.out (ji26) p355 q355
                     have hw355_6 := hx355_6
                     have hw355_5 := hx355_5
                     have hw355_4 := hx355_4
                     have hw355_3 := hx355_3
                     have hw355_2 := hx355_2
                     have hw355_1 := hx355_1
                     have hw355_0 := hx355_0
                     obtain rfl : ad348 = ad355 := (by injection e355)
                     replace hx355_0 := upc HB.out hx355_0
                     replace hx355_1 := upc HB.out hx355_1
                     replace hx355_2 := upc HB.out hx355_2
                     replace hx355_3 := upc HB.out hx355_3
                     replace hx355_4 := upc HB.out hx355_4
                     replace hx355_5 := upc HB.out hx355_5
                     replace hx355_6 := upc HB.out hx355_6
                     replace p355 := eq_true p355
                     replace q355 := eq_true q355
                     refine start_ (n := 14) (S := fun w' => w'.cell? ⟨gb347, 0, none⟩ = some (.int .i64 a0_0) ∧ w'.cell? ⟨gb347, 1, none⟩ = some (.bool a0_1) ∧ w'.cell? ⟨gb347, 2, none⟩ = some (.slice (some ad348) l0_2.length c0_2) ∧ w'.cell? ⟨gb349, 0, none⟩ = some (.int .i64 ((rd_T40 l0_2 x10_1).f0)) ∧ w'.cell? ⟨gb349, 1, none⟩ = some (.int .i64 ((rd_T40 l0_2 x10_1).f1)) ∧ w'.cell? ⟨gb349, 2, none⟩ = some (.int .i64 ((rd_T40 l0_2 x10_1).f2)) ∧ w'.cell? ⟨gb349, 3, none⟩ = some (.int .i64 ((rd_T40 l0_2 x10_1).f3)) ∧ w'.cell? ⟨gb349, 4, none⟩ = some (.int .i64 ((rd_T40 l0_2 x10_1).f4)) ∧ w'.cell? ⟨gb349, 5, none⟩ = some (.int .i64 ((rd_T40 l0_2 x10_1).f5)) ∧ w'.cell? ⟨gb349, 6, none⟩ = some (.int .i64 ((rd_T40 l0_2 x10_1).f6)) ∧ w'.cell? (ad348.add (((ji26)).toNat * 7)) = some (.int .i64 ((rd_T40 l0_2 (ji26)).f0)) ∧ w'.cell? ⟨(ad348.add (((ji26)).toNat * 7)).block, (ad348.add (((ji26)).toNat * 7)).off + 1, none⟩ = some (.int .i64 ((rd_T40 l0_2 (ji26)).f1)) ∧ w'.cell? ⟨(ad348.add (((ji26)).toNat * 7)).block, (ad348.add (((ji26)).toNat * 7)).off + 2, none⟩ = some (.int .i64 ((rd_T40 l0_2 (ji26)).f2)) ∧ w'.cell? ⟨(ad348.add (((ji26)).toNat * 7)).block, (ad348.add (((ji26)).toNat * 7)).off + 3, none⟩ = some (.int .i64 ((rd_T40 l0_2 (ji26)).f3)) ∧ w'.cell? ⟨(ad348.add (((ji26)).toNat * 7)).block, (ad348.add (((ji26)).toNat * 7)).off + 4, none⟩ = some (.int .i64 ((rd_T40 l0_2 (ji26)).f4)) ∧ w'.cell? ⟨(ad348.add (((ji26)).toNat * 7)).block, (ad348.add (((ji26)).toNat * 7)).off + 5, none⟩ = some (.int .i64 ((rd_T40 l0_2 (ji26)).f5)) ∧ w'.cell? ⟨(ad348.add (((ji26)).toNat * 7)).block, (ad348.add (((ji26)).toNat * 7)).off + 6, none⟩ = some (.int .i64 ((rd_T40 l0_2 (ji26)).f6))) (ds := []) #[false, false, false, false, false, false, false, false, false, false, false, false, false, false] (by kernel_rfl) rfl rfl ⟨(blk_cell BK347.out 0).trans rfl, (blk_cell BK347.out 1).trans rfl, (blk_cell BK347.out 2).trans rfl, (blk_cell BK349.out 0).trans rfl, (blk_cell BK349.out 1).trans rfl, (blk_cell BK349.out 2).trans rfl, (blk_cell BK349.out 3).trans rfl, (blk_cell BK349.out 4).trans rfl, (blk_cell BK349.out 5).trans rfl, (blk_cell BK349.out 6).trans rfl, ((HB.out.cell (World.block_lt_of_cell? w _ hw355_0)).trans hw355_0), ((HB.out.cell (World.block_lt_of_cell? w _ hw355_1)).trans hw355_1), ((HB.out.cell (World.block_lt_of_cell? w _ hw355_2)).trans hw355_2), ((HB.out.cell (World.block_lt_of_cell? w _ hw355_3)).trans hw355_3), ((HB.out.cell (World.block_lt_of_cell? w _ hw355_4)).trans hw355_4), ((HB.out.cell (World.block_lt_of_cell? w _ hw355_5)).trans hw355_5), ((HB.out.cell (World.block_lt_of_cell? w _ hw355_6)).trans hw355_6)⟩ (fun hHeld => ?_); refine with_tabW toc_Sessions.tab5 toc_Sessions.bits5 (fun HT_ HW_ => ?_)
                     generalize w38.drew = w39 at HO_3 BK347 BK349 HB hx355_0 hx355_1 hx355_2 hx355_3 hx355_4 hx355_5 hx355_6 hHeld ⊢
                     refine pure_ (i := 0) (N := some 15) (v := ?_) (a' := ?_) #[true, false, false, false, false, false, false, false, false, false, false, false, false, false] rfl rfl (any_of HT_.out (by kernel_rfl)) (fun _ _ _ h => h) (Or.inl ⟨by rfl, ?_⟩) ?_ ?_
                     rotate_left
                     · intro w'
                       go_simp
                       with_reducible rfl
                     rotate_left
                     · simp only [Act.put, List.setIfInBounds_toArray, List.set_cons_zero, List.set_cons_succ, i64_w, i32_w]
                       rfl
                     refine pure_ (i := 1) (N := some 16) (v := ?_) (a' := ?_) #[true, true, false, false, false, false, false, false, false, false, false, false, false, false] rfl rfl (any_of HT_.out (by kernel_rfl)) (fun _ _ _ h => h) (Or.inl ⟨by rfl, ?_⟩) ?_ ?_
                     rotate_left
                     · intro w'
                       go_simp
                       with_reducible rfl
                     rotate_left
                     · simp only [Act.put, List.setIfInBounds_toArray, List.set_cons_zero, List.set_cons_succ, i64_w, i32_w]
                       rfl
                     refine pure_ (i := 2) (N := some 17) (v := ?_) (a' := ?_) #[true, true, true, false, false, false, false, false, false, false, false, false, false, false] rfl rfl (any_of HT_.out (by kernel_rfl)) (fun _ _ _ h => h) (Or.inl ⟨by rfl, ?_⟩) ?_ ?_
                     rotate_left
                     · intro w'
                       go_simp
                       with_reducible rfl
                     rotate_left
                     · simp only [Act.put, List.setIfInBounds_toArray, List.set_cons_zero, List.set_cons_succ, i64_w, i32_w]
                       rfl
                     refine pure_ (i := 3) (N := some 18) (v := ?_) (a' := ?_) #[true, true, true, true, false, false, false, false, false, false, false, false, false, false] rfl rfl (any_of HT_.out (by kernel_rfl)) (fun _ _ _ h => h) (Or.inl ⟨by rfl, ?_⟩) ?_ ?_
                     rotate_left
                     · intro w'
                       go_simp
                       with_reducible rfl
                     rotate_left
                     · simp only [Act.put, List.setIfInBounds_toArray, List.set_cons_zero, List.set_cons_succ, i64_w, i32_w]
                       rfl
                     refine pure_ (i := 5) (N := some 20) (v := ?_) (a' := ?_) #[true, true, true, true, false, true, false, false, false, false, false, false, false, false] rfl rfl (any_of HT_.out (by kernel_rfl)) (fun _ _ _ h => h) (Or.inl ⟨by rfl, ?_⟩) ?_ ?_
                     rotate_left
                     · intro w'
                       go_simp
                       with_reducible rfl
                     rotate_left
                     · simp only [Act.put, List.setIfInBounds_toArray, List.set_cons_zero, List.set_cons_succ, i64_w, i32_w]
                       rfl
                     refine pure_ (i := 6) (N := some 21) (v := ?_) (a' := ?_) #[true, true, true, true, false, true, true, false, false, false, false, false, false, false] rfl rfl (any_of HT_.out (by kernel_rfl)) (fun _ _ _ h => h) (Or.inl ⟨by rfl, ?_⟩) ?_ ?_
                     rotate_left
                     · intro w'
                       go_simp
                       with_reducible rfl
                     rotate_left
                     · simp only [Act.put, List.setIfInBounds_toArray, List.set_cons_zero, List.set_cons_succ, i64_w, i32_w]
                       rfl
                     refine pure_ (i := 10) (N := some 25) (v := ?_) (a' := ?_) #[true, true, true, true, false, true, true, false, false, false, true, false, false, false] rfl rfl (any_of HT_.out (by kernel_rfl)) (fun _ _ _ h => h) (Or.inl ⟨by rfl, ?_⟩) ?_ ?_
                     rotate_left
                     · intro w'
                       go_simp
                       with_reducible rfl
                     rotate_left
                     · simp only [Act.put, List.setIfInBounds_toArray, List.set_cons_zero, List.set_cons_succ, i64_w, i32_w]
                       rfl
                     refine take_ (i := 4) (N := some 19) (v := ?_) (a' := ?_) #[true, true, true, true, true, true, true, false, false, false, true, false, false, false] rfl rfl (take_ofW HT_.out HW_.out (by kernel_rfl)) (fun _ _ _ h => h) (Or.inl ⟨by rfl, ?_⟩) hHeld ?_ ?_
                     rotate_left
                     · rintro w' ⟨s0, s1, s2, s3, s4, s5, s6, s7, s8, s9, s10, s11, s12, s13, s14, s15, s16⟩
                       go_simp
                       with_reducible rfl
                     rotate_left
                     · simp only [Act.put, List.setIfInBounds_toArray, List.set_cons_zero, List.set_cons_succ, i64_w, i32_w]
                       rfl
                     refine pure_ (i := 7) (N := some 22) (v := ?_) (a' := ?_) #[true, true, true, true, true, true, true, true, false, false, true, false, false, false] rfl rfl (any_of HT_.out (by kernel_rfl)) (fun _ _ _ h => h) (Or.inl ⟨by rfl, ?_⟩) ?_ ?_
                     rotate_left
                     · intro w'
                       go_simp
                       with_reducible rfl
                     rotate_left
                     · simp only [Act.put, List.setIfInBounds_toArray, List.set_cons_zero, List.set_cons_succ, i64_w, i32_w]
                       rfl
                     refine pure_ (i := 8) (N := some 23) (v := ?_) (a' := ?_) #[true, true, true, true, true, true, true, true, true, false, true, false, false, false] rfl rfl (any_of HT_.out (by kernel_rfl)) (fun _ _ _ h => h) (Or.inl ⟨by rfl, ?_⟩) ?_ ?_
                     rotate_left
                     · intro w'
                       go_simp
                       with_reducible rfl
                     rotate_left
                     · simp only [Act.put, List.setIfInBounds_toArray, List.set_cons_zero, List.set_cons_succ, i64_w, i32_w]
                       rfl
                     refine take_ (i := 9) (N := some 24) (v := ?_) (a' := ?_) #[true, true, true, true, true, true, true, true, true, true, true, false, false, false] rfl rfl (take_ofW HT_.out HW_.out (by kernel_rfl)) (fun _ _ _ h => h) (Or.inl ⟨by rfl, ?_⟩) hHeld ?_ ?_
                     rotate_left
                     · rintro w' ⟨s0, s1, s2, s3, s4, s5, s6, s7, s8, s9, s10, s11, s12, s13, s14, s15, s16⟩
                       go_simp
                       with_reducible rfl
                     rotate_left
                     · simp only [Act.put, List.setIfInBounds_toArray, List.set_cons_zero, List.set_cons_succ, i64_w, i32_w]
                       rfl
                     refine take_ (i := 11) (N := some 26) (v := ?_) (a' := ?_) #[true, true, true, true, true, true, true, true, true, true, true, true, false, false] rfl rfl (take_ofW HT_.out HW_.out (by kernel_rfl)) (fun _ _ _ h => h) (Or.inl ⟨by rfl, ?_⟩) hHeld ?_ ?_
                     rotate_left
                     · rintro w' ⟨s0, s1, s2, s3, s4, s5, s6, s7, s8, s9, s10, s11, s12, s13, s14, s15, s16⟩
                       go_simp
                       with_reducible rfl
                     rotate_left
                     · simp only [Act.put, List.setIfInBounds_toArray, List.set_cons_zero, List.set_cons_succ, i64_w, i32_w]
                       rfl
                     refine pure_ (i := 12) (N := some 27) (v := ?_) (a' := ?_) #[true, true, true, true, true, true, true, true, true, true, true, true, true, false] rfl rfl (any_of HT_.out (by kernel_rfl)) (fun _ _ _ h => h) (Or.inl ⟨by rfl, ?_⟩) ?_ ?_
                     rotate_left
                     · intro w'
                       go_simp
                       with_reducible rfl
                     rotate_left
                     · simp only [Act.put, List.setIfInBounds_toArray, List.set_cons_zero, List.set_cons_succ, i64_w, i32_w]
                       rfl
                     refine pure_ (i := 13) (N := some 28) (v := ?_) (a' := ?_) #[true, true, true, true, true, true, true, true, true, true, true, true, true, true] rfl rfl (any_of HT_.out (by kernel_rfl)) (fun _ _ _ h => h) (Or.inl ⟨by rfl, ?_⟩) ?_ ?_
                     rotate_left
                     · intro w'
                       go_simp
                       with_reducible rfl
                     rotate_left
                     · simp only [Act.put, List.setIfInBounds_toArray, List.set_cons_zero, List.set_cons_succ, i64_w, i32_w]
                       rfl
                     refine done_ (done_of HT_.out (by kernel_rfl)) ?_
                     obtain ⟨Ao40, co40, eo40⟩ := Kd.R_slice HO_3.out
                     subst eo40
                     have p33 : 0 ≤ ((ji30) : Int) := of_decide_eq_true (by first | (with_reducible assumption) | assumption)
                     have q33 : ((ji30) : Int) < ((x3_1.length : Int) : Int) := of_decide_eq_true (by first | (with_reducible assumption) | assumption)
                     obtain ⟨go33, co33, eo33, gb33, gl33, cl33, HG33⟩ := Kd.R_form HO_3.out (by omega)
                     (first | cases eo33 | (injection eo33 with ea_ en_ ec_; (first | subst ea_ | (injection ea_ with ea_; subst ea_)); subst ec_; clear en_))
                     have GB33 := Aside0.mk gb33
                     have GG33 := Aside0.mk HG33
                     clear gb33 gl33 HG33
                     obtain ⟨ce33, hcl33, hM33, hcc33, hfr33⟩ := Kd.R_elem HO_3.out z46 ((ji30) : Int) p33 q33
                     obtain rfl := k46_openM hM33
                     have hx33_0 : w39.cell? ⟨go33, ((ji30) : Int).toNat * 3, none⟩ = some (.int .i64 ((rd_T46 x3_1 (ji30)).f0)) := hcc33 0 _ rfl
                     have hx33_1 : w39.cell? ⟨go33, ((ji30) : Int).toNat * 3 + 1, none⟩ = some (.int .i64 ((rd_T46 x3_1 (ji30)).f1)) := hcc33 1 _ rfl
                     have hx33_2 : w39.cell? ⟨go33, ((ji30) : Int).toNat * 3 + 2, none⟩ = some (.bool ((rd_T46 x3_1 (ji30)).f2)) := hcc33 2 _ rfl
                     have hf33_0 : w39.frozen? ⟨go33, ((ji30) : Int).toNat * 3, none⟩ = false := hfr33 0
                     have hf33_1 : w39.frozen? ⟨go33, ((ji30) : Int).toNat * 3 + 1, none⟩ = false := hfr33 1
                     have hf33_2 : w39.frozen? ⟨go33, ((ji30) : Int).toNat * 3 + 2, none⟩ = false := hfr33 2
                     clear hcl33 hcc33 hfr33 hM33
                     replace p33 := eq_true p33
                     replace q33 := eq_true q33
                     try go_wp2
                     have n0_ := Aside0.mk (Kd.R_drew HO_3.out)
                     have n1_ := Aside0.mk (blk_drew BK347.out)
                     have n2_ := Aside0.mk (blk_drew BK349.out)
                     have n3_ := Aside0.mk (below_drew1 HB.out)
                     clear HO_3
                     clear BK347
                     clear BK349
                     clear HB
                     have HO_3 := n0_
                     have BK347 := n1_
                     have BK349 := n2_
                     have HB := n3_
                     clear n0_ n1_ n2_ n3_
                     refine start_ (n := 11) (S := fun w' => w'.cell? ⟨gb349, 0, none⟩ = some (.int .i64 ((rd_T40 l0_2 x10_1).f0)) ∧ w'.cell? ⟨gb349, 1, none⟩ = some (.int .i64 ((rd_T40 l0_2 x10_1).f1)) ∧ w'.cell? ⟨gb349, 2, none⟩ = some (.int .i64 ((rd_T40 l0_2 x10_1).f2)) ∧ w'.cell? ⟨gb349, 3, none⟩ = some (.int .i64 ((rd_T40 l0_2 x10_1).f3)) ∧ w'.cell? ⟨gb349, 4, none⟩ = some (.int .i64 ((rd_T40 l0_2 x10_1).f4)) ∧ w'.cell? ⟨gb349, 5, none⟩ = some (.int .i64 ((rd_T40 l0_2 x10_1).f5)) ∧ w'.cell? ⟨gb349, 6, none⟩ = some (.int .i64 ((rd_T40 l0_2 x10_1).f6)) ∧ w'.cell? ⟨go33, ((ji30) : Int).toNat * 3, none⟩ = some (.int .i64 ((rd_T46 x3_1 (ji30)).f0))) (ds := [10]) #[false, false, false, false, false, false, false, false, false, false, false] (by kernel_rfl) rfl rfl ⟨(blk_cell BK349.out 0).trans rfl, (blk_cell BK349.out 1).trans rfl, (blk_cell BK349.out 2).trans rfl, (blk_cell BK349.out 3).trans rfl, (blk_cell BK349.out 4).trans rfl, (blk_cell BK349.out 5).trans rfl, (blk_cell BK349.out 6).trans rfl, (ses_row HO_3.out ((ji30) : Int) (of_eq_true p33) (of_eq_true q33)).1.1⟩ (fun hHeld => ?_); refine with_tabW toc_Sessions.tab8 toc_Sessions.bits8 (fun HT_ HW_ => ?_)
                     generalize w39.drew = w41 at HO_3 BK347 BK349 HB hHeld ⊢
                     refine pure_ (i := 0) (N := some 45) (v := ?_) (a' := ?_) #[true, false, false, false, false, false, false, false, false, false, false] rfl rfl (any_of HT_.out (by kernel_rfl)) (fun _ _ _ h => h) (Or.inl ⟨by rfl, ?_⟩) ?_ ?_
                     rotate_left
                     · intro w'
                       go_simp
                       with_reducible rfl
                     rotate_left
                     · simp only [Act.put, List.setIfInBounds_toArray, List.set_cons_zero, List.set_cons_succ, i64_w, i32_w]
                       rfl
                     refine pure_ (i := 3) (N := some 48) (v := ?_) (a' := ?_) #[true, false, false, true, false, false, false, false, false, false, false] rfl rfl (any_of HT_.out (by kernel_rfl)) (fun _ _ _ h => h) (Or.inl ⟨by rfl, ?_⟩) ?_ ?_
                     rotate_left
                     · intro w'
                       go_simp
                       with_reducible rfl
                     rotate_left
                     · simp only [Act.put, List.setIfInBounds_toArray, List.set_cons_zero, List.set_cons_succ, i64_w, i32_w]
                       rfl
                     refine pure_ (i := 4) (N := some 49) (v := ?_) (a' := ?_) #[true, false, false, true, true, false, false, false, false, false, false] rfl rfl (any_of HT_.out (by kernel_rfl)) (fun _ _ _ h => h) (Or.inl ⟨by rfl, ?_⟩) ?_ ?_
                     rotate_left
                     · intro w'
                       go_simp
                       with_reducible rfl
                     rotate_left
                     · simp only [Act.put, List.setIfInBounds_toArray, List.set_cons_zero, List.set_cons_succ, i64_w, i32_w]
                       rfl
                     refine pure_ (i := 5) (N := some 50) (v := ?_) (a' := ?_) #[true, false, false, true, true, true, false, false, false, false, false] rfl rfl (any_of HT_.out (by kernel_rfl)) (fun _ _ _ h => h) (Or.inl ⟨by rfl, ?_⟩) ?_ ?_
                     rotate_left
                     · intro w'
                       go_simp
                       with_reducible rfl
                     rotate_left
                     · simp only [Act.put, List.setIfInBounds_toArray, List.set_cons_zero, List.set_cons_succ, i64_w, i32_w]
                       rfl
                     refine take_ (i := 1) (N := some 46) (v := ?_) (a' := ?_) #[true, true, false, true, true, true, false, false, false, false, false] rfl rfl (take_ofW HT_.out HW_.out (by kernel_rfl)) (fun _ _ _ h => h) (Or.inl ⟨by rfl, ?_⟩) hHeld ?_ ?_
                     rotate_left
                     · rintro w' ⟨s0, s1, s2, s3, s4, s5, s6, s7⟩
                       go_simp
                       with_reducible rfl
                     rotate_left
                     · simp only [Act.put, List.setIfInBounds_toArray, List.set_cons_zero, List.set_cons_succ, i64_w, i32_w]
                       rfl
                     refine take_ (i := 6) (N := some 51) (v := ?_) (a' := ?_) #[true, true, false, true, true, true, true, false, false, false, false] rfl rfl (take_ofW HT_.out HW_.out (by kernel_rfl)) (fun _ _ _ h => h) (Or.inl ⟨by rfl, ?_⟩) hHeld ?_ ?_
                     rotate_left
                     · rintro w' ⟨s0, s1, s2, s3, s4, s5, s6, s7⟩
                       go_simp
                       with_reducible rfl
                     rotate_left
                     · simp only [Act.put, List.setIfInBounds_toArray, List.set_cons_zero, List.set_cons_succ, i64_w, i32_w]
                       rfl
                     refine one_ (i := 2) (N := some 47) #[true, true, true, true, true, true, true, false, false, false, false] rfl rfl (one_of HT_.out (by kernel_rfl)) (by decide) (fun K hK => ?_)
                     refine goes_ Try.func26 (by kernel_rfl) rfl #[.agg #[.int .i64 ((rd_T40 l0_2 x10_1).f0), .int .i64 ((rd_T40 l0_2 x10_1).f1), .int .i64 ((rd_T40 l0_2 x10_1).f2), .int .i64 ((rd_T40 l0_2 x10_1).f3), .int .i64 ((rd_T40 l0_2 x10_1).f4), .int .i64 ((rd_T40 l0_2 x10_1).f5), .int .i64 ((rd_T40 l0_2 x10_1).f6)]] (by rfl) rfl rfl (by (try simp only [List.map_toArray, List.map_cons, List.map_nil]); first | done | rfl | (simp only [List.length_drop, List.length_take]; rfl)) ?_
                     with_reducible refine (toc_end.calls ((rd_T40 l0_2 x10_1).f0) ((rd_T40 l0_2 x10_1).f1) ((rd_T40 l0_2 x10_1).f2) ((rd_T40 l0_2 x10_1).f3) ((rd_T40 l0_2 x10_1).f4) ((rd_T40 l0_2 x10_1).f5) ((rd_T40 l0_2 x10_1).f6) t356 _ A34.out).mono ?_
                     rintro e w42 ⟨rfl, hb⟩
                     refine ⟨_, rfl, ?_⟩
                     have n0_ := Aside0.mk (Kd.R_below (by (with_reducible repeat (first | apply Kd.R_alloc | apply Kd.R_drewN | apply Kd.R_drew)); exact HO_3.out) hb)
                     have n1_ := Aside0.mk (blk_below (g := gb347) (o := .cells #[.int .i64 a0_0, .bool a0_1, .slice (some ad348) l0_2.length c0_2] 24 (0, 0)) (by (with_reducible repeat (first | refine blk_drewN ?_ _ | refine blk_drew ?_ | refine blk_alloc ?_ _)); exact BK347.out) hb)
                     have n2_ := Aside0.mk (blk_below (g := gb349) (o := .cells #[.int .i64 ((rd_T40 l0_2 x10_1).f0), .int .i64 ((rd_T40 l0_2 x10_1).f1), .int .i64 ((rd_T40 l0_2 x10_1).f2), .int .i64 ((rd_T40 l0_2 x10_1).f3), .int .i64 ((rd_T40 l0_2 x10_1).f4), .int .i64 ((rd_T40 l0_2 x10_1).f5), .int .i64 ((rd_T40 l0_2 x10_1).f6)] 40 (0, 0)) (by (with_reducible repeat (first | refine blk_drewN ?_ _ | refine blk_drew ?_ | refine blk_alloc ?_ _)); exact BK349.out) hb)
                     have n3_ := Aside0.mk (below_step (by repeat (first | (with_reducible first | exact HB.out | apply below_alloc | apply pw_below_drewN | apply below_drew1 | refine below_set ?_ GE347.out | refine below_set ?_ GE349.out) | exact HB.out)) hb)
                     clear HO_3
                     clear BK347
                     clear BK349
                     clear HB
                     have HO_3 := n0_
                     have BK347 := n1_
                     have BK349 := n2_
                     have HB := n3_
                     clear n0_ n1_ n2_ n3_
                     (try clear hb)
                     (try clear hb2)
                     (try clear hk)
                     (try clear hi)
                     obtain ⟨ce43, hcl43, hM43, hcc43, hfr43⟩ := Kd.R_elem HO_3.out z46 ((ji30) : Int) (of_decide_eq_true (by first | (with_reducible assumption) | assumption)) (by have h_ : ((ji30) : Int) < ((x3_1.length : Int) : Int) := of_decide_eq_true (by first | (with_reducible assumption) | assumption); first | exact h_ | (have e_ := (Kd.R_reads' HO_3.out).1; omega) | simpa using h_)
                     obtain rfl := k46_openM hM43
                     have HP43 := (Kd.R_seg HO_3.out ((ji30) : Int) (of_decide_eq_true (by first | (with_reducible assumption) | assumption)) (by have h_ : ((ji30) : Int) < ((x3_1.length : Int) : Int) := of_decide_eq_true (by first | (with_reducible assumption) | assumption); first | exact h_ | (have e_ := (Kd.R_reads' HO_3.out).1; omega) | simpa using h_) (seg := [.int .i64 (wrap64 (t356 - ((rd_T46 x3_1 (ji30)).f0)))]) (j := 1) hcl43 hcc43 (show 2 ≤ 3 from by decide) (x' := (⟨(rd_T46 x3_1 (ji30)).f0, wrap64 (t356 - ((rd_T46 x3_1 (ji30)).f0)), (rd_T46 x3_1 (ji30)).f2⟩ : S46)) (k46_mkM _ _ _ (⟨(rd_T46 x3_1 (ji30)).f0, wrap64 (t356 - ((rd_T46 x3_1 (ji30)).f0)), (rd_T46 x3_1 (ji30)).f2⟩ : S46) ) (fun _ hk => hk)).1
                     rw [← Ny357.out] at HP43
                     have HQ43 := Aside0.mk HP43
                     clear hcl43 hcc43 hfr43 hM43 HP43
                     refine hK.out _ _ ⟨(blk_cell BK349.out 0).trans rfl, (blk_cell BK349.out 1).trans rfl, (blk_cell BK349.out 2).trans rfl, (blk_cell BK349.out 3).trans rfl, (blk_cell BK349.out 4).trans rfl, (blk_cell BK349.out 5).trans rfl, (blk_cell BK349.out 6).trans rfl, (ses_row HO_3.out ((ji30) : Int) (of_eq_true p33) (of_eq_true q33)).1.1⟩ (fun hHeld => ?_)
                     clear hK K
                     refine norm_ (a' := ?_) ?_ ?_
                     rotate_left
                     · show Act.put _ (some 47) _ = _
                       simp only [Act.put, List.setIfInBounds_toArray, List.set_cons_zero, List.set_cons_succ, i64_w, i32_w]
                       rfl
                     refine pure_ (i := 7) (N := some 52) (v := ?_) (a' := ?_) #[true, true, true, true, true, true, true, true, false, false, false] rfl rfl (any_of HT_.out (by kernel_rfl)) (fun _ _ _ h => h) (Or.inl ⟨by rfl, ?_⟩) ?_ ?_
                     rotate_left
                     · intro w'
                       go_simp
                       with_reducible rfl
                     rotate_left
                     · simp only [Act.put, List.setIfInBounds_toArray, List.set_cons_zero, List.set_cons_succ, i64_w, i32_w]
                       rfl
                     refine pure_ (i := 8) (N := some 53) (v := ?_) (a' := ?_) #[true, true, true, true, true, true, true, true, true, false, false] rfl rfl (any_of HT_.out (by kernel_rfl)) (fun _ _ _ h => h) (Or.inl ⟨by rfl, ?_⟩) ?_ ?_
                     rotate_left
                     · intro w'
                       go_simp
                       with_reducible rfl
                     rotate_left
                     · simp only [Act.put, List.setIfInBounds_toArray, List.set_cons_zero, List.set_cons_succ, i64_w, i32_w]
                       rfl
                     refine pure_ (i := 9) (N := some 54) (v := ?_) (a' := ?_) #[true, true, true, true, true, true, true, true, true, true, false] rfl rfl (any_of HT_.out (by kernel_rfl)) (fun _ _ _ h => h) (Or.inl ⟨by rfl, ?_⟩) ?_ ?_
                     rotate_left
                     · intro w'
                       go_simp
                       with_reducible rfl
                     rotate_left
                     · simp only [Act.put, List.setIfInBounds_toArray, List.set_cons_zero, List.set_cons_succ, i64_w, i32_w]
                       rfl
                     obtain ⟨⟨rz0, rz1, rz2⟩, zf0, zf1, zf2⟩ := ses_row HO_3.out ((ji30) : Int) (of_eq_true p33) (of_eq_true q33)
                     refine last_ (i := 10) (N := none) #[true, true, true, true, true, true, true, true, true, true, true] rfl rfl (one_of HT_.out (by kernel_rfl)) (by decide) (fun K hK => ?_)
                     refine skip_ (w1 := ?_) (by rfl) rfl ?_ ?_
                     rotate_left
                     · go_simp
                       rfl
                     refine hK.out _ _ ?_
                     clear hK K
                     refine done_ (done_of HT_.out (by kernel_rfl)) ?_
                     try go_wp2
                     go_roundg k1
                     case measure => have := HK1.out; omega
                     case rel => exact ⟨(y357), (wrap64 (x10_1 + 1)), (by first | rfl | (simp; done) | (simp [*]; done)), H', ⟨by have := HK1.out; omega⟩, ⟨by (with_reducible repeat (first | apply Kd.R_alloc | apply Kd.R_drewN | apply Kd.R_drew)); exact HQ43.out⟩, ⟨by (with_reducible repeat (first | refine blk_drewN ?_ _ | refine blk_drew ?_ | refine blk_alloc ?_ _)); refine blk_far ?_ (by have h_ := Kd.R_ne HO_3.out BK347.out (by decide); intro e_; exact h_ (by rw [e_]; rfl)) _; (with_reducible repeat (first | refine blk_drewN ?_ _ | refine blk_drew ?_ | refine blk_alloc ?_ _)); exact BK347.out⟩, ⟨by repeat (first | (with_reducible first | exact HB.out | apply below_alloc | apply pw_below_drewN | apply below_drew1 | refine below_set ?_ GB33.out | refine below_set ?_ GE347.out | refine below_set ?_ GE349.out) | exact HB.out)⟩⟩
                   · rw [if_neg c32] at H
                     exact absurd H (by simp)
                 · rw [if_neg c31] at H
                   exact absurd H (by simp)
               · rw [if_neg c29] at H
                 have c29b0 : (((rd_T40 l0_2 (ji26)).f1) == ((rd_T40 l0_2 x10_1).f1)) = false := beq_eq_false_iff_ne.mpr c29
                 have c29b1 : (((rd_T40 l0_2 (ji26)).f1) != ((rd_T40 l0_2 x10_1).f1)) = true := bne_iff_ne.mpr c29
                 by_cases c44 : x3_1.length < 5864062014805
                 · rw [if_pos c44] at H
                   have LMc44 := Aside0.mk c44
                   clear c44
                   obtain ⟨y358, hy358⟩ : ∃ y_ : List (S46), y_ = (x3_1 ++ [(⟨(rd_T40 l0_2 x10_1).f2, 0, decide (((rd_T40 l0_2 x10_1).f1) ≤ a0_0)⟩ : S46)]) := ⟨_, rfl⟩
                   replace H : (if 0 ≤ (wrap64 ((y358.length : Int) - 1)) then (if (wrap64 ((y358.length : Int) - 1)) < (y358.length : Int) then ((toc_end.f ((rd_T40 l0_2 x10_1).f0) ((rd_T40 l0_2 x10_1).f1) ((rd_T40 l0_2 x10_1).f2) ((rd_T40 l0_2 x10_1).f3) ((rd_T40 l0_2 x10_1).f4) ((rd_T40 l0_2 x10_1).f5) ((rd_T40 l0_2 x10_1).f6)).bind fun t361 => (toc_Sessions.l0 k1 (y358.set ((wrap64 ((y358.length : Int) - 1)) : Int).toNat (⟨(rd_T46 y358 (wrap64 ((y358.length : Int) - 1))).f0, wrap64 (t361 - ((rd_T46 y358 (wrap64 ((y358.length : Int) - 1))).f0)), (rd_T46 y358 (wrap64 ((y358.length : Int) - 1))).f2⟩ : S46)) l0_2 (l0_2.length : Int) (wrap64 (x10_1 + 1)) a0_0 a0_1 l0_2)) else (none)) else (none)) = some r := by first | (rw [hy358]; with_reducible exact H) | (have H2_ := (Option.bind_some _ _).symm.trans H; rw [hy358]; with_reducible exact H2_) | (have H2_ := (Option.bind_some _ _).symm.trans H; with_reducible exact H2_) | with_reducible exact H | (rw [hy358]; exact H) | exact H
                   have Ny358 := Aside0.mk hy358
                   clear hy358
                   obtain ⟨ji45, hji45⟩ : ∃ j_ : Int, (wrap64 ((y358.length : Int) - 1)) = j_ := ⟨_, rfl⟩
                   replace H : (if 0 ≤ (ji45) then (if (ji45) < (y358.length : Int) then ((toc_end.f ((rd_T40 l0_2 x10_1).f0) ((rd_T40 l0_2 x10_1).f1) ((rd_T40 l0_2 x10_1).f2) ((rd_T40 l0_2 x10_1).f3) ((rd_T40 l0_2 x10_1).f4) ((rd_T40 l0_2 x10_1).f5) ((rd_T40 l0_2 x10_1).f6)).bind fun t361 => (toc_Sessions.l0 k1 (y358.set ((ji45) : Int).toNat (⟨(rd_T46 y358 (ji45)).f0, wrap64 (t361 - ((rd_T46 y358 (ji45)).f0)), (rd_T46 y358 (ji45)).f2⟩ : S46)) l0_2 (l0_2.length : Int) (wrap64 (x10_1 + 1)) a0_0 a0_1 l0_2)) else (none)) else (none)) = some r := by first | (rw [hji45] at H; exact H) | (simp only [hji45] at H ⊢; exact H)
                   have hji45w : (IntKind.i64.wrap ((y358.length : Int) - 1)) = ji45 := (i64_w _).trans hji45
                   by_cases c46 : 0 ≤ (ji45)
                   · rw [if_pos c46] at H
                     have c46b0 : decide (0 ≤ (ji45)) = true := decide_eq_true c46
                     clear c46
                     by_cases c47 : (ji45) < (y358.length : Int)
                     · rw [if_pos c47] at H
                       have c47b0 : decide ((ji45) < (y358.length : Int)) = true := decide_eq_true c47
                       clear c47
                       replace H := Option.bind_eq_some_iff.mp H
                       obtain ⟨t361, A490, H⟩ := H
                       replace H : (toc_Sessions.l0 k1 (y358.set ((ji45) : Int).toNat (⟨(rd_T46 y358 (ji45)).f0, wrap64 (t361 - ((rd_T46 y358 (ji45)).f0)), (rd_T46 y358 (ji45)).f2⟩ : S46)) l0_2 (l0_2.length : Int) (wrap64 (x10_1 + 1)) a0_0 a0_1 l0_2) = some r := H
                       have A49 := Aside0.mk A490
                       clear A490
                       obtain ⟨y362, hy362⟩ : ∃ y_ : List (S46), y_ = (y358.set ((ji45) : Int).toNat (⟨(rd_T46 y358 (ji45)).f0, wrap64 (t361 - ((rd_T46 y358 (ji45)).f0)), (rd_T46 y358 (ji45)).f2⟩ : S46)) := ⟨_, rfl⟩
                       replace H : (toc_Sessions.l0 k1 y362 l0_2 (l0_2.length : Int) (wrap64 (x10_1 + 1)) a0_0 a0_1 l0_2) = some r := by first | (rw [hy362]; with_reducible exact H) | (have H2_ := (Option.bind_some _ _).symm.trans H; rw [hy362]; with_reducible exact H2_) | (have H2_ := (Option.bind_some _ _).symm.trans H; with_reducible exact H2_) | with_reducible exact H | (rw [hy362]; exact H) | exact H
                       have Ny362 := Aside0.mk hy362
                       clear hy362
                       have H' := Aside0.mk H
                       clear H
                       have p348 : 0 ≤ (x10_1 : Int) := of_decide_eq_true (by first | (with_reducible assumption) | assumption)
                       have q348 : x10_1 < (l0_2.length : Int) := of_decide_eq_true (by first | (with_reducible assumption) | assumption)
                       obtain ⟨ad348, e348, hx348_0, hx348_1, hx348_2, hx348_3, hx348_4, hx348_5, hx348_6⟩ := at_T40 HR0_2.out x10_1 p348 q348
                       cases e348
                       replace hx348_0 := upc HB.out hx348_0
                       replace hx348_1 := upc HB.out hx348_1
                       replace hx348_2 := upc HB.out hx348_2
                       replace hx348_3 := upc HB.out hx348_3
                       replace hx348_4 := upc HB.out hx348_4
                       replace hx348_5 := upc HB.out hx348_5
                       replace hx348_6 := upc HB.out hx348_6
                       replace p348 := eq_true p348
                       replace q348 := eq_true q348
                       try go_wp2_with (first | ((with_reducible refine gate_dst (N := 5) rfl ?_); refine box_event ?hg (N := 5) ?hd (cs := #[.int .i64 0, .int .i64 0, .int .i64 0, .int .i64 0, .int .i64 0, .int .i64 0, .int .i64 0]) (t := 40) ?hr ?_; (case hd => rfl); (case hg => rfl); (case hr => first | (go_simp; done) | (go_simp; rfl)); intro gb349 hg w50 hbox hb; have n0_ := Aside0.mk (Kd.R_below (by (with_reducible repeat (first | apply Kd.R_alloc | apply Kd.R_drewN | apply Kd.R_drew)); exact HO_3.out) hb); have n1_ := Aside0.mk (blk_below (g := gb347) (o := .cells #[.int .i64 a0_0, .bool a0_1, .slice (some ad348) l0_2.length c0_2] 24 (0, 0)) (by (with_reducible repeat (first | refine blk_drewN ?_ _ | refine blk_drew ?_ | refine blk_alloc ?_ _)); exact BK347.out) hb); have n2_ := Aside0.mk (below_step (by repeat (first | (with_reducible first | exact HB.out | apply below_alloc | apply pw_below_drewN | apply below_drew1 | refine below_set ?_ GE347.out) | exact HB.out)) hb); have n3_ := Aside0.mk (hbox); have n4_ := Aside0.mk ((by rw [hg]; exact (below_size (by repeat (first | (with_reducible first | exact HB.out | apply below_alloc | apply pw_below_drewN | apply below_drew1 | refine below_set ?_ GE347.out) | exact HB.out))) : w.heap.size ≤ gb349)); have n5_ := Aside0.mk ((by rw [hg]; exact (below_size (by repeat (first | (with_reducible first | exact HB.out | apply below_alloc | apply pw_below_drewN | apply below_drew1 | refine below_set ?_ GE347.out) | exact HB.out))) : w.heap.size ≤ gb349)); have n6_ := Aside0.mk ((by rw [hg]; exact Nat.ne_of_lt (blk_lt (g := gb347) (o := .cells #[.int .i64 a0_0, .bool a0_1, .slice (some ad348) l0_2.length c0_2] 24 (0, 0)) (by (with_reducible repeat (first | refine blk_drewN ?_ _ | refine blk_drew ?_ | refine blk_alloc ?_ _)); exact BK347.out)) : gb347 ≠ gb349)); have n7_ := Aside0.mk ((by rw [hg]; exact Nat.ne_of_gt (blk_lt (g := gb347) (o := .cells #[.int .i64 a0_0, .bool a0_1, .slice (some ad348) l0_2.length c0_2] 24 (0, 0)) (by (with_reducible repeat (first | refine blk_drewN ?_ _ | refine blk_drew ?_ | refine blk_alloc ?_ _)); exact BK347.out)) : gb349 ≠ gb347)); clear HO_3; clear BK347; clear HB; have HO_3 := n0_; have BK347 := n1_; have HB := n2_; have BK349 := n3_; have GW349 := n4_; have GE349 := n5_; have NB347_349 := n6_; have NB349_347 := n7_; clear n0_ n1_ n2_ n3_ n4_ n5_ n6_ n7_; clear hb hbox hg; have hnb51 := NB349_347.out; have hnc51 := NB347_349.out; obtain ⟨hcz52_0, hcz52_1, hcz52_2, hcz52_3, hcz52_4, hcz52_5, hcz52_6⟩ := cel7 BK349.out; obtain ⟨hfz52_0, hfz52_1, hfz52_2, hfz52_3, hfz52_4, hfz52_5, hfz52_6⟩ := frz7 BK349.out))
                       have n0_ : Aside0 (Kd.R k46 46 (((((((w50.setCell ⟨gb349, 0, none⟩ (.int .i64 ((rd_T40 l0_2 x10_1).f0))).setCell ⟨gb349, 1, none⟩ (.int .i64 ((rd_T40 l0_2 x10_1).f1))).setCell ⟨gb349, 2, none⟩ (.int .i64 ((rd_T40 l0_2 x10_1).f2))).setCell ⟨gb349, 3, none⟩ (.int .i64 ((rd_T40 l0_2 x10_1).f3))).setCell ⟨gb349, 4, none⟩ (.int .i64 ((rd_T40 l0_2 x10_1).f4))).setCell ⟨gb349, 5, none⟩ (.int .i64 ((rd_T40 l0_2 x10_1).f5))).setCell ⟨gb349, 6, none⟩ (.int .i64 ((rd_T40 l0_2 x10_1).f6))) w.heap.size (fun _ => True) u3 x3_1) := ⟨by (with_reducible repeat (first | apply Kd.R_alloc | apply Kd.R_drewN | apply Kd.R_drew)); exact Kd.R_mono (Kd.R_far (p := ⟨gb349, 6, none⟩) (Kd.R_far (p := ⟨gb349, 5, none⟩) (Kd.R_far (p := ⟨gb349, 4, none⟩) (Kd.R_far (p := ⟨gb349, 3, none⟩) (Kd.R_far (p := ⟨gb349, 2, none⟩) (Kd.R_far (p := ⟨gb349, 1, none⟩) (Kd.R_far (p := ⟨gb349, 0, none⟩) (Kd.R_types HO_3.out BK349.out (by decide)) (fun _ hk => hk.2) (.int .i64 ((rd_T40 l0_2 x10_1).f0))) (fun _ hk => hk.2) (.int .i64 ((rd_T40 l0_2 x10_1).f1))) (fun _ hk => hk.2) (.int .i64 ((rd_T40 l0_2 x10_1).f2))) (fun _ hk => hk.2) (.int .i64 ((rd_T40 l0_2 x10_1).f3))) (fun _ hk => hk.2) (.int .i64 ((rd_T40 l0_2 x10_1).f4))) (fun _ hk => hk.2) (.int .i64 ((rd_T40 l0_2 x10_1).f5))) (fun _ hk => hk.2) (.int .i64 ((rd_T40 l0_2 x10_1).f6))) (fun _ hk => trivial)⟩
                       have n1_ : Aside0 ((((((((w50.setCell ⟨gb349, 0, none⟩ (.int .i64 ((rd_T40 l0_2 x10_1).f0))).setCell ⟨gb349, 1, none⟩ (.int .i64 ((rd_T40 l0_2 x10_1).f1))).setCell ⟨gb349, 2, none⟩ (.int .i64 ((rd_T40 l0_2 x10_1).f2))).setCell ⟨gb349, 3, none⟩ (.int .i64 ((rd_T40 l0_2 x10_1).f3))).setCell ⟨gb349, 4, none⟩ (.int .i64 ((rd_T40 l0_2 x10_1).f4))).setCell ⟨gb349, 5, none⟩ (.int .i64 ((rd_T40 l0_2 x10_1).f5))).setCell ⟨gb349, 6, none⟩ (.int .i64 ((rd_T40 l0_2 x10_1).f6))).heap[gb347]? = some (.cells #[.int .i64 a0_0, .bool a0_1, .slice (some ad348) l0_2.length c0_2] 24 (0, 0))) := ⟨by (with_reducible repeat (first | refine blk_drewN ?_ _ | refine blk_drew ?_ | refine blk_alloc ?_ _)); refine blk_far ?_ NB347_349.out _; (with_reducible repeat (first | refine blk_drewN ?_ _ | refine blk_drew ?_ | refine blk_alloc ?_ _)); refine blk_far ?_ NB347_349.out _; (with_reducible repeat (first | refine blk_drewN ?_ _ | refine blk_drew ?_ | refine blk_alloc ?_ _)); refine blk_far ?_ NB347_349.out _; (with_reducible repeat (first | refine blk_drewN ?_ _ | refine blk_drew ?_ | refine blk_alloc ?_ _)); refine blk_far ?_ NB347_349.out _; (with_reducible repeat (first | refine blk_drewN ?_ _ | refine blk_drew ?_ | refine blk_alloc ?_ _)); refine blk_far ?_ NB347_349.out _; (with_reducible repeat (first | refine blk_drewN ?_ _ | refine blk_drew ?_ | refine blk_alloc ?_ _)); refine blk_far ?_ NB347_349.out _; (with_reducible repeat (first | refine blk_drewN ?_ _ | refine blk_drew ?_ | refine blk_alloc ?_ _)); refine blk_far ?_ NB347_349.out _; (with_reducible repeat (first | refine blk_drewN ?_ _ | refine blk_drew ?_ | refine blk_alloc ?_ _)); exact BK347.out⟩
                       have n2_ : Aside0 ((((((((w50.setCell ⟨gb349, 0, none⟩ (.int .i64 ((rd_T40 l0_2 x10_1).f0))).setCell ⟨gb349, 1, none⟩ (.int .i64 ((rd_T40 l0_2 x10_1).f1))).setCell ⟨gb349, 2, none⟩ (.int .i64 ((rd_T40 l0_2 x10_1).f2))).setCell ⟨gb349, 3, none⟩ (.int .i64 ((rd_T40 l0_2 x10_1).f3))).setCell ⟨gb349, 4, none⟩ (.int .i64 ((rd_T40 l0_2 x10_1).f4))).setCell ⟨gb349, 5, none⟩ (.int .i64 ((rd_T40 l0_2 x10_1).f5))).setCell ⟨gb349, 6, none⟩ (.int .i64 ((rd_T40 l0_2 x10_1).f6))).heap[gb349]? = some (.cells #[.int .i64 ((rd_T40 l0_2 x10_1).f0), .int .i64 ((rd_T40 l0_2 x10_1).f1), .int .i64 ((rd_T40 l0_2 x10_1).f2), .int .i64 ((rd_T40 l0_2 x10_1).f3), .int .i64 ((rd_T40 l0_2 x10_1).f4), .int .i64 ((rd_T40 l0_2 x10_1).f5), .int .i64 ((rd_T40 l0_2 x10_1).f6)] 40 (0, 0))) := ⟨by (with_reducible repeat (first | refine blk_drewN ?_ _ | refine blk_drew ?_ | refine blk_alloc ?_ _)); refine blk_put (cs := #[.int .i64 ((rd_T40 l0_2 x10_1).f0), .int .i64 ((rd_T40 l0_2 x10_1).f1), .int .i64 ((rd_T40 l0_2 x10_1).f2), .int .i64 ((rd_T40 l0_2 x10_1).f3), .int .i64 ((rd_T40 l0_2 x10_1).f4), .int .i64 ((rd_T40 l0_2 x10_1).f5), .int .i64 0]) ?_ 6 _ rfl; (with_reducible repeat (first | refine blk_drewN ?_ _ | refine blk_drew ?_ | refine blk_alloc ?_ _)); refine blk_put (cs := #[.int .i64 ((rd_T40 l0_2 x10_1).f0), .int .i64 ((rd_T40 l0_2 x10_1).f1), .int .i64 ((rd_T40 l0_2 x10_1).f2), .int .i64 ((rd_T40 l0_2 x10_1).f3), .int .i64 ((rd_T40 l0_2 x10_1).f4), .int .i64 0, .int .i64 0]) ?_ 5 _ rfl; (with_reducible repeat (first | refine blk_drewN ?_ _ | refine blk_drew ?_ | refine blk_alloc ?_ _)); refine blk_put (cs := #[.int .i64 ((rd_T40 l0_2 x10_1).f0), .int .i64 ((rd_T40 l0_2 x10_1).f1), .int .i64 ((rd_T40 l0_2 x10_1).f2), .int .i64 ((rd_T40 l0_2 x10_1).f3), .int .i64 0, .int .i64 0, .int .i64 0]) ?_ 4 _ rfl; (with_reducible repeat (first | refine blk_drewN ?_ _ | refine blk_drew ?_ | refine blk_alloc ?_ _)); refine blk_put (cs := #[.int .i64 ((rd_T40 l0_2 x10_1).f0), .int .i64 ((rd_T40 l0_2 x10_1).f1), .int .i64 ((rd_T40 l0_2 x10_1).f2), .int .i64 0, .int .i64 0, .int .i64 0, .int .i64 0]) ?_ 3 _ rfl; (with_reducible repeat (first | refine blk_drewN ?_ _ | refine blk_drew ?_ | refine blk_alloc ?_ _)); refine blk_put (cs := #[.int .i64 ((rd_T40 l0_2 x10_1).f0), .int .i64 ((rd_T40 l0_2 x10_1).f1), .int .i64 0, .int .i64 0, .int .i64 0, .int .i64 0, .int .i64 0]) ?_ 2 _ rfl; (with_reducible repeat (first | refine blk_drewN ?_ _ | refine blk_drew ?_ | refine blk_alloc ?_ _)); refine blk_put (cs := #[.int .i64 ((rd_T40 l0_2 x10_1).f0), .int .i64 0, .int .i64 0, .int .i64 0, .int .i64 0, .int .i64 0, .int .i64 0]) ?_ 1 _ rfl; (with_reducible repeat (first | refine blk_drewN ?_ _ | refine blk_drew ?_ | refine blk_alloc ?_ _)); refine blk_put (cs := #[.int .i64 0, .int .i64 0, .int .i64 0, .int .i64 0, .int .i64 0, .int .i64 0, .int .i64 0]) ?_ 0 _ rfl; (with_reducible repeat (first | refine blk_drewN ?_ _ | refine blk_drew ?_ | refine blk_alloc ?_ _)); exact BK349.out⟩
                       have n3_ : Aside0 (Below w.heap.size w (((((((w50.setCell ⟨gb349, 0, none⟩ (.int .i64 ((rd_T40 l0_2 x10_1).f0))).setCell ⟨gb349, 1, none⟩ (.int .i64 ((rd_T40 l0_2 x10_1).f1))).setCell ⟨gb349, 2, none⟩ (.int .i64 ((rd_T40 l0_2 x10_1).f2))).setCell ⟨gb349, 3, none⟩ (.int .i64 ((rd_T40 l0_2 x10_1).f3))).setCell ⟨gb349, 4, none⟩ (.int .i64 ((rd_T40 l0_2 x10_1).f4))).setCell ⟨gb349, 5, none⟩ (.int .i64 ((rd_T40 l0_2 x10_1).f5))).setCell ⟨gb349, 6, none⟩ (.int .i64 ((rd_T40 l0_2 x10_1).f6)))) := ⟨by repeat (first | (with_reducible first | exact HB.out | apply below_alloc | apply pw_below_drewN | apply below_drew1 | refine below_set ?_ GE347.out | refine below_set ?_ GE349.out) | exact HB.out)⟩
                       (try clear HO_3)
                       (try clear BK347)
                       (try clear BK349)
                       (try clear HB)
                       generalize (((((((w50.setCell ⟨gb349, 0, none⟩ (.int .i64 ((rd_T40 l0_2 x10_1).f0))).setCell ⟨gb349, 1, none⟩ (.int .i64 ((rd_T40 l0_2 x10_1).f1))).setCell ⟨gb349, 2, none⟩ (.int .i64 ((rd_T40 l0_2 x10_1).f2))).setCell ⟨gb349, 3, none⟩ (.int .i64 ((rd_T40 l0_2 x10_1).f3))).setCell ⟨gb349, 4, none⟩ (.int .i64 ((rd_T40 l0_2 x10_1).f4))).setCell ⟨gb349, 5, none⟩ (.int .i64 ((rd_T40 l0_2 x10_1).f5))).setCell ⟨gb349, 6, none⟩ (.int .i64 ((rd_T40 l0_2 x10_1).f6))) = w53 at n0_ n1_ n2_ n3_ ⊢
                       have HO_3 := n0_
                       have BK347 := n1_
                       have BK349 := n2_
                       have HB := n3_
                       clear n0_ n1_ n2_ n3_
                       have n0_ := Aside0.mk (Kd.R_drew HO_3.out)
                       have n1_ := Aside0.mk (blk_drew BK347.out)
                       have n2_ := Aside0.mk (blk_drew BK349.out)
                       have n3_ := Aside0.mk (below_drew1 HB.out)
                       clear HO_3
                       clear BK347
                       clear BK349
                       clear HB
                       have HO_3 := n0_
                       have BK347 := n1_
                       have BK349 := n2_
                       have HB := n3_
                       clear n0_ n1_ n2_ n3_
                       have p355 : 0 ≤ ((ji26) : Int) := of_decide_eq_true (by first | (with_reducible assumption) | assumption)
                       have q355 : (ji26) < (l0_2.length : Int) := of_decide_eq_true (by first | (with_reducible assumption) | assumption)
                       obtain ⟨ad355, e355, hx355_0, hx355_1, hx355_2, hx355_3, hx355_4, hx355_5, hx355_6⟩ := at_T40 HR0_2.out (ji26) p355 q355
                       have hw355_6 := hx355_6
                       have hw355_5 := hx355_5
                       have hw355_4 := hx355_4
                       have hw355_3 := hx355_3
                       have hw355_2 := hx355_2
                       have hw355_1 := hx355_1
                       have hw355_0 := hx355_0
                       obtain rfl : ad348 = ad355 := (by injection e355)
                       replace hx355_0 := upc HB.out hx355_0
                       replace hx355_1 := upc HB.out hx355_1
                       replace hx355_2 := upc HB.out hx355_2
                       replace hx355_3 := upc HB.out hx355_3
                       replace hx355_4 := upc HB.out hx355_4
                       replace hx355_5 := upc HB.out hx355_5
                       replace hx355_6 := upc HB.out hx355_6
                       replace p355 := eq_true p355
                       replace q355 := eq_true q355
                       refine start_ (n := 14) (S := fun w' => w'.cell? ⟨gb347, 0, none⟩ = some (.int .i64 a0_0) ∧ w'.cell? ⟨gb347, 1, none⟩ = some (.bool a0_1) ∧ w'.cell? ⟨gb347, 2, none⟩ = some (.slice (some ad348) l0_2.length c0_2) ∧ w'.cell? ⟨gb349, 0, none⟩ = some (.int .i64 ((rd_T40 l0_2 x10_1).f0)) ∧ w'.cell? ⟨gb349, 1, none⟩ = some (.int .i64 ((rd_T40 l0_2 x10_1).f1)) ∧ w'.cell? ⟨gb349, 2, none⟩ = some (.int .i64 ((rd_T40 l0_2 x10_1).f2)) ∧ w'.cell? ⟨gb349, 3, none⟩ = some (.int .i64 ((rd_T40 l0_2 x10_1).f3)) ∧ w'.cell? ⟨gb349, 4, none⟩ = some (.int .i64 ((rd_T40 l0_2 x10_1).f4)) ∧ w'.cell? ⟨gb349, 5, none⟩ = some (.int .i64 ((rd_T40 l0_2 x10_1).f5)) ∧ w'.cell? ⟨gb349, 6, none⟩ = some (.int .i64 ((rd_T40 l0_2 x10_1).f6)) ∧ w'.cell? (ad348.add (((ji26)).toNat * 7)) = some (.int .i64 ((rd_T40 l0_2 (ji26)).f0)) ∧ w'.cell? ⟨(ad348.add (((ji26)).toNat * 7)).block, (ad348.add (((ji26)).toNat * 7)).off + 1, none⟩ = some (.int .i64 ((rd_T40 l0_2 (ji26)).f1)) ∧ w'.cell? ⟨(ad348.add (((ji26)).toNat * 7)).block, (ad348.add (((ji26)).toNat * 7)).off + 2, none⟩ = some (.int .i64 ((rd_T40 l0_2 (ji26)).f2)) ∧ w'.cell? ⟨(ad348.add (((ji26)).toNat * 7)).block, (ad348.add (((ji26)).toNat * 7)).off + 3, none⟩ = some (.int .i64 ((rd_T40 l0_2 (ji26)).f3)) ∧ w'.cell? ⟨(ad348.add (((ji26)).toNat * 7)).block, (ad348.add (((ji26)).toNat * 7)).off + 4, none⟩ = some (.int .i64 ((rd_T40 l0_2 (ji26)).f4)) ∧ w'.cell? ⟨(ad348.add (((ji26)).toNat * 7)).block, (ad348.add (((ji26)).toNat * 7)).off + 5, none⟩ = some (.int .i64 ((rd_T40 l0_2 (ji26)).f5)) ∧ w'.cell? ⟨(ad348.add (((ji26)).toNat * 7)).block, (ad348.add (((ji26)).toNat * 7)).off + 6, none⟩ = some (.int .i64 ((rd_T40 l0_2 (ji26)).f6))) (ds := []) #[false, false, false, false, false, false, false, false, false, false, false, false, false, false] (by kernel_rfl) rfl rfl ⟨(blk_cell BK347.out 0).trans rfl, (blk_cell BK347.out 1).trans rfl, (blk_cell BK347.out 2).trans rfl, (blk_cell BK349.out 0).trans rfl, (blk_cell BK349.out 1).trans rfl, (blk_cell BK349.out 2).trans rfl, (blk_cell BK349.out 3).trans rfl, (blk_cell BK349.out 4).trans rfl, (blk_cell BK349.out 5).trans rfl, (blk_cell BK349.out 6).trans rfl, ((HB.out.cell (World.block_lt_of_cell? w _ hw355_0)).trans hw355_0), ((HB.out.cell (World.block_lt_of_cell? w _ hw355_1)).trans hw355_1), ((HB.out.cell (World.block_lt_of_cell? w _ hw355_2)).trans hw355_2), ((HB.out.cell (World.block_lt_of_cell? w _ hw355_3)).trans hw355_3), ((HB.out.cell (World.block_lt_of_cell? w _ hw355_4)).trans hw355_4), ((HB.out.cell (World.block_lt_of_cell? w _ hw355_5)).trans hw355_5), ((HB.out.cell (World.block_lt_of_cell? w _ hw355_6)).trans hw355_6)⟩ (fun hHeld => ?_); refine with_tabW toc_Sessions.tab5 toc_Sessions.bits5 (fun HT_ HW_ => ?_)
                       generalize w53.drew = w54 at HO_3 BK347 BK349 HB hx355_0 hx355_1 hx355_2 hx355_3 hx355_4 hx355_5 hx355_6 hHeld ⊢
                       refine pure_ (i := 0) (N := some 15) (v := ?_) (a' := ?_) #[true, false, false, false, false, false, false, false, false, false, false, false, false, false] rfl rfl (any_of HT_.out (by kernel_rfl)) (fun _ _ _ h => h) (Or.inl ⟨by rfl, ?_⟩) ?_ ?_
                       rotate_left
                       · intro w'
                         go_simp
                         with_reducible rfl
                       rotate_left
                       · simp only [Act.put, List.setIfInBounds_toArray, List.set_cons_zero, List.set_cons_succ, i64_w, i32_w]
                         rfl
                       refine pure_ (i := 1) (N := some 16) (v := ?_) (a' := ?_) #[true, true, false, false, false, false, false, false, false, false, false, false, false, false] rfl rfl (any_of HT_.out (by kernel_rfl)) (fun _ _ _ h => h) (Or.inl ⟨by rfl, ?_⟩) ?_ ?_
                       rotate_left
                       · intro w'
                         go_simp
                         with_reducible rfl
                       rotate_left
                       · simp only [Act.put, List.setIfInBounds_toArray, List.set_cons_zero, List.set_cons_succ, i64_w, i32_w]
                         rfl
                       refine pure_ (i := 2) (N := some 17) (v := ?_) (a' := ?_) #[true, true, true, false, false, false, false, false, false, false, false, false, false, false] rfl rfl (any_of HT_.out (by kernel_rfl)) (fun _ _ _ h => h) (Or.inl ⟨by rfl, ?_⟩) ?_ ?_
                       rotate_left
                       · intro w'
                         go_simp
                         with_reducible rfl
                       rotate_left
                       · simp only [Act.put, List.setIfInBounds_toArray, List.set_cons_zero, List.set_cons_succ, i64_w, i32_w]
                         rfl
                       refine pure_ (i := 3) (N := some 18) (v := ?_) (a' := ?_) #[true, true, true, true, false, false, false, false, false, false, false, false, false, false] rfl rfl (any_of HT_.out (by kernel_rfl)) (fun _ _ _ h => h) (Or.inl ⟨by rfl, ?_⟩) ?_ ?_
                       rotate_left
                       · intro w'
                         go_simp
                         with_reducible rfl
                       rotate_left
                       · simp only [Act.put, List.setIfInBounds_toArray, List.set_cons_zero, List.set_cons_succ, i64_w, i32_w]
                         rfl
                       refine pure_ (i := 5) (N := some 20) (v := ?_) (a' := ?_) #[true, true, true, true, false, true, false, false, false, false, false, false, false, false] rfl rfl (any_of HT_.out (by kernel_rfl)) (fun _ _ _ h => h) (Or.inl ⟨by rfl, ?_⟩) ?_ ?_
                       rotate_left
                       · intro w'
                         go_simp
                         with_reducible rfl
                       rotate_left
                       · simp only [Act.put, List.setIfInBounds_toArray, List.set_cons_zero, List.set_cons_succ, i64_w, i32_w]
                         rfl
                       refine pure_ (i := 6) (N := some 21) (v := ?_) (a' := ?_) #[true, true, true, true, false, true, true, false, false, false, false, false, false, false] rfl rfl (any_of HT_.out (by kernel_rfl)) (fun _ _ _ h => h) (Or.inl ⟨by rfl, ?_⟩) ?_ ?_
                       rotate_left
                       · intro w'
                         go_simp
                         with_reducible rfl
                       rotate_left
                       · simp only [Act.put, List.setIfInBounds_toArray, List.set_cons_zero, List.set_cons_succ, i64_w, i32_w]
                         rfl
                       refine pure_ (i := 10) (N := some 25) (v := ?_) (a' := ?_) #[true, true, true, true, false, true, true, false, false, false, true, false, false, false] rfl rfl (any_of HT_.out (by kernel_rfl)) (fun _ _ _ h => h) (Or.inl ⟨by rfl, ?_⟩) ?_ ?_
                       rotate_left
                       · intro w'
                         go_simp
                         with_reducible rfl
                       rotate_left
                       · simp only [Act.put, List.setIfInBounds_toArray, List.set_cons_zero, List.set_cons_succ, i64_w, i32_w]
                         rfl
                       refine take_ (i := 4) (N := some 19) (v := ?_) (a' := ?_) #[true, true, true, true, true, true, true, false, false, false, true, false, false, false] rfl rfl (take_ofW HT_.out HW_.out (by kernel_rfl)) (fun _ _ _ h => h) (Or.inl ⟨by rfl, ?_⟩) hHeld ?_ ?_
                       rotate_left
                       · rintro w' ⟨s0, s1, s2, s3, s4, s5, s6, s7, s8, s9, s10, s11, s12, s13, s14, s15, s16⟩
                         go_simp
                         with_reducible rfl
                       rotate_left
                       · simp only [Act.put, List.setIfInBounds_toArray, List.set_cons_zero, List.set_cons_succ, i64_w, i32_w]
                         rfl
                       refine pure_ (i := 7) (N := some 22) (v := ?_) (a' := ?_) #[true, true, true, true, true, true, true, true, false, false, true, false, false, false] rfl rfl (any_of HT_.out (by kernel_rfl)) (fun _ _ _ h => h) (Or.inl ⟨by rfl, ?_⟩) ?_ ?_
                       rotate_left
                       · intro w'
                         go_simp
                         with_reducible rfl
                       rotate_left
                       · simp only [Act.put, List.setIfInBounds_toArray, List.set_cons_zero, List.set_cons_succ, i64_w, i32_w]
                         rfl
                       refine pure_ (i := 8) (N := some 23) (v := ?_) (a' := ?_) #[true, true, true, true, true, true, true, true, true, false, true, false, false, false] rfl rfl (any_of HT_.out (by kernel_rfl)) (fun _ _ _ h => h) (Or.inl ⟨by rfl, ?_⟩) ?_ ?_
                       rotate_left
                       · intro w'
                         go_simp
                         with_reducible rfl
                       rotate_left
                       · simp only [Act.put, List.setIfInBounds_toArray, List.set_cons_zero, List.set_cons_succ, i64_w, i32_w]
                         rfl
                       refine take_ (i := 9) (N := some 24) (v := ?_) (a' := ?_) #[true, true, true, true, true, true, true, true, true, true, true, false, false, false] rfl rfl (take_ofW HT_.out HW_.out (by kernel_rfl)) (fun _ _ _ h => h) (Or.inl ⟨by rfl, ?_⟩) hHeld ?_ ?_
                       rotate_left
                       · rintro w' ⟨s0, s1, s2, s3, s4, s5, s6, s7, s8, s9, s10, s11, s12, s13, s14, s15, s16⟩
                         go_simp
                         with_reducible rfl
                       rotate_left
                       · simp only [Act.put, List.setIfInBounds_toArray, List.set_cons_zero, List.set_cons_succ, i64_w, i32_w]
                         rfl
                       refine take_ (i := 11) (N := some 26) (v := ?_) (a' := ?_) #[true, true, true, true, true, true, true, true, true, true, true, true, false, false] rfl rfl (take_ofW HT_.out HW_.out (by kernel_rfl)) (fun _ _ _ h => h) (Or.inl ⟨by rfl, ?_⟩) hHeld ?_ ?_
                       rotate_left
                       · rintro w' ⟨s0, s1, s2, s3, s4, s5, s6, s7, s8, s9, s10, s11, s12, s13, s14, s15, s16⟩
                         go_simp
                         with_reducible rfl
                       rotate_left
                       · simp only [Act.put, List.setIfInBounds_toArray, List.set_cons_zero, List.set_cons_succ, i64_w, i32_w]
                         rfl
                       refine pure_ (i := 12) (N := some 27) (v := ?_) (a' := ?_) #[true, true, true, true, true, true, true, true, true, true, true, true, true, false] rfl rfl (any_of HT_.out (by kernel_rfl)) (fun _ _ _ h => h) (Or.inl ⟨by rfl, ?_⟩) ?_ ?_
                       rotate_left
                       · intro w'
                         go_simp
                         with_reducible rfl
                       rotate_left
                       · simp only [Act.put, List.setIfInBounds_toArray, List.set_cons_zero, List.set_cons_succ, i64_w, i32_w]
                         rfl
                       refine pure_ (i := 13) (N := some 28) (v := ?_) (a' := ?_) #[true, true, true, true, true, true, true, true, true, true, true, true, true, true] rfl rfl (any_of HT_.out (by kernel_rfl)) (fun _ _ _ h => h) (Or.inl ⟨by rfl, ?_⟩) ?_ ?_
                       rotate_left
                       · intro w'
                         go_simp
                         with_reducible rfl
                       rotate_left
                       · simp only [Act.put, List.setIfInBounds_toArray, List.set_cons_zero, List.set_cons_succ, i64_w, i32_w]
                         rfl
                       refine done_ (done_of HT_.out (by kernel_rfl)) ?_
                       obtain ⟨hcz55_0, hcz55_1, hcz55_2, hcz55_3, hcz55_4, hcz55_5, hcz55_6⟩ := cel7 BK349.out
                       obtain ⟨hfz55_0, hfz55_1, hfz55_2, hfz55_3, hfz55_4, hfz55_5, hfz55_6⟩ := frz7 BK349.out
                       obtain ⟨hcz56_0, hcz56_1, hcz56_2⟩ := cel3 BK347.out
                       obtain ⟨hfz56_0, hfz56_1, hfz56_2⟩ := frz3 BK347.out
                       try go_wp2_with (first | ((with_reducible refine gate_builtin (b := .append) (xs := #[.tmp 29, .tmp 38]) rfl ?_); at_builtin; refine Kd.R_append k46 (w0 := w) w.heap.size rfl (.tmp 29) (.tmp 38) 42 46 (.agg #[(.int .i64 0), (.int .i64 0), (.bool false)]) 24 rfl Try.underlying42 info46 rfl (by decide) (by omega) u3 x3_1 (⟨(rd_T40 l0_2 x10_1).f2, 0, decide (((rd_T40 l0_2 x10_1).f1) ≤ a0_0)⟩ : S46) [.int .i64 ((rd_T40 l0_2 x10_1).f2), .int .i64 0, .bool (decide (((rd_T40 l0_2 x10_1).f1) ≤ a0_0))] (fun _ => True) (fun _ => False) rfl rfl ?aP (fun _ hk => hk.elim) ?aF ?aO ?aB ?aS ?aL ?_; (case aP => exact k46_mkM _ _ _ (⟨(rd_T40 l0_2 x10_1).f2, 0, decide (((rd_T40 l0_2 x10_1).f1) ≤ a0_0)⟩ : S46)); (case aB => exact (by repeat (first | (with_reducible first | exact HB.out | apply below_alloc | apply pw_below_drewN | apply below_drew1 | refine below_set ?_ GE347.out | refine below_set ?_ GE349.out) | exact HB.out))); (case aF => exact (fun _ _ => trivial)); (case aO => exact (by (with_reducible repeat (first | apply Kd.R_alloc | apply Kd.R_drewN | apply Kd.R_drew)); exact HO_3.out)); (case aS => exact (below_size (by repeat (first | (with_reducible first | exact HB.out | apply below_alloc | apply pw_below_drewN | apply below_drew1 | refine below_set ?_ GE347.out | refine below_set ?_ GE349.out) | exact HB.out)))); (case aL => have := LMc44.out; omega); intro v359 w57 ho hb hg hat; rw [← Ny358.out] at ho; have n0_ := Aside0.mk (blk_grown (g := gb347) (o := .cells #[.int .i64 a0_0, .bool a0_1, .slice (some ad348) l0_2.length c0_2] 24 (0, 0)) (by (with_reducible repeat (first | refine blk_drewN ?_ _ | refine blk_drew ?_ | refine blk_alloc ?_ _)); exact BK347.out) hg (Kd.R_ne HO_3.out BK347.out (by decide))); have n1_ := Aside0.mk (blk_grown (g := gb349) (o := .cells #[.int .i64 ((rd_T40 l0_2 x10_1).f0), .int .i64 ((rd_T40 l0_2 x10_1).f1), .int .i64 ((rd_T40 l0_2 x10_1).f2), .int .i64 ((rd_T40 l0_2 x10_1).f3), .int .i64 ((rd_T40 l0_2 x10_1).f4), .int .i64 ((rd_T40 l0_2 x10_1).f5), .int .i64 ((rd_T40 l0_2 x10_1).f6)] 40 (0, 0)) (by (with_reducible repeat (first | refine blk_drewN ?_ _ | refine blk_drew ?_ | refine blk_alloc ?_ _)); exact BK349.out) hg (Kd.R_ne HO_3.out BK349.out (by decide))); have n2_ := Aside0.mk (hb); have n3_ := Aside0.mk (ho); clear BK347; clear BK349; clear HB; clear HO_3; have BK347 := n0_; have BK349 := n1_; have HB := n2_; have HO360 := n3_; clear n0_ n1_ n2_ n3_; clear ho hb hg hat; obtain ⟨Ao58, co58, eo58⟩ := Kd.R_slice HO360.out; subst eo58; have p48 : 0 ≤ ((ji45) : Int) := of_decide_eq_true (by first | (with_reducible assumption) | assumption); have q48 : ((ji45) : Int) < ((y358.length : Int) : Int) := of_decide_eq_true (by first | (with_reducible assumption) | assumption); obtain ⟨go48, co48, eo48, gb48, gl48, cl48, HG48⟩ := Kd.R_form HO360.out (by omega); (first | cases eo48 | (injection eo48 with ea_ en_ ec_; (first | subst ea_ | (injection ea_ with ea_; subst ea_)); subst ec_; clear en_)); have GB48 := Aside0.mk gb48; have GG48 := Aside0.mk HG48; clear gb48 gl48 HG48; obtain ⟨ce48, hcl48, hM48, hcc48, hfr48⟩ := Kd.R_elem HO360.out z46 ((ji45) : Int) p48 q48; obtain rfl := k46_openM hM48; have hx48_0 : w57.cell? ⟨go48, ((ji45) : Int).toNat * 3, none⟩ = some (.int .i64 ((rd_T46 y358 (ji45)).f0)) := hcc48 0 _ rfl; have hx48_1 : w57.cell? ⟨go48, ((ji45) : Int).toNat * 3 + 1, none⟩ = some (.int .i64 ((rd_T46 y358 (ji45)).f1)) := hcc48 1 _ rfl; have hx48_2 : w57.cell? ⟨go48, ((ji45) : Int).toNat * 3 + 2, none⟩ = some (.bool ((rd_T46 y358 (ji45)).f2)) := hcc48 2 _ rfl; have hf48_0 : w57.frozen? ⟨go48, ((ji45) : Int).toNat * 3, none⟩ = false := hfr48 0; have hf48_1 : w57.frozen? ⟨go48, ((ji45) : Int).toNat * 3 + 1, none⟩ = false := hfr48 1; have hf48_2 : w57.frozen? ⟨go48, ((ji45) : Int).toNat * 3 + 2, none⟩ = false := hfr48 2; clear hcl48 hcc48 hfr48 hM48; replace p48 := eq_true p48; replace q48 := eq_true q48))
                       have n0_ := Aside0.mk (Kd.R_drew HO360.out)
                       have n1_ := Aside0.mk (blk_drew BK347.out)
                       have n2_ := Aside0.mk (blk_drew BK349.out)
                       have n3_ := Aside0.mk (below_drew1 HB.out)
                       clear HO360
                       clear BK347
                       clear BK349
                       clear HB
                       have HO360 := n0_
                       have BK347 := n1_
                       have BK349 := n2_
                       have HB := n3_
                       clear n0_ n1_ n2_ n3_
                       refine start_ (n := 11) (S := fun w' => w'.cell? ⟨gb349, 0, none⟩ = some (.int .i64 ((rd_T40 l0_2 x10_1).f0)) ∧ w'.cell? ⟨gb349, 1, none⟩ = some (.int .i64 ((rd_T40 l0_2 x10_1).f1)) ∧ w'.cell? ⟨gb349, 2, none⟩ = some (.int .i64 ((rd_T40 l0_2 x10_1).f2)) ∧ w'.cell? ⟨gb349, 3, none⟩ = some (.int .i64 ((rd_T40 l0_2 x10_1).f3)) ∧ w'.cell? ⟨gb349, 4, none⟩ = some (.int .i64 ((rd_T40 l0_2 x10_1).f4)) ∧ w'.cell? ⟨gb349, 5, none⟩ = some (.int .i64 ((rd_T40 l0_2 x10_1).f5)) ∧ w'.cell? ⟨gb349, 6, none⟩ = some (.int .i64 ((rd_T40 l0_2 x10_1).f6)) ∧ w'.cell? ⟨go48, ((ji45) : Int).toNat * 3, none⟩ = some (.int .i64 ((rd_T46 y358 (ji45)).f0))) (ds := [10]) #[false, false, false, false, false, false, false, false, false, false, false] (by kernel_rfl) rfl rfl ⟨(blk_cell BK349.out 0).trans rfl, (blk_cell BK349.out 1).trans rfl, (blk_cell BK349.out 2).trans rfl, (blk_cell BK349.out 3).trans rfl, (blk_cell BK349.out 4).trans rfl, (blk_cell BK349.out 5).trans rfl, (blk_cell BK349.out 6).trans rfl, (ses_row HO360.out ((ji45) : Int) (of_eq_true p48) (of_eq_true q48)).1.1⟩ (fun hHeld => ?_); refine with_tabW toc_Sessions.tab8 toc_Sessions.bits8 (fun HT_ HW_ => ?_)
                       generalize w57.drew = w59 at HO360 BK347 BK349 HB hHeld ⊢
                       refine pure_ (i := 0) (N := some 45) (v := ?_) (a' := ?_) #[true, false, false, false, false, false, false, false, false, false, false] rfl rfl (any_of HT_.out (by kernel_rfl)) (fun _ _ _ h => h) (Or.inl ⟨by rfl, ?_⟩) ?_ ?_
                       rotate_left
                       · intro w'
                         go_simp
                         with_reducible rfl
                       rotate_left
                       · simp only [Act.put, List.setIfInBounds_toArray, List.set_cons_zero, List.set_cons_succ, i64_w, i32_w]
                         rfl
                       refine pure_ (i := 3) (N := some 48) (v := ?_) (a' := ?_) #[true, false, false, true, false, false, false, false, false, false, false] rfl rfl (any_of HT_.out (by kernel_rfl)) (fun _ _ _ h => h) (Or.inl ⟨by rfl, ?_⟩) ?_ ?_
                       rotate_left
                       · intro w'
                         go_simp
                         with_reducible rfl
                       rotate_left
                       · simp only [Act.put, List.setIfInBounds_toArray, List.set_cons_zero, List.set_cons_succ, i64_w, i32_w]
                         rfl
                       refine pure_ (i := 4) (N := some 49) (v := ?_) (a' := ?_) #[true, false, false, true, true, false, false, false, false, false, false] rfl rfl (any_of HT_.out (by kernel_rfl)) (fun _ _ _ h => h) (Or.inl ⟨by rfl, ?_⟩) ?_ ?_
                       rotate_left
                       · intro w'
                         go_simp
                         with_reducible rfl
                       rotate_left
                       · simp only [Act.put, List.setIfInBounds_toArray, List.set_cons_zero, List.set_cons_succ, i64_w, i32_w]
                         rfl
                       refine pure_ (i := 5) (N := some 50) (v := ?_) (a' := ?_) #[true, false, false, true, true, true, false, false, false, false, false] rfl rfl (any_of HT_.out (by kernel_rfl)) (fun _ _ _ h => h) (Or.inl ⟨by rfl, ?_⟩) ?_ ?_
                       rotate_left
                       · intro w'
                         go_simp
                         with_reducible rfl
                       rotate_left
                       · simp only [Act.put, List.setIfInBounds_toArray, List.set_cons_zero, List.set_cons_succ, i64_w, i32_w]
                         rfl
                       refine take_ (i := 1) (N := some 46) (v := ?_) (a' := ?_) #[true, true, false, true, true, true, false, false, false, false, false] rfl rfl (take_ofW HT_.out HW_.out (by kernel_rfl)) (fun _ _ _ h => h) (Or.inl ⟨by rfl, ?_⟩) hHeld ?_ ?_
                       rotate_left
                       · rintro w' ⟨s0, s1, s2, s3, s4, s5, s6, s7⟩
                         go_simp
                         with_reducible rfl
                       rotate_left
                       · simp only [Act.put, List.setIfInBounds_toArray, List.set_cons_zero, List.set_cons_succ, i64_w, i32_w]
                         rfl
                       refine take_ (i := 6) (N := some 51) (v := ?_) (a' := ?_) #[true, true, false, true, true, true, true, false, false, false, false] rfl rfl (take_ofW HT_.out HW_.out (by kernel_rfl)) (fun _ _ _ h => h) (Or.inl ⟨by rfl, ?_⟩) hHeld ?_ ?_
                       rotate_left
                       · rintro w' ⟨s0, s1, s2, s3, s4, s5, s6, s7⟩
                         go_simp
                         with_reducible rfl
                       rotate_left
                       · simp only [Act.put, List.setIfInBounds_toArray, List.set_cons_zero, List.set_cons_succ, i64_w, i32_w]
                         rfl
                       refine one_ (i := 2) (N := some 47) #[true, true, true, true, true, true, true, false, false, false, false] rfl rfl (one_of HT_.out (by kernel_rfl)) (by decide) (fun K hK => ?_)
                       refine goes_ Try.func26 (by kernel_rfl) rfl #[.agg #[.int .i64 ((rd_T40 l0_2 x10_1).f0), .int .i64 ((rd_T40 l0_2 x10_1).f1), .int .i64 ((rd_T40 l0_2 x10_1).f2), .int .i64 ((rd_T40 l0_2 x10_1).f3), .int .i64 ((rd_T40 l0_2 x10_1).f4), .int .i64 ((rd_T40 l0_2 x10_1).f5), .int .i64 ((rd_T40 l0_2 x10_1).f6)]] (by rfl) rfl rfl (by (try simp only [List.map_toArray, List.map_cons, List.map_nil]); first | done | rfl | (simp only [List.length_drop, List.length_take]; rfl)) ?_
                       with_reducible refine (toc_end.calls ((rd_T40 l0_2 x10_1).f0) ((rd_T40 l0_2 x10_1).f1) ((rd_T40 l0_2 x10_1).f2) ((rd_T40 l0_2 x10_1).f3) ((rd_T40 l0_2 x10_1).f4) ((rd_T40 l0_2 x10_1).f5) ((rd_T40 l0_2 x10_1).f6) t361 _ A49.out).mono ?_
                       rintro e w60 ⟨rfl, hb⟩
                       refine ⟨_, rfl, ?_⟩
                       have n0_ := Aside0.mk (Kd.R_below (by (with_reducible repeat (first | apply Kd.R_alloc | apply Kd.R_drewN | apply Kd.R_drew)); exact HO360.out) hb)
                       have n1_ := Aside0.mk (blk_below (g := gb347) (o := .cells #[.int .i64 a0_0, .bool a0_1, .slice (some ad348) l0_2.length c0_2] 24 (0, 0)) (by (with_reducible repeat (first | refine blk_drewN ?_ _ | refine blk_drew ?_ | refine blk_alloc ?_ _)); exact BK347.out) hb)
                       have n2_ := Aside0.mk (blk_below (g := gb349) (o := .cells #[.int .i64 ((rd_T40 l0_2 x10_1).f0), .int .i64 ((rd_T40 l0_2 x10_1).f1), .int .i64 ((rd_T40 l0_2 x10_1).f2), .int .i64 ((rd_T40 l0_2 x10_1).f3), .int .i64 ((rd_T40 l0_2 x10_1).f4), .int .i64 ((rd_T40 l0_2 x10_1).f5), .int .i64 ((rd_T40 l0_2 x10_1).f6)] 40 (0, 0)) (by (with_reducible repeat (first | refine blk_drewN ?_ _ | refine blk_drew ?_ | refine blk_alloc ?_ _)); exact BK349.out) hb)
                       have n3_ := Aside0.mk (below_step (by repeat (first | (with_reducible first | exact HB.out | apply below_alloc | apply pw_below_drewN | apply below_drew1 | refine below_set ?_ GE347.out | refine below_set ?_ GE349.out) | exact HB.out)) hb)
                       clear HO360
                       clear BK347
                       clear BK349
                       clear HB
                       have HO360 := n0_
                       have BK347 := n1_
                       have BK349 := n2_
                       have HB := n3_
                       clear n0_ n1_ n2_ n3_
                       (try clear hb)
                       (try clear hb2)
                       (try clear hk)
                       (try clear hi)
                       obtain ⟨ce61, hcl61, hM61, hcc61, hfr61⟩ := Kd.R_elem HO360.out z46 ((ji45) : Int) (of_decide_eq_true (by first | (with_reducible assumption) | assumption)) (by have h_ : ((ji45) : Int) < ((y358.length : Int) : Int) := of_decide_eq_true (by first | (with_reducible assumption) | assumption); first | exact h_ | (have e_ := (Kd.R_reads' HO360.out).1; omega) | simpa using h_)
                       obtain rfl := k46_openM hM61
                       have HP61 := (Kd.R_seg HO360.out ((ji45) : Int) (of_decide_eq_true (by first | (with_reducible assumption) | assumption)) (by have h_ : ((ji45) : Int) < ((y358.length : Int) : Int) := of_decide_eq_true (by first | (with_reducible assumption) | assumption); first | exact h_ | (have e_ := (Kd.R_reads' HO360.out).1; omega) | simpa using h_) (seg := [.int .i64 (wrap64 (t361 - ((rd_T46 y358 (ji45)).f0)))]) (j := 1) hcl61 hcc61 (show 2 ≤ 3 from by decide) (x' := (⟨(rd_T46 y358 (ji45)).f0, wrap64 (t361 - ((rd_T46 y358 (ji45)).f0)), (rd_T46 y358 (ji45)).f2⟩ : S46)) (k46_mkM _ _ _ (⟨(rd_T46 y358 (ji45)).f0, wrap64 (t361 - ((rd_T46 y358 (ji45)).f0)), (rd_T46 y358 (ji45)).f2⟩ : S46) ) (fun _ hk => hk)).1
                       rw [← Ny362.out] at HP61
                       have HQ61 := Aside0.mk HP61
                       clear hcl61 hcc61 hfr61 hM61 HP61
                       refine hK.out _ _ ⟨(blk_cell BK349.out 0).trans rfl, (blk_cell BK349.out 1).trans rfl, (blk_cell BK349.out 2).trans rfl, (blk_cell BK349.out 3).trans rfl, (blk_cell BK349.out 4).trans rfl, (blk_cell BK349.out 5).trans rfl, (blk_cell BK349.out 6).trans rfl, (ses_row HO360.out ((ji45) : Int) (of_eq_true p48) (of_eq_true q48)).1.1⟩ (fun hHeld => ?_)
                       clear hK K
                       refine norm_ (a' := ?_) ?_ ?_
                       rotate_left
                       · show Act.put _ (some 47) _ = _
                         simp only [Act.put, List.setIfInBounds_toArray, List.set_cons_zero, List.set_cons_succ, i64_w, i32_w]
                         rfl
                       refine pure_ (i := 7) (N := some 52) (v := ?_) (a' := ?_) #[true, true, true, true, true, true, true, true, false, false, false] rfl rfl (any_of HT_.out (by kernel_rfl)) (fun _ _ _ h => h) (Or.inl ⟨by rfl, ?_⟩) ?_ ?_
                       rotate_left
                       · intro w'
                         go_simp
                         with_reducible rfl
                       rotate_left
                       · simp only [Act.put, List.setIfInBounds_toArray, List.set_cons_zero, List.set_cons_succ, i64_w, i32_w]
                         rfl
                       refine pure_ (i := 8) (N := some 53) (v := ?_) (a' := ?_) #[true, true, true, true, true, true, true, true, true, false, false] rfl rfl (any_of HT_.out (by kernel_rfl)) (fun _ _ _ h => h) (Or.inl ⟨by rfl, ?_⟩) ?_ ?_
                       rotate_left
                       · intro w'
                         go_simp
                         with_reducible rfl
                       rotate_left
                       · simp only [Act.put, List.setIfInBounds_toArray, List.set_cons_zero, List.set_cons_succ, i64_w, i32_w]
                         rfl
                       refine pure_ (i := 9) (N := some 54) (v := ?_) (a' := ?_) #[true, true, true, true, true, true, true, true, true, true, false] rfl rfl (any_of HT_.out (by kernel_rfl)) (fun _ _ _ h => h) (Or.inl ⟨by rfl, ?_⟩) ?_ ?_
                       rotate_left
                       · intro w'
                         go_simp
                         with_reducible rfl
                       rotate_left
                       · simp only [Act.put, List.setIfInBounds_toArray, List.set_cons_zero, List.set_cons_succ, i64_w, i32_w]
                         rfl
                       obtain ⟨⟨rz0, rz1, rz2⟩, zf0, zf1, zf2⟩ := ses_row HO360.out ((ji45) : Int) (of_eq_true p48) (of_eq_true q48)
                       refine last_ (i := 10) (N := none) #[true, true, true, true, true, true, true, true, true, true, true] rfl rfl (one_of HT_.out (by kernel_rfl)) (by decide) (fun K hK => ?_)
                       refine skip_ (w1 := ?_) (by rfl) rfl ?_ ?_
                       rotate_left
                       · go_simp
                         rfl
                       refine hK.out _ _ ?_
                       clear hK K
                       refine done_ (done_of HT_.out (by kernel_rfl)) ?_
                       try go_wp2
                       go_roundg k1
                       case measure => have := HK1.out; omega
                       case rel => exact ⟨(y362), (wrap64 (x10_1 + 1)), (by first | rfl | (simp; done) | (simp [*]; done)), H', ⟨by have := HK1.out; omega⟩, ⟨by (with_reducible repeat (first | apply Kd.R_alloc | apply Kd.R_drewN | apply Kd.R_drew)); exact HQ61.out⟩, ⟨by (with_reducible repeat (first | refine blk_drewN ?_ _ | refine blk_drew ?_ | refine blk_alloc ?_ _)); refine blk_far ?_ (by have h_ := Kd.R_ne HO360.out BK347.out (by decide); intro e_; exact h_ (by rw [e_]; rfl)) _; (with_reducible repeat (first | refine blk_drewN ?_ _ | refine blk_drew ?_ | refine blk_alloc ?_ _)); exact BK347.out⟩, ⟨by repeat (first | (with_reducible first | exact HB.out | apply below_alloc | apply pw_below_drewN | apply below_drew1 | refine below_set ?_ GB48.out | refine below_set ?_ GE347.out | refine below_set ?_ GE349.out) | exact HB.out)⟩⟩
                     · rw [if_neg c47] at H
                       exact absurd H (by simp)
                   · rw [if_neg c46] at H
                     exact absurd H (by simp)
                 · rw [if_neg c44] at H
                   exact absurd H (by simp)
             · rw [if_neg c28] at H
               exact absurd H (by simp)
           · rw [if_neg c27] at H
             exact absurd H (by simp)
       · rw [if_neg c6] at H
         exact absurd H (by simp)
     · rw [if_neg c5] at H
       exact absurd H (by simp)
   · rw [if_neg c4] at H
     have c4b0 : decide (x10_1 < (l0_2.length : Int)) = false := decide_eq_false c4
     clear c4
     obtain rfl := Option.some.inj H
     go_wp2
     go_ret
     exact ⟨_, by first | rfl | (simp [errW_none, errW_some] <;> rfl) | (simp [*, errW_none, errW_some] <;> rfl), by (with_reducible repeat (first | apply Kd.R_alloc | apply Kd.R_drewN | apply Kd.R_drew)); exact HO_3.out, by repeat (first | (with_reducible first | exact HB.out | apply below_alloc | apply pw_below_drewN | apply below_drew1 | refine below_set ?_ GE347.out) | exact HB.out)⟩
end Go.Proofs.Ytjhepdcdhabcjaa.G
namespace Go.Proofs.Ytjhepdcdhabcjaa.G
open Go.RowKit Go.Proofs.YtjhepdcdhabcjaaW.PrintWords Go.Proofs.YtjhepdcdhabcjaaW.PrintLast Go.Proofs.YtjhepdcdhabcjaaW.PrintMore
attribute [local go_sem] max2_int min2_int max_two min_two max_three min_three max_four min_four   -- for this text's walks alone
set_option linter.unusedVariables false
set_option linter.unusedSimpArgs false
theorem eqA46 (d : Nat) (w : World) (x0 y0 : Int) (x1 y1 : Int) (x2 y2 : Bool) :
 (Op.equalIn (d + 2) 46 (.agg #[.int .i64 x0, .int .i64 x1, .bool x2]) (.agg #[.int .i64 y0, .int .i64 y1, .bool y2])).run Try.prog w = .ok (x0 == y0 && (x1 == y1 && (x2 == y2))) w := by
 refine eqA_of Try.underlying46 (by kernel_rfl) ?_
 refine eqf_cons (by rfl) (by go_simp; rfl) (by go_simp; rfl) (by go_simp) ?_
 refine eqf_cons (by rfl) (by go_simp; rfl) (by go_simp; rfl) (by go_simp) ?_
 exact eqf_last (by rfl) (by go_simp; rfl) (by go_simp; rfl) (by go_simp)
end Go.Proofs.Ytjhepdcdhabcjaa.G
namespace Go.Proofs.Ytjhepdcdhabcjaa.G
open Go.RowKit Go.Proofs.YtjhepdcdhabcjaaW.PrintWords Go.Proofs.YtjhepdcdhabcjaaW.PrintLast Go.Proofs.YtjhepdcdhabcjaaW.PrintMore
attribute [local go_sem] max2_int min2_int max_two min_two max_three min_three max_four min_four   -- for this text's walks alone
set_option linter.unusedVariables false
set_option linter.unusedSimpArgs false
attribute [local go_sem high] eqA46
def api_Session.l0 : Nat → List (S46) → List (S46) → Int → Int → Option (Bool)
 | 0, _, _, _, _ => none
 | k + 1, x0, x1, x12, x13 => if x13 < x12 then (if 0 ≤ x13 then (if x13 < (x0.length : Int) then (if x13 < (x1.length : Int) then (if (!(((rd_T46 x0 x13).f0) == ((rd_T46 x1 x13).f0)) || (!(((rd_T46 x0 x13).f1) == ((rd_T46 x1 x13).f1)) || (!(((rd_T46 x0 x13).f2) == ((rd_T46 x1 x13).f2))))) = true then (some false) else (api_Session.l0 k x0 x1 x12 (wrap64 (x13 + 1)))) else (none)) else (none)) else (none)) else (some true)
def api_Session.f (k : Nat) (l0 : List (S46)) (l1 : List (S46)) : Option (Bool) := if (l0.length : Int) = (l1.length : Int) then (api_Session.l0 k l0 l1 (l0.length : Int) 0) else (some false)
theorem api_Session.mono_l : ∀ k, (∀ y0 y1 y2 y3, LeO (api_Session.l0 k y0 y1 y2 y3) (api_Session.l0 (k + 1) y0 y1 y2 y3))
 | 0 => fun _ _ _ _ r h => by simp [api_Session.l0] at h
 | k + 1 => by
  have ih0 := api_Session.mono_l k
  · intro y0 y1 y2 y3
    unfold api_Session.l0
    repeat' first
    | (with_reducible exact ih0 _ _ _ _)
    | (with_reducible exact LeO.refl _)
    | (with_reducible exact LeO.none _)
    | (with_reducible refine LeO.ite ?_ ?_)
    | (with_reducible refine LeO.bind ?_ (fun _ => ?_))
    | exact ih0 _ _ _ _
    | exact LeO.none _
    | refine LeO.ite ?_ ?_
    | refine LeO.bind ?_ (fun _ => ?_)
theorem api_Session.mono : ∀ a0 a1 k, LeO (api_Session.f k a0 a1) (api_Session.f (k + 1) a0 a1) := by
 intro a0 a1 k
 have ih0 := api_Session.mono_l k
 unfold api_Session.f
 repeat' first
  | (with_reducible exact ih0 _ _ _ _)
  | (with_reducible exact LeO.refl _)
  | (with_reducible exact LeO.none _)
  | (with_reducible refine LeO.ite ?_ ?_)
  | (with_reducible refine LeO.bind ?_ (fun _ => ?_))
  | exact ih0 _ _ _ _
  | exact LeO.none _
  | refine LeO.ite ?_ ?_
  | refine LeO.bind ?_ (fun _ => ?_)
set_option maxHeartbeats 8000000 in
set_option maxRecDepth 100000 in
theorem api_Session.calls (k : Nat) (A0 : Option Addr) (c0 : Nat) (l0 : List (S46)) (A1 : Option Addr) (c1 : Nat) (l1 : List (S46)) (r : Bool) (w : World) (hr0 : Kd.C k46 w A0 l0.length l0) (hc0 : l0.length ≤ c0) (hr1 : Kd.C k46 w A1 l1.length l1) (hc1 : l1.length ≤ c1) (h : api_Session.f k l0 l1 = some r) :
 Calls Try.prog 15 #[.slice A0 l0.length c0, .slice A1 l1.length c1] w fun e w' => e = .returned (.bool r) ∧ Drawn0 w w' := by
 have hu46 := Try.underlying46
 have HR0 := Aside0.mk hr0
 have HC0 := Aside0.mk hc0
 clear hr0 hc0
 have HR1 := Aside0.mk hr1
 have HC1 := Aside0.mk hc1
 clear hr1 hc1
 have H : (if (l0.length : Int) = (l1.length : Int) then (api_Session.l0 k l0 l1 (l0.length : Int) 0) else (some false)) = some r := h
 clear h
 by_cases c3 : (l0.length : Int) = (l1.length : Int)
 · rw [if_pos c3] at H
   have c3b0 : ((l0.length : Int) == (l1.length : Int)) = true := beq_iff_eq.mpr c3
   have c3b1 : ((l0.length : Int) != (l1.length : Int)) = false := bne_eq_false_iff_eq.mpr c3
   have c3b2 : (l0.length == l1.length) = true := by first | simpa using c3 | (simp at c3 ⊢; omega)
   clear c3
   have H' := Aside0.mk H
   clear H
   go_enter Try.func15, Try.ntmps15
   go_wp2
   repeat (go_quiet (fail); try go_wp2)
   go_loopg [13] k (fun kq v13 w' => ∃ (x13_1 : Int), v13 = .int .i64 x13_1 ∧ Aside0 (api_Session.l0 kq l0 l1 (l0.length : Int) x13_1 = some r) ∧ Aside0 (kq ≤ k) ∧ Drawn0 w w')
   case atStart => exact ⟨(0), (by first | rfl | (simp; done) | (simp [*]; done)), H', ⟨Nat.le_refl _⟩, by repeat (first | exact Drawn0.refl _ | apply Drawn0.step)⟩
   case round =>
    clear H'
    try clear c1
    try clear p2
    try clear c3
    try clear c3b0
    try clear c3b1
    try clear c3b2
    obtain ⟨x13_1, rfl, HA, HK1, ⟨m1, rfl⟩⟩ := hrel
    cases gk with
    | zero => exact absurd HA.out (by simp [api_Session.l0])
    | succ k1 =>
     have H := HA.out
     clear HA
     simp only [api_Session.l0] at H
     by_cases c4 : x13_1 < (l0.length : Int)
     · rw [if_pos c4] at H
       have c4b0 : decide (x13_1 < (l0.length : Int)) = true := decide_eq_true c4
       clear c4
       by_cases c5 : 0 ≤ x13_1
       · rw [if_pos c5] at H
         have c5b0 : decide (0 ≤ x13_1) = true := decide_eq_true c5
         clear c5
         by_cases c6 : x13_1 < (l0.length : Int)
         · rw [if_pos c6] at H
           have c6b0 : decide (x13_1 < (l0.length : Int)) = true := decide_eq_true c6
           clear c6
           by_cases c7 : x13_1 < (l1.length : Int)
           · rw [if_pos c7] at H
             have c7b0 : decide (x13_1 < (l1.length : Int)) = true := decide_eq_true c7
             clear c7
             by_cases c8 : (!(((rd_T46 l0 x13_1).f0) == ((rd_T46 l1 x13_1).f0)) || (!(((rd_T46 l0 x13_1).f1) == ((rd_T46 l1 x13_1).f1)) || (!(((rd_T46 l0 x13_1).f2) == ((rd_T46 l1 x13_1).f2))))) = true
             · rw [if_pos c8] at H
               have c8b0 : (!(((rd_T46 l0 x13_1).f0) == ((rd_T46 l1 x13_1).f0)) || (!(((rd_T46 l0 x13_1).f1) == ((rd_T46 l1 x13_1).f1)) || (!(((rd_T46 l0 x13_1).f2) == ((rd_T46 l1 x13_1).f2))))) = true := c8
               clear c8
               obtain rfl := Option.some.inj H
               have p363 : 0 ≤ (x13_1 : Int) := of_decide_eq_true (by first | (with_reducible assumption) | assumption)
               have q363 : x13_1 < (l0.length : Int) := of_decide_eq_true (by first | (with_reducible assumption) | assumption)
               obtain ⟨ad363, e363, hx363_0, hx363_1, hx363_2⟩ := at_T46 HR0.out x13_1 p363 q363
               cases e363
               replace p363 := eq_true p363
               replace q363 := eq_true q363
               have p364 : 0 ≤ (x13_1 : Int) := of_decide_eq_true (by first | (with_reducible assumption) | assumption)
               have q364 : x13_1 < (l1.length : Int) := of_decide_eq_true (by first | (with_reducible assumption) | assumption)
               obtain ⟨ad364, e364, hx364_0, hx364_1, hx364_2⟩ := at_T46 HR1.out x13_1 p364 q364
               cases e364
               replace p364 := eq_true p364
               replace q364 := eq_true q364
               go_wp2
               repeat (go_quiet (fail); try go_wp2)
               go_ret
               exact ⟨by first | rfl | (simp; done) | (simp [*]; done), by repeat (first | exact Drawn0.refl _ | apply Drawn0.step)⟩
             · rw [if_neg c8] at H
               have c8b0 : (!(((rd_T46 l0 x13_1).f0) == ((rd_T46 l1 x13_1).f0)) || (!(((rd_T46 l0 x13_1).f1) == ((rd_T46 l1 x13_1).f1)) || (!(((rd_T46 l0 x13_1).f2) == ((rd_T46 l1 x13_1).f2))))) = false := by simpa using c8
               clear c8
               have H' := Aside0.mk H
               clear H
               have p363 : 0 ≤ (x13_1 : Int) := of_decide_eq_true (by first | (with_reducible assumption) | assumption)
               have q363 : x13_1 < (l0.length : Int) := of_decide_eq_true (by first | (with_reducible assumption) | assumption)
               obtain ⟨ad363, e363, hx363_0, hx363_1, hx363_2⟩ := at_T46 HR0.out x13_1 p363 q363
               cases e363
               replace p363 := eq_true p363
               replace q363 := eq_true q363
               have p364 : 0 ≤ (x13_1 : Int) := of_decide_eq_true (by first | (with_reducible assumption) | assumption)
               have q364 : x13_1 < (l1.length : Int) := of_decide_eq_true (by first | (with_reducible assumption) | assumption)
               obtain ⟨ad364, e364, hx364_0, hx364_1, hx364_2⟩ := at_T46 HR1.out x13_1 p364 q364
               cases e364
               replace p364 := eq_true p364
               replace q364 := eq_true q364
               go_wp2
               repeat (go_quiet (fail); try go_wp2)
               go_roundg k1
               case measure => have := HK1.out; omega
               case rel => exact ⟨(wrap64 (x13_1 + 1)), (by first | rfl | (simp; done) | (simp [*]; done)), H', ⟨by have := HK1.out; omega⟩, by repeat (first | exact Drawn0.refl _ | apply Drawn0.step)⟩
           · rw [if_neg c7] at H
             exact absurd H (by simp)
         · rw [if_neg c6] at H
           exact absurd H (by simp)
       · rw [if_neg c5] at H
         exact absurd H (by simp)
     · rw [if_neg c4] at H
       have c4b0 : decide (x13_1 < (l0.length : Int)) = false := decide_eq_false c4
       clear c4
       obtain rfl := Option.some.inj H
       go_wp2
       repeat (go_quiet (fail); try go_wp2)
       go_ret
       exact ⟨by first | rfl | (simp; done) | (simp [*]; done), by repeat (first | exact Drawn0.refl _ | apply Drawn0.step)⟩
 · rw [if_neg c3] at H
   have c3b0 : ((l0.length : Int) == (l1.length : Int)) = false := beq_eq_false_iff_ne.mpr c3
   have c3b1 : ((l0.length : Int) != (l1.length : Int)) = true := bne_iff_ne.mpr c3
   have c3b2 : (l0.length == l1.length) = false := by first | simpa using c3 | (simp at c3 ⊢; omega)
   obtain rfl := Option.some.inj H
   go_enter Try.func15, Try.ntmps15
   go_wp2
   repeat (go_quiet (fail); try go_wp2)
   go_ret
   exact ⟨by first | rfl | (simp; done) | (simp [*]; done), by repeat (first | exact Drawn0.refl _ | apply Drawn0.step)⟩
end Go.Proofs.Ytjhepdcdhabcjaa.G
namespace Go.Proofs.Ytjhepdcdhabcjaa.G
open Go.RowKit Go.Proofs.YtjhepdcdhabcjaaW.PrintWords Go.Proofs.YtjhepdcdhabcjaaW.PrintLast Go.Proofs.YtjhepdcdhabcjaaW.PrintMore
set_option linter.unusedVariables false
set_option linter.unusedSimpArgs false
def sesSet (y : List S46) (e : Int) : List S46 :=
 y.set (y.length - 1) ⟨(rd_T46 y ((y.length : Int) - 1)).f0, e - (rd_T46 y ((y.length : Int) - 1)).f0, (rd_T46 y ((y.length : Int) - 1)).f2⟩
def sesNew (l : List S40) (i : Nat) : Prop := i = 0 ∨ ¬ (rd_T40 l ((i : Int) - 1)).f1 = (rd_T40 l (i : Int)).f1
instance (l : List S40) (i : Nat) : Decidable (sesNew l i) := by unfold sesNew; infer_instance
def sess (cl : Int) (l : List S40) : Nat → List S46
 | 0 => []
 | i + 1 => sesSet (if sesNew l i then sess cl l i ++ [⟨(rd_T40 l (i : Int)).f2, 0, decide ((rd_T40 l (i : Int)).f1 ≤ cl)⟩] else sess cl l i) ((rd_T40 l (i : Int)).f2 + (rd_T40 l (i : Int)).f3)
theorem sesSet_len (y : List S46) (e : Int) : (sesSet y e).length = y.length := by unfold sesSet; rw [List.length_set]
theorem rd46_mem {y : List S46} (h : 0 < y.length) : rd_T46 y ((y.length : Int) - 1) ∈ y := by
 unfold rd_T46
 have e : ((y.length : Int) - 1).toNat = y.length - 1 := by omega
 rw [e, List.getD_eq_getElem?_getD, List.getElem?_eq_getElem (by omega)]
 exact List.getElem_mem _
theorem sess_len {cap cl : Int} {fin : Bool} {l : List S40} (cl2 : Int) (h : VALID cap cl fin l) : ∀ i : Nat, i ≤ l.length → (0 < i → ((sess cl2 l i).length : Int) = pS l i) ∧ (∀ s ∈ sess cl2 l i, 0 ≤ s.f0 ∧ s.f0 ≤ cap)
 | 0, _ => ⟨fun h => absurd h (Nat.lt_irrefl _), fun s hs => by cases hs⟩
 | i + 1, hi => by
  obtain ⟨ih, ihb⟩ := sess_len cl2 h i (by omega)
  obtain ⟨ht, b0, b1⟩ := v_tk h (i := i) (by omega)
  have hb := v_bd h i (by omega)
  have hlen1 := ht.len
  have hpl := ht.place
  have hy : ((if sesNew l i then sess cl2 l i ++ [⟨(rd_T40 l (i : Int)).f2, 0, decide ((rd_T40 l (i : Int)).f1 ≤ cl2)⟩] else sess cl2 l i).length : Int) = pS l (i + 1) ∧ ∀ s ∈ (if sesNew l i then sess cl2 l i ++ [⟨(rd_T40 l (i : Int)).f2, 0, decide ((rd_T40 l (i : Int)).f1 ≤ cl2)⟩] else sess cl2 l i), 0 ≤ s.f0 ∧ s.f0 ≤ cap := by
   rw [pS_succ]
   by_cases hi0 : i = 0
   · subst hi0
     have hn : sesNew l 0 := .inl rfl
     rw [if_pos hn]
     have p0 : pS l 0 = 1 := rfl
     rw [p0] at hpl
     refine ⟨?_, ?_⟩
     · rw [List.length_append]
       show ((0 + 1 : Nat) : Int) = _
       rcases hpl with ⟨a, -⟩ | ⟨a, -⟩
       · rw [a]; rfl
       · exact absurd a (by decide)
     · intro s hs
       obtain rfl : s = _ := by simpa [sess] using hs
       exact ⟨b0, by show (rd_T40 l ((0 : Nat) : Int)).f2 ≤ cap; omega⟩
   · have hps : pS l i = (rd_T40 l ((i : Int) - 1)).f1 := by unfold pS; rw [if_neg hi0]
     by_cases hn : sesNew l i
     · rw [if_pos hn]
       refine ⟨?_, ?_⟩
       · rw [List.length_append]
         have := ih (by omega)
         have hne : ¬ (rd_T40 l ((i : Int) - 1)).f1 = (rd_T40 l (i : Int)).f1 := hn.resolve_left hi0
         show (((sess cl2 l i).length + 1 : Nat) : Int) = _
         rcases hpl with ⟨a, -⟩ | ⟨-, a, -⟩
         · exact absurd (hps ▸ a.symm) hne
         · omega
       · intro s hs
         rcases List.mem_append.mp hs with h | h
         · exact ihb s h
         · obtain rfl : s = _ := List.mem_singleton.mp h
           exact ⟨b0, by show (rd_T40 l (i : Int)).f2 ≤ cap; omega⟩
     · rw [if_neg hn]
       refine ⟨?_, ihb⟩
       have he : (rd_T40 l ((i : Int) - 1)).f1 = (rd_T40 l (i : Int)).f1 := Decidable.not_not.mp (fun h => hn (.inr h))
       rw [ih (by omega), hps, he]
  unfold sess
  refine ⟨fun _ => by rw [sesSet_len]; exact hy.1, ?_⟩
  intro s hs
  unfold sesSet at hs
  rcases List.mem_or_eq_of_mem_set hs with hq | hq
  · exact hy.2 s hq
  · have hp : 0 < (if sesNew l i then sess cl2 l i ++ [⟨(rd_T40 l (i : Int)).f2, 0, decide ((rd_T40 l (i : Int)).f1 ≤ cl2)⟩] else sess cl2 l i).length := by
     have h1 := hy.1
     have h2 := v_bd h (i + 1) hi
     omega
    have hm := hy.2 _ (rd46_mem hp)
    rw [hq]
    exact hm
theorem ses_set {cap e : Int} (he : 0 ≤ e ∧ e ≤ cap) (hc : cap ≤ 449849) (y : List S46) (h1 : 0 < y.length) (h2 : y.length ≤ 200) (h3 : ∀ s ∈ y, 0 ≤ s.f0 ∧ s.f0 ≤ cap) :
 wrap64 ((y.length : Int) - 1) = (y.length : Int) - 1 ∧ 0 ≤ (y.length : Int) - 1 ∧ (y.length : Int) - 1 < (y.length : Int) ∧
  y.set ((y.length : Int) - 1).toNat ⟨(rd_T46 y ((y.length : Int) - 1)).f0, wrap64 (e - (rd_T46 y ((y.length : Int) - 1)).f0), (rd_T46 y ((y.length : Int) - 1)).f2⟩ = sesSet y e := by
 have hm := h3 _ (rd46_mem h1)
 refine ⟨w64 (by omega), by omega, by omega, ?_⟩
 unfold sesSet
 rw [show ((y.length : Int) - 1).toNat = y.length - 1 by omega]
 generalize rd_T46 y ((y.length : Int) - 1) = z at *
 rw [w64 (n := e - z.f0) (by omega)]
theorem sessions_l0 {cap cl : Int} {fin : Bool} {l : List S40} (h : VALID cap cl fin l) : ∀ (d i k : Nat), i + d = l.length → toc_Sessions.l0 (k + d + 1) (sess cl l i) l (l.length : Int) (i : Int) cl fin l = some (sess cl l l.length)
 | 0, i, k, hd => by
  obtain rfl : i = l.length := by omega
  rw [toc_Sessions.l0, if_neg (by omega)]
 | d + 1, i, k, hd => by
  have hil : i < l.length := by omega
  have hc := h.cap0
  have hcn := h.cnt
  obtain ⟨ih, ihb⟩ := sess_len cl h i (by omega)
  have hS := v_bd h i (by omega)
  obtain ⟨ht, b0, b1⟩ := v_tk h hil
  have hlen := ht.len
  have g0 : (i : Int) < (l.length : Int) := by omega
  have g1 : (0 : Int) ≤ (i : Int) := by omega
  have gE : 0 ≤ (rd_T40 l (i : Int)).f2 + (rd_T40 l (i : Int)).f3 := by omega
  have gc : (rd_T40 l (i : Int)).f2 ≤ cap := by omega
  have hrec := sessions_l0 h d (i + 1) k (by omega)
  have hsl : (sess cl l i).length ≤ 16 := by
   by_cases hi0 : i = 0
   · subst hi0; exact Nat.zero_le _
   · have := ih (by omega)
     omega
  have hb6 : (sess cl l i).length < 5864062014805 := by omega
  have hz : (i : Int) = 0 ↔ i = 0 := by omega
  have g4 : ¬ i = 0 → (0 : Int) ≤ (i : Int) - 1 := by omega
  have g5 : (i : Int) - 1 < (l.length : Int) := by omega
  have hp0 : ¬ i = 0 → 0 < (sess cl l i).length := fun hi0 => by have := ih (by omega); omega
  have ek : k + (d + 1) = k + d + 1 := by omega
  have hwi : wrap64 ((i : Int) - 1) = (i : Int) - 1 := w64 (by omega)
  have hnewb : ∀ s ∈ sess cl l i ++ [⟨(rd_T40 l (i : Int)).f2, 0, decide ((rd_T40 l (i : Int)).f1 ≤ cl)⟩], 0 ≤ s.f0 ∧ s.f0 ≤ cap := by
   intro s hs
   rcases List.mem_append.mp hs with hq | hq
   · exact ihb s hq
   · obtain rfl : s = _ := List.mem_singleton.mp hq
     exact ⟨b0, gc⟩
  have hnl : (sess cl l i ++ [(⟨(rd_T40 l (i : Int)).f2, 0, decide ((rd_T40 l (i : Int)).f1 ≤ cl)⟩ : S46)]).length = (sess cl l i).length + 1 := by simp
  have hnew := ses_set ⟨gE, b1⟩ hc.2 (sess cl l i ++ [⟨(rd_T40 l (i : Int)).f2, 0, decide ((rd_T40 l (i : Int)).f1 ≤ cl)⟩]) (by rw [hnl]; exact Nat.succ_pos _) (by rw [hnl]; exact Nat.le_trans (Nat.succ_le_succ hsl) (by decide)) hnewb
  have hold : ¬ i = 0 → _ := fun hi0 => ses_set ⟨gE, b1⟩ hc.2 (sess cl l i) (hp0 hi0) (Nat.le_trans hsl (by decide)) ihb
  have hw2 : wrap64 ((i : Int) + 1) = ((i + 1 : Nat) : Int) := by
   clear hnew hold hwi
   exact (w64 (by omega)).trans (by omega)
  have hwe : wrap64 ((rd_T40 l (i : Int)).f2 + (rd_T40 l (i : Int)).f3) = (rd_T40 l (i : Int)).f2 + (rd_T40 l (i : Int)).f3 := by
   clear hnew hold hwi hw2
   exact w64 (by omega)
  have hs1 : ∀ y, y = (if sesNew l i then sess cl l i ++ [⟨(rd_T40 l (i : Int)).f2, 0, decide ((rd_T40 l (i : Int)).f1 ≤ cl)⟩] else sess cl l i) → sesSet y ((rd_T40 l (i : Int)).f2 + (rd_T40 l (i : Int)).f3) = sess cl l (i + 1) := fun y hy => by rw [hy]; rfl
  obtain ⟨n1, n2, n3, n4⟩ := hnew
  have hend : toc_end.f (rd_T40 l (i : Int)).f0 (rd_T40 l (i : Int)).f1 (rd_T40 l (i : Int)).f2 (rd_T40 l (i : Int)).f3 (rd_T40 l (i : Int)).f4 (rd_T40 l (i : Int)).f5 (rd_T40 l (i : Int)).f6 = some ((rd_T40 l (i : Int)).f2 + (rd_T40 l (i : Int)).f3) := by
   unfold toc_end.f
   rw [hwe]
  rw [toc_Sessions.l0, if_pos g0, if_pos g1, if_pos g0, hend]
  rw [hw2, ek]
  by_cases hi0 : i = 0
  · rw [if_pos (hz.2 hi0), if_pos hb6, Option.bind_some, n1, if_pos n2, if_pos n3, Option.bind_some, n4, hs1 _ (if_pos (show sesNew l i from .inl hi0)).symm]
    exact hrec
  · rw [if_neg (fun hh => hi0 (hz.1 hh)), hwi, if_pos (g4 hi0), if_pos g5]
    by_cases he : (rd_T40 l ((i : Int) - 1)).f1 = (rd_T40 l (i : Int)).f1
    · obtain ⟨m1, m2, m3, m4⟩ := hold hi0
      rw [if_pos he, m1, if_pos m2, if_pos m3, Option.bind_some, m4, hs1 _ (if_neg (show ¬ sesNew l i from fun hn => hn.elim hi0 (fun hh => hh he))).symm]
      exact hrec
    · rw [if_neg he, if_pos hb6, Option.bind_some, n1, if_pos n2, if_pos n3, Option.bind_some, n4, hs1 _ (if_pos (show sesNew l i from .inr he)).symm]
      exact hrec
theorem sessions_eq {cap cl : Int} {fin : Bool} {l : List S40} (h : VALID cap cl fin l) (k : Nat) : toc_Sessions.f (k + 100) cl fin l = some (sess cl l l.length) := by
 have hcn := h.cnt
 have := sessions_l0 h l.length 0 (k + 99 - l.length) (by omega)
 rwa [show k + 99 - l.length + l.length + 1 = k + 100 by omega] at this
end Go.Proofs.Ytjhepdcdhabcjaa.G
