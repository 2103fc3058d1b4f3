/- Texts of one claim, merged by a program of this session; what is proved stands in the last of them. -/
import Derived.Test.YtjhepdcdhabcjaaKb1
import Derived.Test.YtjhepdcdhabcjaaKb2
namespace Go.Proofs.Ytjhepdcdhabcjaa.G
open Go.RowKit Go.Proofs.YtjhepdcdhabcjaaW.PrintWords Go.Proofs.YtjhepdcdhabcjaaW.PrintLast Go.Proofs.YtjhepdcdhabcjaaW.PrintMore
attribute [local go_sem] max2_int min2_int max_two min_two max_three min_three max_four min_four   -- for this text's walks alone
set_option linter.unusedVariables false
set_option linter.unusedSimpArgs false
def masterdisclaw14_do.f (k : Nat) (a0 : Int) (a1_0 : Int) (a1_1 : Bool) (l1_2 : List (S40)) (a2_0 : Int) (a2_1 : Int) (a2_2 : Int) (a2_3 : Bool) : Option (Int × Bool × (List (S40)) × Int) := if a2_0 = 0 then ((toc_Reserve.f k a0 a1_0 a1_1 l1_2 a2_1 a2_2).bind fun bt185 => (some (bt185.1, bt185.2.1, bt185.2.2.1, bt185.2.2.2))) else (if a2_0 = 1 then ((toc_Append.f k a0 a1_0 a1_1 l1_2 a2_1 a2_2).bind fun bt191 => (some (bt191.1, bt191.2.1, bt191.2.2.1, bt191.2.2.2))) else (if a2_0 = 2 then ((toc_CloseTrack.f a0 a1_0 a1_1 l1_2 a2_1).bind fun bt197 => (some (bt197.1, bt197.2.1, bt197.2.2.1, bt197.2.2.2))) else ((toc_CloseSession.f a0 a1_0 a1_1 l1_2 a2_3).bind fun bt203 => (some (bt203.1, bt203.2.1, bt203.2.2.1, bt203.2.2.2)))))
theorem masterdisclaw14_do.mono : ∀ a0 a1 a2 a3 a4 a5 a6 a7 k, LeO (masterdisclaw14_do.f k a0 a1 a2 a3 a4 a5 a6 a7) (masterdisclaw14_do.f (k + 1) a0 a1 a2 a3 a4 a5 a6 a7) := by
 intro a0 a1 a2 a3 a4 a5 a6 a7 k
 unfold masterdisclaw14_do.f
 repeat' first
  | (with_reducible exact toc_Append.mono _ _ _ _ _ _ _)
  | (with_reducible exact toc_Reserve.mono _ _ _ _ _ _ _)
  | (with_reducible exact LeO.refl _)
  | (with_reducible exact LeO.none _)
  | (with_reducible refine LeO.ite ?_ ?_)
  | (with_reducible refine LeO.bind ?_ (fun _ => ?_))
  | exact toc_Append.mono _ _ _ _ _ _ _
  | exact toc_Reserve.mono _ _ _ _ _ _ _
  | exact LeO.none _
  | refine LeO.ite ?_ ?_
  | refine LeO.bind ?_ (fun _ => ?_)
set_option maxHeartbeats 8000000 in
set_option maxRecDepth 100000 in
theorem masterdisclaw14_do.calls (k : Nat) (a0 : Int) (a1_0 : Int) (a1_1 : Bool) (A1_2 : Option Addr) (c1_2 : Nat) (l1_2 : List (S40)) (a2_0 : Int) (a2_1 : Int) (a2_2 : Int) (a2_3 : Bool) (r1 : Int) (r2 : Bool) (r3 : List (S40)) (r4 : Int) (w : World) (hr1_2 : Kd.C k40 w A1_2 l1_2.length l1_2) (hc1_2 : l1_2.length ≤ c1_2) (h : masterdisclaw14_do.f k a0 a1_0 a1_1 l1_2 a2_0 a2_1 a2_2 a2_3 = some (r1, r2, r3, r4)) :
 Calls Try.prog 8 #[.int .i64 a0, .agg #[.int .i64 a1_0, .bool a1_1, .slice A1_2 l1_2.length c1_2], .agg #[.int .i64 a2_0, .int .i64 a2_1, .int .i64 a2_2, .bool a2_3]] w fun e w' => ∃ v2_ : Value, e = .returned (.tuple #[.agg #[.int .i64 r1, .bool r2, v2_], .int .i64 r4]) ∧ Kd.R k40 40 w' w.heap.size (fun _ => True) v2_ r3 ∧ Below w.heap.size w w' := by
 have hu24 := Try.underlying24
 have hu26 := Try.underlying26
 have HR1_2 := Aside0.mk hr1_2
 have HC1_2 := Aside0.mk hc1_2
 clear hr1_2 hc1_2
 have HB := Aside0.mk (Below.refl w.heap.size w)
 have H : (if a2_0 = 0 then ((toc_Reserve.f k a0 a1_0 a1_1 l1_2 a2_1 a2_2).bind fun bt185 => (some (bt185.1, bt185.2.1, bt185.2.2.1, bt185.2.2.2))) else (if a2_0 = 1 then ((toc_Append.f k a0 a1_0 a1_1 l1_2 a2_1 a2_2).bind fun bt191 => (some (bt191.1, bt191.2.1, bt191.2.2.1, bt191.2.2.2))) else (if a2_0 = 2 then ((toc_CloseTrack.f a0 a1_0 a1_1 l1_2 a2_1).bind fun bt197 => (some (bt197.1, bt197.2.1, bt197.2.2.1, bt197.2.2.2))) else ((toc_CloseSession.f a0 a1_0 a1_1 l1_2 a2_3).bind fun bt203 => (some (bt203.1, bt203.2.1, bt203.2.2.1, bt203.2.2.2)))))) = some (r1, r2, r3, r4) := h
 clear h
 by_cases c4 : a2_0 = 0
 · rw [if_pos c4] at H
   have c4b0 : (a2_0 == 0) = true := beq_iff_eq.mpr c4
   have c4b1 : (a2_0 != 0) = false := bne_eq_false_iff_eq.mpr c4
   clear c4
   replace H := Option.bind_eq_some_iff.mp H
   obtain ⟨⟨t185, t186, t187, t190⟩, A50, H⟩ := H
   replace H : (some (t185, t186, t187, t190)) = some (r1, r2, r3, r4) := H
   have A5 := Aside0.mk A50
   clear A50
   simp only [Option.some.injEq, Prod.mk.injEq] at H
   obtain ⟨rfl, rfl, rfl, rfl⟩ := H
   go_enter Try.func8, Try.ntmps8
   go_wp2_with (first | ((with_reducible refine gate_dst (N := 4) rfl ?_); refine box_event ?hg (N := 4) ?hd (cs := #[.int .i64 a1_0, .bool a1_1, .slice A1_2 l1_2.length c1_2]) (t := 24) ?hr ?_; (case hd => rfl); (case hg => rfl); (case hr => first | (go_simp; done) | (go_simp; rfl)); intro gb182 hg w6 hbox hb; have n0_ := Aside0.mk (below_step (by repeat (first | (with_reducible first | exact HB.out | apply below_alloc | apply pw_below_drewN | apply below_drew1) | exact HB.out)) hb); have n1_ := Aside0.mk (hbox); have n2_ := Aside0.mk ((by rw [hg]; exact (below_size (by repeat (first | (with_reducible first | exact HB.out | apply below_alloc | apply pw_below_drewN | apply below_drew1) | exact HB.out))) : w.heap.size ≤ gb182)); have n3_ := Aside0.mk ((by rw [hg]; exact (below_size (by repeat (first | (with_reducible first | exact HB.out | apply below_alloc | apply pw_below_drewN | apply below_drew1) | exact HB.out))) : w.heap.size ≤ gb182)); clear HB; have HB := n0_; have BK182 := n1_; have GW182 := n2_; have GE182 := n3_; clear n0_ n1_ n2_ n3_; clear hb hbox hg) | ((with_reducible refine gate_dst (N := 5) rfl ?_); refine box_event ?hg (N := 5) ?hd (cs := #[.int .i64 a2_0, .int .i64 a2_1, .int .i64 a2_2, .bool a2_3]) (t := 26) ?hr ?_; (case hd => rfl); (case hg => rfl); (case hr => first | (go_simp; done) | (go_simp; rfl)); intro gb183 hg w7 hbox hb; have n0_ := Aside0.mk (blk_below (g := gb182) (o := .cells #[.int .i64 a1_0, .bool a1_1, .slice A1_2 l1_2.length c1_2] 24 (0, 0)) (by (with_reducible repeat (first | refine blk_drewN ?_ _ | refine blk_drew ?_ | refine blk_alloc ?_ _)); exact BK182.out) hb); have n1_ := Aside0.mk (below_step (by repeat (first | (with_reducible first | exact HB.out | apply below_alloc | apply pw_below_drewN | apply below_drew1 | refine below_set ?_ GE182.out) | exact HB.out)) hb); have n2_ := Aside0.mk (hbox); have n3_ := Aside0.mk ((by rw [hg]; exact (below_size (by repeat (first | (with_reducible first | exact HB.out | apply below_alloc | apply pw_below_drewN | apply below_drew1 | refine below_set ?_ GE182.out) | exact HB.out))) : w.heap.size ≤ gb183)); have n4_ := Aside0.mk ((by rw [hg]; exact (below_size (by repeat (first | (with_reducible first | exact HB.out | apply below_alloc | apply pw_below_drewN | apply below_drew1 | refine below_set ?_ GE182.out) | exact HB.out))) : w.heap.size ≤ gb183)); have n5_ := Aside0.mk ((by rw [hg]; exact Nat.ne_of_lt (blk_lt (g := gb182) (o := .cells #[.int .i64 a1_0, .bool a1_1, .slice A1_2 l1_2.length c1_2] 24 (0, 0)) (by (with_reducible repeat (first | refine blk_drewN ?_ _ | refine blk_drew ?_ | refine blk_alloc ?_ _)); exact BK182.out)) : gb182 ≠ gb183)); have n6_ := Aside0.mk ((by rw [hg]; exact Nat.ne_of_gt (blk_lt (g := gb182) (o := .cells #[.int .i64 a1_0, .bool a1_1, .slice A1_2 l1_2.length c1_2] 24 (0, 0)) (by (with_reducible repeat (first | refine blk_drewN ?_ _ | refine blk_drew ?_ | refine blk_alloc ?_ _)); exact BK182.out)) : gb183 ≠ gb182)); clear BK182; clear HB; have BK182 := n0_; have HB := n1_; have BK183 := n2_; have GW183 := n3_; have GE183 := n4_; have NB182_183 := n5_; have NB183_182 := n6_; clear n0_ n1_ n2_ n3_ n4_ n5_ n6_; clear hb hbox hg) | ((with_reducible refine gate_dst (N := 6) rfl ?_); refine box_event ?hg (N := 6) ?hd (cs := #[.int .i64 0, .bool false, .slice none 0 0]) (t := 24) ?hr ?_; (case hd => rfl); (case hg => rfl); (case hr => first | (go_simp; done) | (go_simp; rfl)); intro gb184 hg w8 hbox hb; have n0_ := Aside0.mk (blk_below (g := gb182) (o := .cells #[.int .i64 a1_0, .bool a1_1, .slice A1_2 l1_2.length c1_2] 24 (0, 0)) (by (with_reducible repeat (first | refine blk_drewN ?_ _ | refine blk_drew ?_ | refine blk_alloc ?_ _)); exact BK182.out) hb); have n1_ := Aside0.mk (blk_below (g := gb183) (o := .cells #[.int .i64 a2_0, .int .i64 a2_1, .int .i64 a2_2, .bool a2_3] 26 (0, 0)) (by (with_reducible repeat (first | refine blk_drewN ?_ _ | refine blk_drew ?_ | refine blk_alloc ?_ _)); exact BK183.out) hb); have n2_ := Aside0.mk (below_step (by repeat (first | (with_reducible first | exact HB.out | apply below_alloc | apply pw_below_drewN | apply below_drew1 | refine below_set ?_ GE182.out | refine below_set ?_ GE183.out) | exact HB.out)) hb); have n3_ := Aside0.mk (hbox); have n4_ := Aside0.mk ((by rw [hg]; exact (below_size (by repeat (first | (with_reducible first | exact HB.out | apply below_alloc | apply pw_below_drewN | apply below_drew1 | refine below_set ?_ GE182.out | refine below_set ?_ GE183.out) | exact HB.out))) : w.heap.size ≤ gb184)); have n5_ := Aside0.mk ((by rw [hg]; exact (below_size (by repeat (first | (with_reducible first | exact HB.out | apply below_alloc | apply pw_below_drewN | apply below_drew1 | refine below_set ?_ GE182.out | refine below_set ?_ GE183.out) | exact HB.out))) : w.heap.size ≤ gb184)); have n6_ := Aside0.mk ((by rw [hg]; exact Nat.ne_of_lt (blk_lt (g := gb182) (o := .cells #[.int .i64 a1_0, .bool a1_1, .slice A1_2 l1_2.length c1_2] 24 (0, 0)) (by (with_reducible repeat (first | refine blk_drewN ?_ _ | refine blk_drew ?_ | refine blk_alloc ?_ _)); exact BK182.out)) : gb182 ≠ gb184)); have n7_ := Aside0.mk ((by rw [hg]; exact Nat.ne_of_gt (blk_lt (g := gb182) (o := .cells #[.int .i64 a1_0, .bool a1_1, .slice A1_2 l1_2.length c1_2] 24 (0, 0)) (by (with_reducible repeat (first | refine blk_drewN ?_ _ | refine blk_drew ?_ | refine blk_alloc ?_ _)); exact BK182.out)) : gb184 ≠ gb182)); have n8_ := Aside0.mk ((by rw [hg]; exact Nat.ne_of_lt (blk_lt (g := gb183) (o := .cells #[.int .i64 a2_0, .int .i64 a2_1, .int .i64 a2_2, .bool a2_3] 26 (0, 0)) (by (with_reducible repeat (first | refine blk_drewN ?_ _ | refine blk_drew ?_ | refine blk_alloc ?_ _)); exact BK183.out)) : gb183 ≠ gb184)); have n9_ := Aside0.mk ((by rw [hg]; exact Nat.ne_of_gt (blk_lt (g := gb183) (o := .cells #[.int .i64 a2_0, .int .i64 a2_1, .int .i64 a2_2, .bool a2_3] 26 (0, 0)) (by (with_reducible repeat (first | refine blk_drewN ?_ _ | refine blk_drew ?_ | refine blk_alloc ?_ _)); exact BK183.out)) : gb184 ≠ gb183)); clear BK182; clear BK183; clear HB; have BK182 := n0_; have BK183 := n1_; have HB := n2_; have BK184 := n3_; have GW184 := n4_; have GE184 := n5_; have NB182_184 := n6_; have NB184_182 := n7_; have NB183_184 := n8_; have NB184_183 := n9_; clear n0_ n1_ n2_ n3_ n4_ n5_ n6_ n7_ n8_ n9_; clear hb hbox hg; have hnb9 := NB183_182.out; have hnc9 := NB182_183.out; have hnb10 := NB183_184.out; have hnc10 := NB184_183.out; obtain ⟨hcz11_0, hcz11_1, hcz11_2, hcz11_3⟩ := cel4 BK183.out; obtain ⟨hfz11_0, hfz11_1, hfz11_2, hfz11_3⟩ := frz4 BK183.out; have hnb12 := NB182_184.out; have hnc12 := NB184_182.out; obtain ⟨hcz13_0, hcz13_1, hcz13_2⟩ := cel3 BK182.out; obtain ⟨hfz13_0, hfz13_1, hfz13_2⟩ := frz3 BK182.out) | ((with_reducible refine gate_callee (f := 16) rfl ?_); refine goesL_ (some 18) rfl rfl Try.func16 (by kernel_rfl) rfl #[.int .i64 a0, .agg #[.int .i64 a1_0, .bool a1_1, .slice A1_2 l1_2.length c1_2], .int .i64 a2_1, .int .i64 a2_2] rfl (by (try simp only [List.map_toArray, List.map_cons, List.map_nil]); first | done | rfl | (simp only [List.length_drop, List.length_take]; rfl)) ?_; (with_reducible refine (toc_Reserve.calls k a0 a1_0 a1_1 _ _ l1_2 a2_1 a2_2 t185 t186 t187 t190 _ ?side1 ?side2 A5.out).mono ?_); (case side1 => repeat (first | exact (Kd.C_below HR1_2.out HB.out) | (with_reducible refine Kd.C_alloc ?_ _) | (with_reducible refine Kd.C_drewN ?_ _) | (with_reducible refine Kd.C_drew ?_))); (case side2 => exact HC1_2.out); rintro e w14 ⟨v188, rfl, ho0, hb⟩; refine ⟨_, rfl, ?_⟩; have n0_ := Aside0.mk (Kd.R_lower ho0 (below_size (by repeat (first | (with_reducible first | exact HB.out | apply below_alloc | apply pw_below_drewN | apply below_drew1 | refine below_set ?_ GE182.out | refine below_set ?_ GE183.out | refine below_set ?_ GE184.out) | exact HB.out)))); have n1_ := Aside0.mk (blk_below (g := gb182) (o := .cells #[.int .i64 a1_0, .bool a1_1, .slice A1_2 l1_2.length c1_2] 24 (0, 0)) (by (with_reducible repeat (first | refine blk_drewN ?_ _ | refine blk_drew ?_ | refine blk_alloc ?_ _)); exact BK182.out) hb); have n2_ := Aside0.mk (blk_below (g := gb183) (o := .cells #[.int .i64 a2_0, .int .i64 a2_1, .int .i64 a2_2, .bool a2_3] 26 (0, 0)) (by (with_reducible repeat (first | refine blk_drewN ?_ _ | refine blk_drew ?_ | refine blk_alloc ?_ _)); exact BK183.out) hb); have n3_ := Aside0.mk (blk_below (g := gb184) (o := .cells #[.int .i64 0, .bool false, .slice none 0 0] 24 (0, 0)) (by (with_reducible repeat (first | refine blk_drewN ?_ _ | refine blk_drew ?_ | refine blk_alloc ?_ _)); exact BK184.out) hb); have n4_ := Aside0.mk (below_step (by repeat (first | (with_reducible first | exact HB.out | apply below_alloc | apply pw_below_drewN | apply below_drew1 | refine below_set ?_ GE182.out | refine below_set ?_ GE183.out | refine below_set ?_ GE184.out) | exact HB.out)) hb); clear BK182; clear BK183; clear BK184; clear HB; have HO189 := n0_; have BK182 := n1_; have BK183 := n2_; have BK184 := n3_; have HB := n4_; clear n0_ n1_ n2_ n3_ n4_; (try clear hb); (try clear hb2); (try clear hk); (try clear hi); (try clear ho0); obtain ⟨hcz15_0, hcz15_1, hcz15_2⟩ := cel3 BK184.out; obtain ⟨hfz15_0, hfz15_1, hfz15_2⟩ := frz3 BK184.out; obtain ⟨Ao16, co16, eo16⟩ := Kd.R_slice HO189.out; subst eo16))
   refine bodyPost_ret (results_ct rfl _ _ gb184 24 #[.int .i64 t185, .bool t186, .slice Ao16 t187.length co16] (0, 0) _ rfl (by (with_reducible repeat (first | refine blk_drewN ?_ _ | refine blk_drew ?_ | refine blk_alloc ?_ _)); refine blk_put (cs := #[.int .i64 t185, .bool t186, .slice none 0 0]) ?_ 2 _ rfl; (with_reducible repeat (first | refine blk_drewN ?_ _ | refine blk_drew ?_ | refine blk_alloc ?_ _)); refine blk_put (cs := #[.int .i64 t185, .bool false, .slice none 0 0]) ?_ 1 _ rfl; (with_reducible repeat (first | refine blk_drewN ?_ _ | refine blk_drew ?_ | refine blk_alloc ?_ _)); refine blk_put (cs := #[.int .i64 0, .bool false, .slice none 0 0]) ?_ 0 _ rfl; (with_reducible repeat (first | refine blk_drewN ?_ _ | refine blk_drew ?_ | refine blk_alloc ?_ _)); exact BK184.out) Try.underlying24 rfl (by kernel_rfl)) rfl ?_
   exact ⟨_, by first | rfl | (simp [errW_none, errW_some] <;> rfl) | (simp [*, errW_none, errW_some] <;> rfl), by (with_reducible repeat (first | apply Kd.R_alloc | apply Kd.R_drewN | apply Kd.R_drew)); exact Kd.R_mono (Kd.R_far (p := ⟨gb184, 2, none⟩) (Kd.R_far (p := ⟨gb184, 1, none⟩) (Kd.R_far (p := ⟨gb184, 0, none⟩) (Kd.R_types HO189.out BK184.out (by decide)) (fun _ hk => hk.2) (.int .i64 t185)) (fun _ hk => hk.2) (.bool t186)) (fun _ hk => hk.2) (.slice Ao16 t187.length co16)) (fun _ hk => trivial), by repeat (first | (with_reducible first | exact HB.out | apply below_alloc | apply pw_below_drewN | apply below_drew1 | refine below_set ?_ GE182.out | refine below_set ?_ GE183.out | refine below_set ?_ GE184.out) | exact HB.out)⟩
 · rw [if_neg c4] at H
   have c4b0 : (a2_0 == 0) = false := beq_eq_false_iff_ne.mpr c4
   have c4b1 : (a2_0 != 0) = true := bne_iff_ne.mpr c4
   by_cases c17 : a2_0 = 1
   · rw [if_pos c17] at H
     have c17b0 : (a2_0 == 1) = true := beq_iff_eq.mpr c17
     have c17b1 : (a2_0 != 1) = false := bne_eq_false_iff_eq.mpr c17
     clear c17
     replace H := Option.bind_eq_some_iff.mp H
     obtain ⟨⟨t191, t192, t193, t196⟩, A180, H⟩ := H
     replace H : (some (t191, t192, t193, t196)) = some (r1, r2, r3, r4) := H
     have A18 := Aside0.mk A180
     clear A180
     simp only [Option.some.injEq, Prod.mk.injEq] at H
     obtain ⟨rfl, rfl, rfl, rfl⟩ := H
     go_enter Try.func8, Try.ntmps8
     go_wp2_with (first | ((with_reducible refine gate_dst (N := 4) rfl ?_); refine box_event ?hg (N := 4) ?hd (cs := #[.int .i64 a1_0, .bool a1_1, .slice A1_2 l1_2.length c1_2]) (t := 24) ?hr ?_; (case hd => rfl); (case hg => rfl); (case hr => first | (go_simp; done) | (go_simp; rfl)); intro gb182 hg w19 hbox hb; have n0_ := Aside0.mk (below_step (by repeat (first | (with_reducible first | exact HB.out | apply below_alloc | apply pw_below_drewN | apply below_drew1) | exact HB.out)) hb); have n1_ := Aside0.mk (hbox); have n2_ := Aside0.mk ((by rw [hg]; exact (below_size (by repeat (first | (with_reducible first | exact HB.out | apply below_alloc | apply pw_below_drewN | apply below_drew1) | exact HB.out))) : w.heap.size ≤ gb182)); have n3_ := Aside0.mk ((by rw [hg]; exact (below_size (by repeat (first | (with_reducible first | exact HB.out | apply below_alloc | apply pw_below_drewN | apply below_drew1) | exact HB.out))) : w.heap.size ≤ gb182)); clear HB; have HB := n0_; have BK182 := n1_; have GW182 := n2_; have GE182 := n3_; clear n0_ n1_ n2_ n3_; clear hb hbox hg) | ((with_reducible refine gate_dst (N := 5) rfl ?_); refine box_event ?hg (N := 5) ?hd (cs := #[.int .i64 a2_0, .int .i64 a2_1, .int .i64 a2_2, .bool a2_3]) (t := 26) ?hr ?_; (case hd => rfl); (case hg => rfl); (case hr => first | (go_simp; done) | (go_simp; rfl)); intro gb183 hg w20 hbox hb; have n0_ := Aside0.mk (blk_below (g := gb182) (o := .cells #[.int .i64 a1_0, .bool a1_1, .slice A1_2 l1_2.length c1_2] 24 (0, 0)) (by (with_reducible repeat (first | refine blk_drewN ?_ _ | refine blk_drew ?_ | refine blk_alloc ?_ _)); exact BK182.out) hb); have n1_ := Aside0.mk (below_step (by repeat (first | (with_reducible first | exact HB.out | apply below_alloc | apply pw_below_drewN | apply below_drew1 | refine below_set ?_ GE182.out) | exact HB.out)) hb); have n2_ := Aside0.mk (hbox); have n3_ := Aside0.mk ((by rw [hg]; exact (below_size (by repeat (first | (with_reducible first | exact HB.out | apply below_alloc | apply pw_below_drewN | apply below_drew1 | refine below_set ?_ GE182.out) | exact HB.out))) : w.heap.size ≤ gb183)); have n4_ := Aside0.mk ((by rw [hg]; exact (below_size (by repeat (first | (with_reducible first | exact HB.out | apply below_alloc | apply pw_below_drewN | apply below_drew1 | refine below_set ?_ GE182.out) | exact HB.out))) : w.heap.size ≤ gb183)); have n5_ := Aside0.mk ((by rw [hg]; exact Nat.ne_of_lt (blk_lt (g := gb182) (o := .cells #[.int .i64 a1_0, .bool a1_1, .slice A1_2 l1_2.length c1_2] 24 (0, 0)) (by (with_reducible repeat (first | refine blk_drewN ?_ _ | refine blk_drew ?_ | refine blk_alloc ?_ _)); exact BK182.out)) : gb182 ≠ gb183)); have n6_ := Aside0.mk ((by rw [hg]; exact Nat.ne_of_gt (blk_lt (g := gb182) (o := .cells #[.int .i64 a1_0, .bool a1_1, .slice A1_2 l1_2.length c1_2] 24 (0, 0)) (by (with_reducible repeat (first | refine blk_drewN ?_ _ | refine blk_drew ?_ | refine blk_alloc ?_ _)); exact BK182.out)) : gb183 ≠ gb182)); clear BK182; clear HB; have BK182 := n0_; have HB := n1_; have BK183 := n2_; have GW183 := n3_; have GE183 := n4_; have NB182_183 := n5_; have NB183_182 := n6_; clear n0_ n1_ n2_ n3_ n4_ n5_ n6_; clear hb hbox hg) | ((with_reducible refine gate_dst (N := 6) rfl ?_); refine box_event ?hg (N := 6) ?hd (cs := #[.int .i64 0, .bool false, .slice none 0 0]) (t := 24) ?hr ?_; (case hd => rfl); (case hg => rfl); (case hr => first | (go_simp; done) | (go_simp; rfl)); intro gb184 hg w21 hbox hb; have n0_ := Aside0.mk (blk_below (g := gb182) (o := .cells #[.int .i64 a1_0, .bool a1_1, .slice A1_2 l1_2.length c1_2] 24 (0, 0)) (by (with_reducible repeat (first | refine blk_drewN ?_ _ | refine blk_drew ?_ | refine blk_alloc ?_ _)); exact BK182.out) hb); have n1_ := Aside0.mk (blk_below (g := gb183) (o := .cells #[.int .i64 a2_0, .int .i64 a2_1, .int .i64 a2_2, .bool a2_3] 26 (0, 0)) (by (with_reducible repeat (first | refine blk_drewN ?_ _ | refine blk_drew ?_ | refine blk_alloc ?_ _)); exact BK183.out) hb); have n2_ := Aside0.mk (below_step (by repeat (first | (with_reducible first | exact HB.out | apply below_alloc | apply pw_below_drewN | apply below_drew1 | refine below_set ?_ GE182.out | refine below_set ?_ GE183.out) | exact HB.out)) hb); have n3_ := Aside0.mk (hbox); have n4_ := Aside0.mk ((by rw [hg]; exact (below_size (by repeat (first | (with_reducible first | exact HB.out | apply below_alloc | apply pw_below_drewN | apply below_drew1 | refine below_set ?_ GE182.out | refine below_set ?_ GE183.out) | exact HB.out))) : w.heap.size ≤ gb184)); have n5_ := Aside0.mk ((by rw [hg]; exact (below_size (by repeat (first | (with_reducible first | exact HB.out | apply below_alloc | apply pw_below_drewN | apply below_drew1 | refine below_set ?_ GE182.out | refine below_set ?_ GE183.out) | exact HB.out))) : w.heap.size ≤ gb184)); have n6_ := Aside0.mk ((by rw [hg]; exact Nat.ne_of_lt (blk_lt (g := gb182) (o := .cells #[.int .i64 a1_0, .bool a1_1, .slice A1_2 l1_2.length c1_2] 24 (0, 0)) (by (with_reducible repeat (first | refine blk_drewN ?_ _ | refine blk_drew ?_ | refine blk_alloc ?_ _)); exact BK182.out)) : gb182 ≠ gb184)); have n7_ := Aside0.mk ((by rw [hg]; exact Nat.ne_of_gt (blk_lt (g := gb182) (o := .cells #[.int .i64 a1_0, .bool a1_1, .slice A1_2 l1_2.length c1_2] 24 (0, 0)) (by (with_reducible repeat (first | refine blk_drewN ?_ _ | refine blk_drew ?_ | refine blk_alloc ?_ _)); exact BK182.out)) : gb184 ≠ gb182)); have n8_ := Aside0.mk ((by rw [hg]; exact Nat.ne_of_lt (blk_lt (g := gb183) (o := .cells #[.int .i64 a2_0, .int .i64 a2_1, .int .i64 a2_2, .bool a2_3] 26 (0, 0)) (by (with_reducible repeat (first | refine blk_drewN ?_ _ | refine blk_drew ?_ | refine blk_alloc ?_ _)); exact BK183.out)) : gb183 ≠ gb184)); have n9_ := Aside0.mk ((by rw [hg]; exact Nat.ne_of_gt (blk_lt (g := gb183) (o := .cells #[.int .i64 a2_0, .int .i64 a2_1, .int .i64 a2_2, .bool a2_3] 26 (0, 0)) (by (with_reducible repeat (first | refine blk_drewN ?_ _ | refine blk_drew ?_ | refine blk_alloc ?_ _)); exact BK183.out)) : gb184 ≠ gb183)); clear BK182; clear BK183; clear HB; have BK182 := n0_; have BK183 := n1_; have HB := n2_; have BK184 := n3_; have GW184 := n4_; have GE184 := n5_; have NB182_184 := n6_; have NB184_182 := n7_; have NB183_184 := n8_; have NB184_183 := n9_; clear n0_ n1_ n2_ n3_ n4_ n5_ n6_ n7_ n8_ n9_; clear hb hbox hg; have hnb22 := NB183_182.out; have hnc22 := NB182_183.out; have hnb23 := NB183_184.out; have hnc23 := NB184_183.out; obtain ⟨hcz24_0, hcz24_1, hcz24_2, hcz24_3⟩ := cel4 BK183.out; obtain ⟨hfz24_0, hfz24_1, hfz24_2, hfz24_3⟩ := frz4 BK183.out; have hnb25 := NB182_184.out; have hnc25 := NB184_182.out; obtain ⟨hcz26_0, hcz26_1, hcz26_2⟩ := cel3 BK182.out; obtain ⟨hfz26_0, hfz26_1, hfz26_2⟩ := frz3 BK182.out) | ((with_reducible refine gate_callee (f := 17) rfl ?_); refine goesL_ (some 29) rfl rfl Try.func17 (by kernel_rfl) rfl #[.int .i64 a0, .agg #[.int .i64 a1_0, .bool a1_1, .slice A1_2 l1_2.length c1_2], .int .i64 a2_1, .int .i64 a2_2] rfl (by (try simp only [List.map_toArray, List.map_cons, List.map_nil]); first | done | rfl | (simp only [List.length_drop, List.length_take]; rfl)) ?_; (with_reducible refine (toc_Append.calls k a0 a1_0 a1_1 _ _ l1_2 a2_1 a2_2 t191 t192 t193 t196 _ ?side1 ?side2 A18.out).mono ?_); (case side1 => repeat (first | exact (Kd.C_below HR1_2.out HB.out) | (with_reducible refine Kd.C_alloc ?_ _) | (with_reducible refine Kd.C_drewN ?_ _) | (with_reducible refine Kd.C_drew ?_))); (case side2 => exact HC1_2.out); rintro e w27 ⟨v194, rfl, ho0, hb⟩; refine ⟨_, rfl, ?_⟩; have n0_ := Aside0.mk (Kd.R_lower ho0 (below_size (by repeat (first | (with_reducible first | exact HB.out | apply below_alloc | apply pw_below_drewN | apply below_drew1 | refine below_set ?_ GE182.out | refine below_set ?_ GE183.out | refine below_set ?_ GE184.out) | exact HB.out)))); have n1_ := Aside0.mk (blk_below (g := gb182) (o := .cells #[.int .i64 a1_0, .bool a1_1, .slice A1_2 l1_2.length c1_2] 24 (0, 0)) (by (with_reducible repeat (first | refine blk_drewN ?_ _ | refine blk_drew ?_ | refine blk_alloc ?_ _)); exact BK182.out) hb); have n2_ := Aside0.mk (blk_below (g := gb183) (o := .cells #[.int .i64 a2_0, .int .i64 a2_1, .int .i64 a2_2, .bool a2_3] 26 (0, 0)) (by (with_reducible repeat (first | refine blk_drewN ?_ _ | refine blk_drew ?_ | refine blk_alloc ?_ _)); exact BK183.out) hb); have n3_ := Aside0.mk (blk_below (g := gb184) (o := .cells #[.int .i64 0, .bool false, .slice none 0 0] 24 (0, 0)) (by (with_reducible repeat (first | refine blk_drewN ?_ _ | refine blk_drew ?_ | refine blk_alloc ?_ _)); exact BK184.out) hb); have n4_ := Aside0.mk (below_step (by repeat (first | (with_reducible first | exact HB.out | apply below_alloc | apply pw_below_drewN | apply below_drew1 | refine below_set ?_ GE182.out | refine below_set ?_ GE183.out | refine below_set ?_ GE184.out) | exact HB.out)) hb); clear BK182; clear BK183; clear BK184; clear HB; have HO195 := n0_; have BK182 := n1_; have BK183 := n2_; have BK184 := n3_; have HB := n4_; clear n0_ n1_ n2_ n3_ n4_; (try clear hb); (try clear hb2); (try clear hk); (try clear hi); (try clear ho0); obtain ⟨hcz28_0, hcz28_1, hcz28_2⟩ := cel3 BK184.out; obtain ⟨hfz28_0, hfz28_1, hfz28_2⟩ := frz3 BK184.out; obtain ⟨Ao29, co29, eo29⟩ := Kd.R_slice HO195.out; subst eo29))
     refine bodyPost_ret (results_ct rfl _ _ gb184 24 #[.int .i64 t191, .bool t192, .slice Ao29 t193.length co29] (0, 0) _ rfl (by (with_reducible repeat (first | refine blk_drewN ?_ _ | refine blk_drew ?_ | refine blk_alloc ?_ _)); refine blk_put (cs := #[.int .i64 t191, .bool t192, .slice none 0 0]) ?_ 2 _ rfl; (with_reducible repeat (first | refine blk_drewN ?_ _ | refine blk_drew ?_ | refine blk_alloc ?_ _)); refine blk_put (cs := #[.int .i64 t191, .bool false, .slice none 0 0]) ?_ 1 _ rfl; (with_reducible repeat (first | refine blk_drewN ?_ _ | refine blk_drew ?_ | refine blk_alloc ?_ _)); refine blk_put (cs := #[.int .i64 0, .bool false, .slice none 0 0]) ?_ 0 _ rfl; (with_reducible repeat (first | refine blk_drewN ?_ _ | refine blk_drew ?_ | refine blk_alloc ?_ _)); exact BK184.out) Try.underlying24 rfl (by kernel_rfl)) rfl ?_
     exact ⟨_, by first | rfl | (simp [errW_none, errW_some] <;> rfl) | (simp [*, errW_none, errW_some] <;> rfl), by (with_reducible repeat (first | apply Kd.R_alloc | apply Kd.R_drewN | apply Kd.R_drew)); exact Kd.R_mono (Kd.R_far (p := ⟨gb184, 2, none⟩) (Kd.R_far (p := ⟨gb184, 1, none⟩) (Kd.R_far (p := ⟨gb184, 0, none⟩) (Kd.R_types HO195.out BK184.out (by decide)) (fun _ hk => hk.2) (.int .i64 t191)) (fun _ hk => hk.2) (.bool t192)) (fun _ hk => hk.2) (.slice Ao29 t193.length co29)) (fun _ hk => trivial), by repeat (first | (with_reducible first | exact HB.out | apply below_alloc | apply pw_below_drewN | apply below_drew1 | refine below_set ?_ GE182.out | refine below_set ?_ GE183.out | refine below_set ?_ GE184.out) | exact HB.out)⟩
   · rw [if_neg c17] at H
     have c17b0 : (a2_0 == 1) = false := beq_eq_false_iff_ne.mpr c17
     have c17b1 : (a2_0 != 1) = true := bne_iff_ne.mpr c17
     by_cases c30 : a2_0 = 2
     · rw [if_pos c30] at H
       have c30b0 : (a2_0 == 2) = true := beq_iff_eq.mpr c30
       have c30b1 : (a2_0 != 2) = false := bne_eq_false_iff_eq.mpr c30
       clear c30
       replace H := Option.bind_eq_some_iff.mp H
       obtain ⟨⟨t197, t198, t199, t202⟩, A310, H⟩ := H
       replace H : (some (t197, t198, t199, t202)) = some (r1, r2, r3, r4) := H
       have A31 := Aside0.mk A310
       clear A310
       simp only [Option.some.injEq, Prod.mk.injEq] at H
       obtain ⟨rfl, rfl, rfl, rfl⟩ := H
       go_enter Try.func8, Try.ntmps8
       go_wp2_with (first | ((with_reducible refine gate_dst (N := 4) rfl ?_); refine box_event ?hg (N := 4) ?hd (cs := #[.int .i64 a1_0, .bool a1_1, .slice A1_2 l1_2.length c1_2]) (t := 24) ?hr ?_; (case hd => rfl); (case hg => rfl); (case hr => first | (go_simp; done) | (go_simp; rfl)); intro gb182 hg w32 hbox hb; have n0_ := Aside0.mk (below_step (by repeat (first | (with_reducible first | exact HB.out | apply below_alloc | apply pw_below_drewN | apply below_drew1) | exact HB.out)) hb); have n1_ := Aside0.mk (hbox); have n2_ := Aside0.mk ((by rw [hg]; exact (below_size (by repeat (first | (with_reducible first | exact HB.out | apply below_alloc | apply pw_below_drewN | apply below_drew1) | exact HB.out))) : w.heap.size ≤ gb182)); have n3_ := Aside0.mk ((by rw [hg]; exact (below_size (by repeat (first | (with_reducible first | exact HB.out | apply below_alloc | apply pw_below_drewN | apply below_drew1) | exact HB.out))) : w.heap.size ≤ gb182)); clear HB; have HB := n0_; have BK182 := n1_; have GW182 := n2_; have GE182 := n3_; clear n0_ n1_ n2_ n3_; clear hb hbox hg) | ((with_reducible refine gate_dst (N := 5) rfl ?_); refine box_event ?hg (N := 5) ?hd (cs := #[.int .i64 a2_0, .int .i64 a2_1, .int .i64 a2_2, .bool a2_3]) (t := 26) ?hr ?_; (case hd => rfl); (case hg => rfl); (case hr => first | (go_simp; done) | (go_simp; rfl)); intro gb183 hg w33 hbox hb; have n0_ := Aside0.mk (blk_below (g := gb182) (o := .cells #[.int .i64 a1_0, .bool a1_1, .slice A1_2 l1_2.length c1_2] 24 (0, 0)) (by (with_reducible repeat (first | refine blk_drewN ?_ _ | refine blk_drew ?_ | refine blk_alloc ?_ _)); exact BK182.out) hb); have n1_ := Aside0.mk (below_step (by repeat (first | (with_reducible first | exact HB.out | apply below_alloc | apply pw_below_drewN | apply below_drew1 | refine below_set ?_ GE182.out) | exact HB.out)) hb); have n2_ := Aside0.mk (hbox); have n3_ := Aside0.mk ((by rw [hg]; exact (below_size (by repeat (first | (with_reducible first | exact HB.out | apply below_alloc | apply pw_below_drewN | apply below_drew1 | refine below_set ?_ GE182.out) | exact HB.out))) : w.heap.size ≤ gb183)); have n4_ := Aside0.mk ((by rw [hg]; exact (below_size (by repeat (first | (with_reducible first | exact HB.out | apply below_alloc | apply pw_below_drewN | apply below_drew1 | refine below_set ?_ GE182.out) | exact HB.out))) : w.heap.size ≤ gb183)); have n5_ := Aside0.mk ((by rw [hg]; exact Nat.ne_of_lt (blk_lt (g := gb182) (o := .cells #[.int .i64 a1_0, .bool a1_1, .slice A1_2 l1_2.length c1_2] 24 (0, 0)) (by (with_reducible repeat (first | refine blk_drewN ?_ _ | refine blk_drew ?_ | refine blk_alloc ?_ _)); exact BK182.out)) : gb182 ≠ gb183)); have n6_ := Aside0.mk ((by rw [hg]; exact Nat.ne_of_gt (blk_lt (g := gb182) (o := .cells #[.int .i64 a1_0, .bool a1_1, .slice A1_2 l1_2.length c1_2] 24 (0, 0)) (by (with_reducible repeat (first | refine blk_drewN ?_ _ | refine blk_drew ?_ | refine blk_alloc ?_ _)); exact BK182.out)) : gb183 ≠ gb182)); clear BK182; clear HB; have BK182 := n0_; have HB := n1_; have BK183 := n2_; have GW183 := n3_; have GE183 := n4_; have NB182_183 := n5_; have NB183_182 := n6_; clear n0_ n1_ n2_ n3_ n4_ n5_ n6_; clear hb hbox hg) | ((with_reducible refine gate_dst (N := 6) rfl ?_); refine box_event ?hg (N := 6) ?hd (cs := #[.int .i64 0, .bool false, .slice none 0 0]) (t := 24) ?hr ?_; (case hd => rfl); (case hg => rfl); (case hr => first | (go_simp; done) | (go_simp; rfl)); intro gb184 hg w34 hbox hb; have n0_ := Aside0.mk (blk_below (g := gb182) (o := .cells #[.int .i64 a1_0, .bool a1_1, .slice A1_2 l1_2.length c1_2] 24 (0, 0)) (by (with_reducible repeat (first | refine blk_drewN ?_ _ | refine blk_drew ?_ | refine blk_alloc ?_ _)); exact BK182.out) hb); have n1_ := Aside0.mk (blk_below (g := gb183) (o := .cells #[.int .i64 a2_0, .int .i64 a2_1, .int .i64 a2_2, .bool a2_3] 26 (0, 0)) (by (with_reducible repeat (first | refine blk_drewN ?_ _ | refine blk_drew ?_ | refine blk_alloc ?_ _)); exact BK183.out) hb); have n2_ := Aside0.mk (below_step (by repeat (first | (with_reducible first | exact HB.out | apply below_alloc | apply pw_below_drewN | apply below_drew1 | refine below_set ?_ GE182.out | refine below_set ?_ GE183.out) | exact HB.out)) hb); have n3_ := Aside0.mk (hbox); have n4_ := Aside0.mk ((by rw [hg]; exact (below_size (by repeat (first | (with_reducible first | exact HB.out | apply below_alloc | apply pw_below_drewN | apply below_drew1 | refine below_set ?_ GE182.out | refine below_set ?_ GE183.out) | exact HB.out))) : w.heap.size ≤ gb184)); have n5_ := Aside0.mk ((by rw [hg]; exact (below_size (by repeat (first | (with_reducible first | exact HB.out | apply below_alloc | apply pw_below_drewN | apply below_drew1 | refine below_set ?_ GE182.out | refine below_set ?_ GE183.out) | exact HB.out))) : w.heap.size ≤ gb184)); have n6_ := Aside0.mk ((by rw [hg]; exact Nat.ne_of_lt (blk_lt (g := gb182) (o := .cells #[.int .i64 a1_0, .bool a1_1, .slice A1_2 l1_2.length c1_2] 24 (0, 0)) (by (with_reducible repeat (first | refine blk_drewN ?_ _ | refine blk_drew ?_ | refine blk_alloc ?_ _)); exact BK182.out)) : gb182 ≠ gb184)); have n7_ := Aside0.mk ((by rw [hg]; exact Nat.ne_of_gt (blk_lt (g := gb182) (o := .cells #[.int .i64 a1_0, .bool a1_1, .slice A1_2 l1_2.length c1_2] 24 (0, 0)) (by (with_reducible repeat (first | refine blk_drewN ?_ _ | refine blk_drew ?_ | refine blk_alloc ?_ _)); exact BK182.out)) : gb184 ≠ gb182)); have n8_ := Aside0.mk ((by rw [hg]; exact Nat.ne_of_lt (blk_lt (g := gb183) (o := .cells #[.int .i64 a2_0, .int .i64 a2_1, .int .i64 a2_2, .bool a2_3] 26 (0, 0)) (by (with_reducible repeat (first | refine blk_drewN ?_ _ | refine blk_drew ?_ | refine blk_alloc ?_ _)); exact BK183.out)) : gb183 ≠ gb184)); have n9_ := Aside0.mk ((by rw [hg]; exact Nat.ne_of_gt (blk_lt (g := gb183) (o := .cells #[.int .i64 a2_0, .int .i64 a2_1, .int .i64 a2_2, .bool a2_3] 26 (0, 0)) (by (with_reducible repeat (first | refine blk_drewN ?_ _ | refine blk_drew ?_ | refine blk_alloc ?_ _)); exact BK183.out)) : gb184 ≠ gb183)); clear BK182; clear BK183; clear HB; have BK182 := n0_; have BK183 := n1_; have HB := n2_; have BK184 := n3_; have GW184 := n4_; have GE184 := n5_; have NB182_184 := n6_; have NB184_182 := n7_; have NB183_184 := n8_; have NB184_183 := n9_; clear n0_ n1_ n2_ n3_ n4_ n5_ n6_ n7_ n8_ n9_; clear hb hbox hg; have hnb35 := NB183_182.out; have hnc35 := NB182_183.out; have hnb36 := NB183_184.out; have hnc36 := NB184_183.out; obtain ⟨hcz37_0, hcz37_1, hcz37_2, hcz37_3⟩ := cel4 BK183.out; obtain ⟨hfz37_0, hfz37_1, hfz37_2, hfz37_3⟩ := frz4 BK183.out; have hnb38 := NB182_184.out; have hnc38 := NB184_182.out; obtain ⟨hcz39_0, hcz39_1, hcz39_2⟩ := cel3 BK182.out; obtain ⟨hfz39_0, hfz39_1, hfz39_2⟩ := frz3 BK182.out) | ((with_reducible refine gate_callee (f := 18) rfl ?_); refine goesL_ (some 38) rfl rfl Try.func18 (by kernel_rfl) rfl #[.int .i64 a0, .agg #[.int .i64 a1_0, .bool a1_1, .slice A1_2 l1_2.length c1_2], .int .i64 a2_1] rfl (by (try simp only [List.map_toArray, List.map_cons, List.map_nil]); first | done | rfl | (simp only [List.length_drop, List.length_take]; rfl)) ?_; (with_reducible refine (toc_CloseTrack.calls a0 a1_0 a1_1 _ _ l1_2 a2_1 t197 t198 t199 t202 _ ?side1 ?side2 A31.out).mono ?_); (case side1 => repeat (first | exact (Kd.C_below HR1_2.out HB.out) | (with_reducible refine Kd.C_alloc ?_ _) | (with_reducible refine Kd.C_drewN ?_ _) | (with_reducible refine Kd.C_drew ?_))); (case side2 => exact HC1_2.out); rintro e w40 ⟨v200, rfl, ho0, hb⟩; refine ⟨_, rfl, ?_⟩; have n0_ := Aside0.mk (Kd.R_lower ho0 (below_size (by repeat (first | (with_reducible first | exact HB.out | apply below_alloc | apply pw_below_drewN | apply below_drew1 | refine below_set ?_ GE182.out | refine below_set ?_ GE183.out | refine below_set ?_ GE184.out) | exact HB.out)))); have n1_ := Aside0.mk (blk_below (g := gb182) (o := .cells #[.int .i64 a1_0, .bool a1_1, .slice A1_2 l1_2.length c1_2] 24 (0, 0)) (by (with_reducible repeat (first | refine blk_drewN ?_ _ | refine blk_drew ?_ | refine blk_alloc ?_ _)); exact BK182.out) hb); have n2_ := Aside0.mk (blk_below (g := gb183) (o := .cells #[.int .i64 a2_0, .int .i64 a2_1, .int .i64 a2_2, .bool a2_3] 26 (0, 0)) (by (with_reducible repeat (first | refine blk_drewN ?_ _ | refine blk_drew ?_ | refine blk_alloc ?_ _)); exact BK183.out) hb); have n3_ := Aside0.mk (blk_below (g := gb184) (o := .cells #[.int .i64 0, .bool false, .slice none 0 0] 24 (0, 0)) (by (with_reducible repeat (first | refine blk_drewN ?_ _ | refine blk_drew ?_ | refine blk_alloc ?_ _)); exact BK184.out) hb); have n4_ := Aside0.mk (below_step (by repeat (first | (with_reducible first | exact HB.out | apply below_alloc | apply pw_below_drewN | apply below_drew1 | refine below_set ?_ GE182.out | refine below_set ?_ GE183.out | refine below_set ?_ GE184.out) | exact HB.out)) hb); clear BK182; clear BK183; clear BK184; clear HB; have HO201 := n0_; have BK182 := n1_; have BK183 := n2_; have BK184 := n3_; have HB := n4_; clear n0_ n1_ n2_ n3_ n4_; (try clear hb); (try clear hb2); (try clear hk); (try clear hi); (try clear ho0); obtain ⟨hcz41_0, hcz41_1, hcz41_2⟩ := cel3 BK184.out; obtain ⟨hfz41_0, hfz41_1, hfz41_2⟩ := frz3 BK184.out; obtain ⟨Ao42, co42, eo42⟩ := Kd.R_slice HO201.out; subst eo42))
       refine bodyPost_ret (results_ct rfl _ _ gb184 24 #[.int .i64 t197, .bool t198, .slice Ao42 t199.length co42] (0, 0) _ rfl (by (with_reducible repeat (first | refine blk_drewN ?_ _ | refine blk_drew ?_ | refine blk_alloc ?_ _)); refine blk_put (cs := #[.int .i64 t197, .bool t198, .slice none 0 0]) ?_ 2 _ rfl; (with_reducible repeat (first | refine blk_drewN ?_ _ | refine blk_drew ?_ | refine blk_alloc ?_ _)); refine blk_put (cs := #[.int .i64 t197, .bool false, .slice none 0 0]) ?_ 1 _ rfl; (with_reducible repeat (first | refine blk_drewN ?_ _ | refine blk_drew ?_ | refine blk_alloc ?_ _)); refine blk_put (cs := #[.int .i64 0, .bool false, .slice none 0 0]) ?_ 0 _ rfl; (with_reducible repeat (first | refine blk_drewN ?_ _ | refine blk_drew ?_ | refine blk_alloc ?_ _)); exact BK184.out) Try.underlying24 rfl (by kernel_rfl)) rfl ?_
       exact ⟨_, by first | rfl | (simp [errW_none, errW_some] <;> rfl) | (simp [*, errW_none, errW_some] <;> rfl), by (with_reducible repeat (first | apply Kd.R_alloc | apply Kd.R_drewN | apply Kd.R_drew)); exact Kd.R_mono (Kd.R_far (p := ⟨gb184, 2, none⟩) (Kd.R_far (p := ⟨gb184, 1, none⟩) (Kd.R_far (p := ⟨gb184, 0, none⟩) (Kd.R_types HO201.out BK184.out (by decide)) (fun _ hk => hk.2) (.int .i64 t197)) (fun _ hk => hk.2) (.bool t198)) (fun _ hk => hk.2) (.slice Ao42 t199.length co42)) (fun _ hk => trivial), by repeat (first | (with_reducible first | exact HB.out | apply below_alloc | apply pw_below_drewN | apply below_drew1 | refine below_set ?_ GE182.out | refine below_set ?_ GE183.out | refine below_set ?_ GE184.out) | exact HB.out)⟩
     · rw [if_neg c30] at H
       have c30b0 : (a2_0 == 2) = false := beq_eq_false_iff_ne.mpr c30
       have c30b1 : (a2_0 != 2) = true := bne_iff_ne.mpr c30
       replace H := Option.bind_eq_some_iff.mp H
       obtain ⟨⟨t203, t204, t205, t208⟩, A430, H⟩ := H
       replace H : (some (t203, t204, t205, t208)) = some (r1, r2, r3, r4) := H
       have A43 := Aside0.mk A430
       clear A430
       simp only [Option.some.injEq, Prod.mk.injEq] at H
       obtain ⟨rfl, rfl, rfl, rfl⟩ := H
       go_enter Try.func8, Try.ntmps8
       go_wp2_with (first | ((with_reducible refine gate_dst (N := 4) rfl ?_); refine box_event ?hg (N := 4) ?hd (cs := #[.int .i64 a1_0, .bool a1_1, .slice A1_2 l1_2.length c1_2]) (t := 24) ?hr ?_; (case hd => rfl); (case hg => rfl); (case hr => first | (go_simp; done) | (go_simp; rfl)); intro gb182 hg w44 hbox hb; have n0_ := Aside0.mk (below_step (by repeat (first | (with_reducible first | exact HB.out | apply below_alloc | apply pw_below_drewN | apply below_drew1) | exact HB.out)) hb); have n1_ := Aside0.mk (hbox); have n2_ := Aside0.mk ((by rw [hg]; exact (below_size (by repeat (first | (with_reducible first | exact HB.out | apply below_alloc | apply pw_below_drewN | apply below_drew1) | exact HB.out))) : w.heap.size ≤ gb182)); have n3_ := Aside0.mk ((by rw [hg]; exact (below_size (by repeat (first | (with_reducible first | exact HB.out | apply below_alloc | apply pw_below_drewN | apply below_drew1) | exact HB.out))) : w.heap.size ≤ gb182)); clear HB; have HB := n0_; have BK182 := n1_; have GW182 := n2_; have GE182 := n3_; clear n0_ n1_ n2_ n3_; clear hb hbox hg) | ((with_reducible refine gate_dst (N := 5) rfl ?_); refine box_event ?hg (N := 5) ?hd (cs := #[.int .i64 a2_0, .int .i64 a2_1, .int .i64 a2_2, .bool a2_3]) (t := 26) ?hr ?_; (case hd => rfl); (case hg => rfl); (case hr => first | (go_simp; done) | (go_simp; rfl)); intro gb183 hg w45 hbox hb; have n0_ := Aside0.mk (blk_below (g := gb182) (o := .cells #[.int .i64 a1_0, .bool a1_1, .slice A1_2 l1_2.length c1_2] 24 (0, 0)) (by (with_reducible repeat (first | refine blk_drewN ?_ _ | refine blk_drew ?_ | refine blk_alloc ?_ _)); exact BK182.out) hb); have n1_ := Aside0.mk (below_step (by repeat (first | (with_reducible first | exact HB.out | apply below_alloc | apply pw_below_drewN | apply below_drew1 | refine below_set ?_ GE182.out) | exact HB.out)) hb); have n2_ := Aside0.mk (hbox); have n3_ := Aside0.mk ((by rw [hg]; exact (below_size (by repeat (first | (with_reducible first | exact HB.out | apply below_alloc | apply pw_below_drewN | apply below_drew1 | refine below_set ?_ GE182.out) | exact HB.out))) : w.heap.size ≤ gb183)); have n4_ := Aside0.mk ((by rw [hg]; exact (below_size (by repeat (first | (with_reducible first | exact HB.out | apply below_alloc | apply pw_below_drewN | apply below_drew1 | refine below_set ?_ GE182.out) | exact HB.out))) : w.heap.size ≤ gb183)); have n5_ := Aside0.mk ((by rw [hg]; exact Nat.ne_of_lt (blk_lt (g := gb182) (o := .cells #[.int .i64 a1_0, .bool a1_1, .slice A1_2 l1_2.length c1_2] 24 (0, 0)) (by (with_reducible repeat (first | refine blk_drewN ?_ _ | refine blk_drew ?_ | refine blk_alloc ?_ _)); exact BK182.out)) : gb182 ≠ gb183)); have n6_ := Aside0.mk ((by rw [hg]; exact Nat.ne_of_gt (blk_lt (g := gb182) (o := .cells #[.int .i64 a1_0, .bool a1_1, .slice A1_2 l1_2.length c1_2] 24 (0, 0)) (by (with_reducible repeat (first | refine blk_drewN ?_ _ | refine blk_drew ?_ | refine blk_alloc ?_ _)); exact BK182.out)) : gb183 ≠ gb182)); clear BK182; clear HB; have BK182 := n0_; have HB := n1_; have BK183 := n2_; have GW183 := n3_; have GE183 := n4_; have NB182_183 := n5_; have NB183_182 := n6_; clear n0_ n1_ n2_ n3_ n4_ n5_ n6_; clear hb hbox hg) | ((with_reducible refine gate_dst (N := 6) rfl ?_); refine box_event ?hg (N := 6) ?hd (cs := #[.int .i64 0, .bool false, .slice none 0 0]) (t := 24) ?hr ?_; (case hd => rfl); (case hg => rfl); (case hr => first | (go_simp; done) | (go_simp; rfl)); intro gb184 hg w46 hbox hb; have n0_ := Aside0.mk (blk_below (g := gb182) (o := .cells #[.int .i64 a1_0, .bool a1_1, .slice A1_2 l1_2.length c1_2] 24 (0, 0)) (by (with_reducible repeat (first | refine blk_drewN ?_ _ | refine blk_drew ?_ | refine blk_alloc ?_ _)); exact BK182.out) hb); have n1_ := Aside0.mk (blk_below (g := gb183) (o := .cells #[.int .i64 a2_0, .int .i64 a2_1, .int .i64 a2_2, .bool a2_3] 26 (0, 0)) (by (with_reducible repeat (first | refine blk_drewN ?_ _ | refine blk_drew ?_ | refine blk_alloc ?_ _)); exact BK183.out) hb); have n2_ := Aside0.mk (below_step (by repeat (first | (with_reducible first | exact HB.out | apply below_alloc | apply pw_below_drewN | apply below_drew1 | refine below_set ?_ GE182.out | refine below_set ?_ GE183.out) | exact HB.out)) hb); have n3_ := Aside0.mk (hbox); have n4_ := Aside0.mk ((by rw [hg]; exact (below_size (by repeat (first | (with_reducible first | exact HB.out | apply below_alloc | apply pw_below_drewN | apply below_drew1 | refine below_set ?_ GE182.out | refine below_set ?_ GE183.out) | exact HB.out))) : w.heap.size ≤ gb184)); have n5_ := Aside0.mk ((by rw [hg]; exact (below_size (by repeat (first | (with_reducible first | exact HB.out | apply below_alloc | apply pw_below_drewN | apply below_drew1 | refine below_set ?_ GE182.out | refine below_set ?_ GE183.out) | exact HB.out))) : w.heap.size ≤ gb184)); have n6_ := Aside0.mk ((by rw [hg]; exact Nat.ne_of_lt (blk_lt (g := gb182) (o := .cells #[.int .i64 a1_0, .bool a1_1, .slice A1_2 l1_2.length c1_2] 24 (0, 0)) (by (with_reducible repeat (first | refine blk_drewN ?_ _ | refine blk_drew ?_ | refine blk_alloc ?_ _)); exact BK182.out)) : gb182 ≠ gb184)); have n7_ := Aside0.mk ((by rw [hg]; exact Nat.ne_of_gt (blk_lt (g := gb182) (o := .cells #[.int .i64 a1_0, .bool a1_1, .slice A1_2 l1_2.length c1_2] 24 (0, 0)) (by (with_reducible repeat (first | refine blk_drewN ?_ _ | refine blk_drew ?_ | refine blk_alloc ?_ _)); exact BK182.out)) : gb184 ≠ gb182)); have n8_ := Aside0.mk ((by rw [hg]; exact Nat.ne_of_lt (blk_lt (g := gb183) (o := .cells #[.int .i64 a2_0, .int .i64 a2_1, .int .i64 a2_2, .bool a2_3] 26 (0, 0)) (by (with_reducible repeat (first | refine blk_drewN ?_ _ | refine blk_drew ?_ | refine blk_alloc ?_ _)); exact BK183.out)) : gb183 ≠ gb184)); have n9_ := Aside0.mk ((by rw [hg]; exact Nat.ne_of_gt (blk_lt (g := gb183) (o := .cells #[.int .i64 a2_0, .int .i64 a2_1, .int .i64 a2_2, .bool a2_3] 26 (0, 0)) (by (with_reducible repeat (first | refine blk_drewN ?_ _ | refine blk_drew ?_ | refine blk_alloc ?_ _)); exact BK183.out)) : gb184 ≠ gb183)); clear BK182; clear BK183; clear HB; have BK182 := n0_; have BK183 := n1_; have HB := n2_; have BK184 := n3_; have GW184 := n4_; have GE184 := n5_; have NB182_184 := n6_; have NB184_182 := n7_; have NB183_184 := n8_; have NB184_183 := n9_; clear n0_ n1_ n2_ n3_ n4_ n5_ n6_ n7_ n8_ n9_; clear hb hbox hg; have hnb47 := NB183_182.out; have hnc47 := NB182_183.out; have hnb48 := NB183_184.out; have hnc48 := NB184_183.out; obtain ⟨hcz49_0, hcz49_1, hcz49_2, hcz49_3⟩ := cel4 BK183.out; obtain ⟨hfz49_0, hfz49_1, hfz49_2, hfz49_3⟩ := frz4 BK183.out; have hnb50 := NB182_184.out; have hnc50 := NB184_182.out; obtain ⟨hcz51_0, hcz51_1, hcz51_2⟩ := cel3 BK182.out; obtain ⟨hfz51_0, hfz51_1, hfz51_2⟩ := frz3 BK182.out) | ((with_reducible refine gate_callee (f := 19) rfl ?_); refine goesL_ (some 45) rfl rfl Try.func19 (by kernel_rfl) rfl #[.int .i64 a0, .agg #[.int .i64 a1_0, .bool a1_1, .slice A1_2 l1_2.length c1_2], .bool a2_3] rfl (by (try simp only [List.map_toArray, List.map_cons, List.map_nil]); first | done | rfl | (simp only [List.length_drop, List.length_take]; rfl)) ?_; (with_reducible refine (toc_CloseSession.calls a0 a1_0 a1_1 _ _ l1_2 a2_3 t203 t204 t205 t208 _ ?side1 ?side2 A43.out).mono ?_); (case side1 => repeat (first | exact (Kd.C_below HR1_2.out HB.out) | (with_reducible refine Kd.C_alloc ?_ _) | (with_reducible refine Kd.C_drewN ?_ _) | (with_reducible refine Kd.C_drew ?_))); (case side2 => exact HC1_2.out); rintro e w52 ⟨v206, rfl, ho0, hb⟩; refine ⟨_, rfl, ?_⟩; have n0_ := Aside0.mk (Kd.R_lower ho0 (below_size (by repeat (first | (with_reducible first | exact HB.out | apply below_alloc | apply pw_below_drewN | apply below_drew1 | refine below_set ?_ GE182.out | refine below_set ?_ GE183.out | refine below_set ?_ GE184.out) | exact HB.out)))); have n1_ := Aside0.mk (blk_below (g := gb182) (o := .cells #[.int .i64 a1_0, .bool a1_1, .slice A1_2 l1_2.length c1_2] 24 (0, 0)) (by (with_reducible repeat (first | refine blk_drewN ?_ _ | refine blk_drew ?_ | refine blk_alloc ?_ _)); exact BK182.out) hb); have n2_ := Aside0.mk (blk_below (g := gb183) (o := .cells #[.int .i64 a2_0, .int .i64 a2_1, .int .i64 a2_2, .bool a2_3] 26 (0, 0)) (by (with_reducible repeat (first | refine blk_drewN ?_ _ | refine blk_drew ?_ | refine blk_alloc ?_ _)); exact BK183.out) hb); have n3_ := Aside0.mk (blk_below (g := gb184) (o := .cells #[.int .i64 0, .bool false, .slice none 0 0] 24 (0, 0)) (by (with_reducible repeat (first | refine blk_drewN ?_ _ | refine blk_drew ?_ | refine blk_alloc ?_ _)); exact BK184.out) hb); have n4_ := Aside0.mk (below_step (by repeat (first | (with_reducible first | exact HB.out | apply below_alloc | apply pw_below_drewN | apply below_drew1 | refine below_set ?_ GE182.out | refine below_set ?_ GE183.out | refine below_set ?_ GE184.out) | exact HB.out)) hb); clear BK182; clear BK183; clear BK184; clear HB; have HO207 := n0_; have BK182 := n1_; have BK183 := n2_; have BK184 := n3_; have HB := n4_; clear n0_ n1_ n2_ n3_ n4_; (try clear hb); (try clear hb2); (try clear hk); (try clear hi); (try clear ho0); obtain ⟨hcz53_0, hcz53_1, hcz53_2⟩ := cel3 BK184.out; obtain ⟨hfz53_0, hfz53_1, hfz53_2⟩ := frz3 BK184.out; obtain ⟨Ao54, co54, eo54⟩ := Kd.R_slice HO207.out; subst eo54))
       refine bodyPost_ret (results_ct rfl _ _ gb184 24 #[.int .i64 t203, .bool t204, .slice Ao54 t205.length co54] (0, 0) _ rfl (by (with_reducible repeat (first | refine blk_drewN ?_ _ | refine blk_drew ?_ | refine blk_alloc ?_ _)); refine blk_put (cs := #[.int .i64 t203, .bool t204, .slice none 0 0]) ?_ 2 _ rfl; (with_reducible repeat (first | refine blk_drewN ?_ _ | refine blk_drew ?_ | refine blk_alloc ?_ _)); refine blk_put (cs := #[.int .i64 t203, .bool false, .slice none 0 0]) ?_ 1 _ rfl; (with_reducible repeat (first | refine blk_drewN ?_ _ | refine blk_drew ?_ | refine blk_alloc ?_ _)); refine blk_put (cs := #[.int .i64 0, .bool false, .slice none 0 0]) ?_ 0 _ rfl; (with_reducible repeat (first | refine blk_drewN ?_ _ | refine blk_drew ?_ | refine blk_alloc ?_ _)); exact BK184.out) Try.underlying24 rfl (by kernel_rfl)) rfl ?_
       exact ⟨_, by first | rfl | (simp [errW_none, errW_some] <;> rfl) | (simp [*, errW_none, errW_some] <;> rfl), by (with_reducible repeat (first | apply Kd.R_alloc | apply Kd.R_drewN | apply Kd.R_drew)); exact Kd.R_mono (Kd.R_far (p := ⟨gb184, 2, none⟩) (Kd.R_far (p := ⟨gb184, 1, none⟩) (Kd.R_far (p := ⟨gb184, 0, none⟩) (Kd.R_types HO207.out BK184.out (by decide)) (fun _ hk => hk.2) (.int .i64 t203)) (fun _ hk => hk.2) (.bool t204)) (fun _ hk => hk.2) (.slice Ao54 t205.length co54)) (fun _ hk => trivial), by repeat (first | (with_reducible first | exact HB.out | apply below_alloc | apply pw_below_drewN | apply below_drew1 | refine below_set ?_ GE182.out | refine below_set ?_ GE183.out | refine below_set ?_ GE184.out) | exact HB.out)⟩
end Go.Proofs.Ytjhepdcdhabcjaa.G
namespace Go.Proofs.Ytjhepdcdhabcjaa.G
open Go.RowKit Go.Proofs.YtjhepdcdhabcjaaW.PrintWords Go.Proofs.YtjhepdcdhabcjaaW.PrintLast Go.Proofs.YtjhepdcdhabcjaaW.PrintMore
attribute [local go_sem] max2_int min2_int max_two min_two max_three min_three max_four min_four   -- for this text's walks alone
set_option linter.unusedVariables false
set_option linter.unusedSimpArgs false
attribute [local go_sem high] eqA40
def masterdisclaw14_awake.f (k : Nat)  : Option (Bool) := (toc_Reserve.f k 400 0 false ([] : List (S40)) 100 0).bind fun bt141 => (if bt141.2.2.2 = 0 then ((toc_Append.f k 400 bt141.1 bt141.2.1 bt141.2.2.1 0 40).bind fun bt148 => (if bt148.2.2.2 = 0 then ((toc_CloseTrack.f 400 bt148.1 bt148.2.1 bt148.2.2.1 1).bind fun bt154 => (if bt154.2.2.2 = 0 then ((toc_CloseSession.f 400 bt154.1 bt154.2.1 bt154.2.2.1 false).bind fun bt160 => (if bt160.2.2.2 = 0 then ((toc_Reserve.f k 400 bt160.1 bt160.2.1 bt160.2.2.1 10 0).bind fun bt166 => (if bt166.2.2.2 = 0 then (if (bt166.2.2.1.length : Int) = 2 then (if 0 < (bt166.2.2.1.length : Int) then (if ((rd_T40 bt166.2.2.1 0).f3) = 40 then (if 1 < (bt166.2.2.1.length : Int) then (some (((rd_T40 bt166.2.2.1 1).f0) == 2 && (((rd_T40 bt166.2.2.1 1).f1) == 2 && (((rd_T40 bt166.2.2.1 1).f2) == 56 && (((rd_T40 bt166.2.2.1 1).f3) == 10 && (((rd_T40 bt166.2.2.1 1).f4) == 56 && (((rd_T40 bt166.2.2.1 1).f5) == 0 && (((rd_T40 bt166.2.2.1 1).f6) == 0)))))))) else (none)) else (none)) else (none)) else (none)) else (none))) else (none))) else (none))) else (none))) else (none))
theorem masterdisclaw14_awake.mono : ∀ k, LeO (masterdisclaw14_awake.f k ) (masterdisclaw14_awake.f (k + 1) ) := by
 intro  k
 unfold masterdisclaw14_awake.f
 repeat' first
  | (with_reducible exact toc_Append.mono _ _ _ _ _ _ _)
  | (with_reducible exact toc_Reserve.mono _ _ _ _ _ _ _)
  | (with_reducible exact LeO.refl _)
  | (with_reducible exact LeO.none _)
  | (with_reducible refine LeO.ite ?_ ?_)
  | (with_reducible refine LeO.bind ?_ (fun _ => ?_))
  | exact toc_Append.mono _ _ _ _ _ _ _
  | exact toc_Reserve.mono _ _ _ _ _ _ _
  | exact LeO.none _
  | refine LeO.ite ?_ ?_
  | refine LeO.bind ?_ (fun _ => ?_)
set_option maxHeartbeats 8000000 in
set_option maxRecDepth 100000 in
theorem masterdisclaw14_awake.calls (k : Nat)  (r : Bool) (w : World) (h : masterdisclaw14_awake.f k  = some r) :
 Calls Try.prog 6 #[] w fun e w' => e = .returned (.bool r) ∧ Below w.heap.size w w' := by
 have hu24 := Try.underlying24
 have hu40 := Try.underlying40
 have HB := Aside0.mk (Below.refl w.heap.size w)
 have H : ((toc_Reserve.f k 400 0 false ([] : List (S40)) 100 0).bind fun bt141 => (if bt141.2.2.2 = 0 then ((toc_Append.f k 400 bt141.1 bt141.2.1 bt141.2.2.1 0 40).bind fun bt148 => (if bt148.2.2.2 = 0 then ((toc_CloseTrack.f 400 bt148.1 bt148.2.1 bt148.2.2.1 1).bind fun bt154 => (if bt154.2.2.2 = 0 then ((toc_CloseSession.f 400 bt154.1 bt154.2.1 bt154.2.2.1 false).bind fun bt160 => (if bt160.2.2.2 = 0 then ((toc_Reserve.f k 400 bt160.1 bt160.2.1 bt160.2.2.1 10 0).bind fun bt166 => (if bt166.2.2.2 = 0 then (if (bt166.2.2.1.length : Int) = 2 then (if 0 < (bt166.2.2.1.length : Int) then (if ((rd_T40 bt166.2.2.1 0).f3) = 40 then (if 1 < (bt166.2.2.1.length : Int) then (some (((rd_T40 bt166.2.2.1 1).f0) == 2 && (((rd_T40 bt166.2.2.1 1).f1) == 2 && (((rd_T40 bt166.2.2.1 1).f2) == 56 && (((rd_T40 bt166.2.2.1 1).f3) == 10 && (((rd_T40 bt166.2.2.1 1).f4) == 56 && (((rd_T40 bt166.2.2.1 1).f5) == 0 && (((rd_T40 bt166.2.2.1 1).f6) == 0)))))))) else (none)) else (none)) else (none)) else (none)) else (none))) else (none))) else (none))) else (none))) else (none))) = some r := h
 clear h
 replace H := Option.bind_eq_some_iff.mp H
 obtain ⟨⟨t141, t142, t143, t146⟩, A10, H⟩ := H
 replace H : (if t146 = 0 then ((toc_Append.f k 400 t141 t142 t143 0 40).bind fun bt148 => (if bt148.2.2.2 = 0 then ((toc_CloseTrack.f 400 bt148.1 bt148.2.1 bt148.2.2.1 1).bind fun bt154 => (if bt154.2.2.2 = 0 then ((toc_CloseSession.f 400 bt154.1 bt154.2.1 bt154.2.2.1 false).bind fun bt160 => (if bt160.2.2.2 = 0 then ((toc_Reserve.f k 400 bt160.1 bt160.2.1 bt160.2.2.1 10 0).bind fun bt166 => (if bt166.2.2.2 = 0 then (if (bt166.2.2.1.length : Int) = 2 then (if 0 < (bt166.2.2.1.length : Int) then (if ((rd_T40 bt166.2.2.1 0).f3) = 40 then (if 1 < (bt166.2.2.1.length : Int) then (some (((rd_T40 bt166.2.2.1 1).f0) == 2 && (((rd_T40 bt166.2.2.1 1).f1) == 2 && (((rd_T40 bt166.2.2.1 1).f2) == 56 && (((rd_T40 bt166.2.2.1 1).f3) == 10 && (((rd_T40 bt166.2.2.1 1).f4) == 56 && (((rd_T40 bt166.2.2.1 1).f5) == 0 && (((rd_T40 bt166.2.2.1 1).f6) == 0)))))))) else (none)) else (none)) else (none)) else (none)) else (none))) else (none))) else (none))) else (none))) else (none)) = some r := H
 have A1 := Aside0.mk A10
 clear A10
 by_cases c2 : t146 = 0
 · rw [if_pos c2] at H
   have c2b0 : (t146 == 0) = true := beq_iff_eq.mpr c2
   have c2b1 : (t146 != 0) = false := bne_eq_false_iff_eq.mpr c2
   clear c2
   replace H := Option.bind_eq_some_iff.mp H
   obtain ⟨⟨t148, t149, t150, t153⟩, A30, H⟩ := H
   replace H : (if t153 = 0 then ((toc_CloseTrack.f 400 t148 t149 t150 1).bind fun bt154 => (if bt154.2.2.2 = 0 then ((toc_CloseSession.f 400 bt154.1 bt154.2.1 bt154.2.2.1 false).bind fun bt160 => (if bt160.2.2.2 = 0 then ((toc_Reserve.f k 400 bt160.1 bt160.2.1 bt160.2.2.1 10 0).bind fun bt166 => (if bt166.2.2.2 = 0 then (if (bt166.2.2.1.length : Int) = 2 then (if 0 < (bt166.2.2.1.length : Int) then (if ((rd_T40 bt166.2.2.1 0).f3) = 40 then (if 1 < (bt166.2.2.1.length : Int) then (some (((rd_T40 bt166.2.2.1 1).f0) == 2 && (((rd_T40 bt166.2.2.1 1).f1) == 2 && (((rd_T40 bt166.2.2.1 1).f2) == 56 && (((rd_T40 bt166.2.2.1 1).f3) == 10 && (((rd_T40 bt166.2.2.1 1).f4) == 56 && (((rd_T40 bt166.2.2.1 1).f5) == 0 && (((rd_T40 bt166.2.2.1 1).f6) == 0)))))))) else (none)) else (none)) else (none)) else (none)) else (none))) else (none))) else (none))) else (none)) = some r := H
   have A3 := Aside0.mk A30
   clear A30
   by_cases c4 : t153 = 0
   · rw [if_pos c4] at H
     have c4b0 : (t153 == 0) = true := beq_iff_eq.mpr c4
     have c4b1 : (t153 != 0) = false := bne_eq_false_iff_eq.mpr c4
     clear c4
     replace H := Option.bind_eq_some_iff.mp H
     obtain ⟨⟨t154, t155, t156, t159⟩, A50, H⟩ := H
     replace H : (if t159 = 0 then ((toc_CloseSession.f 400 t154 t155 t156 false).bind fun bt160 => (if bt160.2.2.2 = 0 then ((toc_Reserve.f k 400 bt160.1 bt160.2.1 bt160.2.2.1 10 0).bind fun bt166 => (if bt166.2.2.2 = 0 then (if (bt166.2.2.1.length : Int) = 2 then (if 0 < (bt166.2.2.1.length : Int) then (if ((rd_T40 bt166.2.2.1 0).f3) = 40 then (if 1 < (bt166.2.2.1.length : Int) then (some (((rd_T40 bt166.2.2.1 1).f0) == 2 && (((rd_T40 bt166.2.2.1 1).f1) == 2 && (((rd_T40 bt166.2.2.1 1).f2) == 56 && (((rd_T40 bt166.2.2.1 1).f3) == 10 && (((rd_T40 bt166.2.2.1 1).f4) == 56 && (((rd_T40 bt166.2.2.1 1).f5) == 0 && (((rd_T40 bt166.2.2.1 1).f6) == 0)))))))) else (none)) else (none)) else (none)) else (none)) else (none))) else (none))) else (none)) = some r := H
     have A5 := Aside0.mk A50
     clear A50
     by_cases c6 : t159 = 0
     · rw [if_pos c6] at H
       have c6b0 : (t159 == 0) = true := beq_iff_eq.mpr c6
       have c6b1 : (t159 != 0) = false := bne_eq_false_iff_eq.mpr c6
       clear c6
       replace H := Option.bind_eq_some_iff.mp H
       obtain ⟨⟨t160, t161, t162, t165⟩, A70, H⟩ := H
       replace H : (if t165 = 0 then ((toc_Reserve.f k 400 t160 t161 t162 10 0).bind fun bt166 => (if bt166.2.2.2 = 0 then (if (bt166.2.2.1.length : Int) = 2 then (if 0 < (bt166.2.2.1.length : Int) then (if ((rd_T40 bt166.2.2.1 0).f3) = 40 then (if 1 < (bt166.2.2.1.length : Int) then (some (((rd_T40 bt166.2.2.1 1).f0) == 2 && (((rd_T40 bt166.2.2.1 1).f1) == 2 && (((rd_T40 bt166.2.2.1 1).f2) == 56 && (((rd_T40 bt166.2.2.1 1).f3) == 10 && (((rd_T40 bt166.2.2.1 1).f4) == 56 && (((rd_T40 bt166.2.2.1 1).f5) == 0 && (((rd_T40 bt166.2.2.1 1).f6) == 0)))))))) else (none)) else (none)) else (none)) else (none)) else (none))) else (none)) = some r := H
       have A7 := Aside0.mk A70
       clear A70
       by_cases c8 : t165 = 0
       · rw [if_pos c8] at H
         have c8b0 : (t165 == 0) = true := beq_iff_eq.mpr c8
         have c8b1 : (t165 != 0) = false := bne_eq_false_iff_eq.mpr c8
         clear c8
         replace H := Option.bind_eq_some_iff.mp H
         obtain ⟨⟨t166, t167, t168, t171⟩, A90, H⟩ := H
         replace H : (if t171 = 0 then (if (t168.length : Int) = 2 then (if 0 < (t168.length : Int) then (if ((rd_T40 t168 0).f3) = 40 then (if 1 < (t168.length : Int) then (some (((rd_T40 t168 1).f0) == 2 && (((rd_T40 t168 1).f1) == 2 && (((rd_T40 t168 1).f2) == 56 && (((rd_T40 t168 1).f3) == 10 && (((rd_T40 t168 1).f4) == 56 && (((rd_T40 t168 1).f5) == 0 && (((rd_T40 t168 1).f6) == 0)))))))) else (none)) else (none)) else (none)) else (none)) else (none)) = some r := H
         have A9 := Aside0.mk A90
         clear A90
         by_cases c10 : t171 = 0
         · rw [if_pos c10] at H
           have c10b0 : (t171 == 0) = true := beq_iff_eq.mpr c10
           have c10b1 : (t171 != 0) = false := bne_eq_false_iff_eq.mpr c10
           clear c10
           by_cases c11 : (t168.length : Int) = 2
           · rw [if_pos c11] at H
             have c11b0 : ((t168.length : Int) == 2) = true := beq_iff_eq.mpr c11
             have c11b1 : ((t168.length : Int) != 2) = false := bne_eq_false_iff_eq.mpr c11
             clear c11
             by_cases c12 : 0 < (t168.length : Int)
             · rw [if_pos c12] at H
               have c12b0 : decide (0 < (t168.length : Int)) = true := decide_eq_true c12
               have c12b1 : decide (0 < t168.length) = true := decide_eq_true (by omega)
               clear c12
               by_cases c13 : ((rd_T40 t168 0).f3) = 40
               · rw [if_pos c13] at H
                 have c13b0 : (((rd_T40 t168 0).f3) == 40) = true := beq_iff_eq.mpr c13
                 have c13b1 : (((rd_T40 t168 0).f3) != 40) = false := bne_eq_false_iff_eq.mpr c13
                 clear c13
                 by_cases c14 : 1 < (t168.length : Int)
                 · rw [if_pos c14] at H
                   have c14b0 : decide (1 < (t168.length : Int)) = true := decide_eq_true c14
                   have c14b1 : decide (1 < t168.length) = true := decide_eq_true (by omega)
                   clear c14
                   obtain rfl := Option.some.inj H
                   go_enter Try.func6, Try.ntmps6
                   go_wp2_with (first | ((with_reducible refine gate_callee (f := 16) rfl ?_); refine goesL_ (some 5) rfl rfl Try.func16 (by kernel_rfl) rfl #[.int .i64 400, .agg #[.int .i64 0, .bool false, .slice none 0 0], .int .i64 100, .int .i64 0] rfl (by (try simp only [List.map_toArray, List.map_cons, List.map_nil]); first | done | rfl | (simp only [List.length_drop, List.length_take]; rfl)) ?_; (refine (toc_Reserve.calls k 400 0 false _ _ ([] : List (S40)) 100 0 t141 t142 t143 t146 _ ?side1 ?side2 A1.out).mono ?_); (case side1 => exact Kd.C_nil _ _); (case side2 => exact Nat.le_refl _); rintro e w15 ⟨v144, rfl, ho0, hb⟩; refine ⟨_, rfl, ?_⟩; have n0_ := Aside0.mk (Kd.R_lower ho0 (below_size (by repeat (first | (with_reducible first | exact HB.out | apply below_alloc | apply pw_below_drewN | apply below_drew1) | exact HB.out)))); have n1_ := Aside0.mk (below_step (by repeat (first | (with_reducible first | exact HB.out | apply below_alloc | apply pw_below_drewN | apply below_drew1) | exact HB.out)) hb); clear HB; have HO145 := n0_; have HB := n1_; clear n0_ n1_; (try clear hb); (try clear hb2); (try clear hk); (try clear hi); (try clear ho0)) | ((with_reducible refine gate_dst (N := 1) rfl ?_); (try (refine gate_guard (by rfl) ?_; dsimp only)); refine box_event ?hg (N := 1) ?hd (cs := #[.int .i64 0, .bool false, .slice none 0 0]) (t := 24) ?hr ?_; (case hd => rfl); (case hg => rfl); (case hr => first | (go_simp; done) | (go_simp; rfl)); intro gb147 hg w16 hbox hb; have n0_ := Aside0.mk (Kd.R_below (by (with_reducible repeat (first | apply Kd.R_alloc | apply Kd.R_drewN | apply Kd.R_drew)); exact HO145.out) hb); have n1_ := Aside0.mk (below_step (by repeat (first | (with_reducible first | exact HB.out | apply below_alloc | apply pw_below_drewN | apply below_drew1) | exact HB.out)) hb); have n2_ := Aside0.mk (hbox); have n3_ := Aside0.mk ((by rw [hg]; exact (below_size (by repeat (first | (with_reducible first | exact HB.out | apply below_alloc | apply pw_below_drewN | apply below_drew1) | exact HB.out))) : w.heap.size ≤ gb147)); have n4_ := Aside0.mk ((by rw [hg]; exact (below_size (by repeat (first | (with_reducible first | exact HB.out | apply below_alloc | apply pw_below_drewN | apply below_drew1) | exact HB.out))) : w.heap.size ≤ gb147)); clear HO145; clear HB; have HO145 := n0_; have HB := n1_; have BK147 := n2_; have GW147 := n3_; have GE147 := n4_; clear n0_ n1_ n2_ n3_ n4_; clear hb hbox hg; obtain ⟨hcz17_0, hcz17_1, hcz17_2⟩ := cel3 BK147.out; obtain ⟨hfz17_0, hfz17_1, hfz17_2⟩ := frz3 BK147.out; obtain ⟨Ao18, co18, eo18⟩ := Kd.R_slice HO145.out; subst eo18) | ((with_reducible refine gate_callee (f := 17) rfl ?_); refine goesL_ (some 12) rfl rfl Try.func17 (by kernel_rfl) rfl #[.int .i64 400, .agg #[.int .i64 t141, .bool t142, .slice Ao18 t143.length co18], .int .i64 0, .int .i64 40] rfl (by (try simp only [List.map_toArray, List.map_cons, List.map_nil]); first | done | rfl | (simp only [List.length_drop, List.length_take]; rfl)) ?_; (with_reducible refine (toc_Append.calls k 400 t141 t142 _ _ t143 0 40 t148 t149 t150 t153 _ ?side1 ?side2 A3.out).mono ?_); (case side1 => refine (Kd.R_reads' (e := 40) (base := w.heap.size) (ok := fun k_ => True) (n := t143.length) (c := co18) ?_).2.2; exact (by (with_reducible repeat (first | apply Kd.R_alloc | apply Kd.R_drewN | apply Kd.R_drew)); exact (Kd.R_mono (Kd.R_far (p := ⟨gb147, 2, none⟩) (Kd.R_far (p := ⟨gb147, 1, none⟩) (Kd.R_far (p := ⟨gb147, 0, none⟩) (Kd.R_types HO145.out BK147.out (by decide)) (fun _ hk => hk.2) (.int .i64 t141)) (fun _ hk => hk.2) (.bool t142)) (fun _ hk => hk.2) (.slice Ao18 t143.length co18)) (fun _ h_ => h_.1)))); (case side2 => exact (Kd.R_reads' HO145.out).2.1); rintro e w19 ⟨v151, rfl, ho0, hb⟩; refine ⟨_, rfl, ?_⟩; have n0_ := Aside0.mk (Kd.R_elder' (by (with_reducible repeat (first | apply Kd.R_alloc | apply Kd.R_drewN | apply Kd.R_drew)); exact (Kd.R_mono (Kd.R_far (p := ⟨gb147, 2, none⟩) (Kd.R_far (p := ⟨gb147, 1, none⟩) (Kd.R_far (p := ⟨gb147, 0, none⟩) (Kd.R_types HO145.out BK147.out (by decide)) (fun _ hk => hk.2) (.int .i64 t141)) (fun _ hk => hk.2) (.bool t142)) (fun _ hk => hk.2) (.slice Ao18 t143.length co18)) (fun _ h_ => h_.1))) (Kd.R_base ho0) hb); have n1_ := Aside0.mk (Kd.R_lower (Kd.R_new' ho0 (Kd.R_lt (by (with_reducible repeat (first | apply Kd.R_alloc | apply Kd.R_drewN | apply Kd.R_drew)); exact (Kd.R_mono (Kd.R_far (p := ⟨gb147, 2, none⟩) (Kd.R_far (p := ⟨gb147, 1, none⟩) (Kd.R_far (p := ⟨gb147, 0, none⟩) (Kd.R_types HO145.out BK147.out (by decide)) (fun _ hk => hk.2) (.int .i64 t141)) (fun _ hk => hk.2) (.bool t142)) (fun _ hk => hk.2) (.slice Ao18 t143.length co18)) (fun _ h_ => h_.1))))) (below_size (by repeat (first | (with_reducible first | exact HB.out | apply below_alloc | apply pw_below_drewN | apply below_drew1 | refine below_set ?_ GE147.out) | exact HB.out)))); have n2_ := Aside0.mk (blk_below (g := gb147) (o := .cells #[.int .i64 t141, .bool t142, .slice Ao18 t143.length co18] 24 (0, 0)) (by (with_reducible repeat (first | refine blk_drewN ?_ _ | refine blk_drew ?_ | refine blk_alloc ?_ _)); refine blk_put (cs := #[.int .i64 t141, .bool t142, .slice none 0 0]) ?_ 2 _ rfl; (with_reducible repeat (first | refine blk_drewN ?_ _ | refine blk_drew ?_ | refine blk_alloc ?_ _)); refine blk_put (cs := #[.int .i64 t141, .bool false, .slice none 0 0]) ?_ 1 _ rfl; (with_reducible repeat (first | refine blk_drewN ?_ _ | refine blk_drew ?_ | refine blk_alloc ?_ _)); refine blk_put (cs := #[.int .i64 0, .bool false, .slice none 0 0]) ?_ 0 _ rfl; (with_reducible repeat (first | refine blk_drewN ?_ _ | refine blk_drew ?_ | refine blk_alloc ?_ _)); exact BK147.out) hb); have n3_ := Aside0.mk (below_step (by repeat (first | (with_reducible first | exact HB.out | apply below_alloc | apply pw_below_drewN | apply below_drew1 | refine below_set ?_ GE147.out) | exact HB.out)) hb); clear HO145; clear BK147; clear HB; have HO145 := n0_; have HO152 := n1_; have BK147 := n2_; have HB := n3_; clear n0_ n1_ n2_ n3_; (try clear hb); (try clear hb2); (try clear hk); (try clear hi); (try clear ho0); obtain ⟨hcz20_0, hcz20_1, hcz20_2⟩ := cel3 BK147.out; obtain ⟨hfz20_0, hfz20_1, hfz20_2⟩ := frz3 BK147.out; obtain ⟨Ao21, co21, eo21⟩ := Kd.R_slice HO152.out; subst eo21) | ((with_reducible refine gate_callee (f := 18) rfl ?_); refine goesL_ (some 19) rfl rfl Try.func18 (by kernel_rfl) rfl #[.int .i64 400, .agg #[.int .i64 t148, .bool t149, .slice Ao21 t150.length co21], .int .i64 1] rfl (by (try simp only [List.map_toArray, List.map_cons, List.map_nil]); first | done | rfl | (simp only [List.length_drop, List.length_take]; rfl)) ?_; (with_reducible refine (toc_CloseTrack.calls 400 t148 t149 _ _ t150 1 t154 t155 t156 t159 _ ?side1 ?side2 A5.out).mono ?_); (case side1 => refine (Kd.R_reads' (e := 40) (base := w.heap.size) (ok := fun k_ => (True ∧ some k_ ≠ (.slice Ao18 t143.length co18 : Value).ownBlock)) (n := t150.length) (c := co21) ?_).2.2; exact (by (with_reducible repeat (first | apply Kd.R_alloc | apply Kd.R_drewN | apply Kd.R_drew)); exact (Kd.R_mono (Kd.R_far (p := ⟨gb147, 2, none⟩) (Kd.R_far (p := ⟨gb147, 1, none⟩) (Kd.R_far (p := ⟨gb147, 0, none⟩) (Kd.R_types HO152.out BK147.out (by decide)) (fun _ hk => hk.2) (.int .i64 t148)) (fun _ hk => hk.2) (.bool t149)) (fun _ hk => hk.2) (.slice Ao21 t150.length co21)) (fun _ h_ => h_.1)))); (case side2 => exact (Kd.R_reads' HO152.out).2.1); rintro e w22 ⟨v157, rfl, ho0, hb⟩; refine ⟨_, rfl, ?_⟩; have n0_ := Aside0.mk (Kd.R_elder' (by (with_reducible repeat (first | apply Kd.R_alloc | apply Kd.R_drewN | apply Kd.R_drew)); exact (Kd.R_mono (Kd.R_far (p := ⟨gb147, 2, none⟩) (Kd.R_far (p := ⟨gb147, 1, none⟩) (Kd.R_far (p := ⟨gb147, 0, none⟩) (Kd.R_types HO145.out BK147.out (by decide)) (fun _ hk => hk.2) (.int .i64 t148)) (fun _ hk => hk.2) (.bool t149)) (fun _ hk => hk.2) (.slice Ao21 t150.length co21)) (fun _ h_ => h_.1))) (Kd.R_base ho0) hb); have n1_ := Aside0.mk (Kd.R_elder' (by (with_reducible repeat (first | apply Kd.R_alloc | apply Kd.R_drewN | apply Kd.R_drew)); exact (Kd.R_mono (Kd.R_far (p := ⟨gb147, 2, none⟩) (Kd.R_far (p := ⟨gb147, 1, none⟩) (Kd.R_far (p := ⟨gb147, 0, none⟩) (Kd.R_types HO152.out BK147.out (by decide)) (fun _ hk => hk.2) (.int .i64 t148)) (fun _ hk => hk.2) (.bool t149)) (fun _ hk => hk.2) (.slice Ao21 t150.length co21)) (fun _ h_ => h_.1))) (Kd.R_base ho0) hb); have n2_ := Aside0.mk (Kd.R_lower (Kd.R_new' (Kd.R_new' ho0 (Kd.R_lt (by (with_reducible repeat (first | apply Kd.R_alloc | apply Kd.R_drewN | apply Kd.R_drew)); exact (Kd.R_mono (Kd.R_far (p := ⟨gb147, 2, none⟩) (Kd.R_far (p := ⟨gb147, 1, none⟩) (Kd.R_far (p := ⟨gb147, 0, none⟩) (Kd.R_types HO145.out BK147.out (by decide)) (fun _ hk => hk.2) (.int .i64 t148)) (fun _ hk => hk.2) (.bool t149)) (fun _ hk => hk.2) (.slice Ao21 t150.length co21)) (fun _ h_ => h_.1))))) (Kd.R_lt (by (with_reducible repeat (first | apply Kd.R_alloc | apply Kd.R_drewN | apply Kd.R_drew)); exact (Kd.R_mono (Kd.R_far (p := ⟨gb147, 2, none⟩) (Kd.R_far (p := ⟨gb147, 1, none⟩) (Kd.R_far (p := ⟨gb147, 0, none⟩) (Kd.R_types HO152.out BK147.out (by decide)) (fun _ hk => hk.2) (.int .i64 t148)) (fun _ hk => hk.2) (.bool t149)) (fun _ hk => hk.2) (.slice Ao21 t150.length co21)) (fun _ h_ => h_.1))))) (below_size (by repeat (first | (with_reducible first | exact HB.out | apply below_alloc | apply pw_below_drewN | apply below_drew1 | refine below_set ?_ GE147.out) | exact HB.out)))); have n3_ := Aside0.mk (blk_below (g := gb147) (o := .cells #[.int .i64 t148, .bool t149, .slice Ao21 t150.length co21] 24 (0, 0)) (by (with_reducible repeat (first | refine blk_drewN ?_ _ | refine blk_drew ?_ | refine blk_alloc ?_ _)); refine blk_put (cs := #[.int .i64 t148, .bool t149, .slice Ao18 t143.length co18]) ?_ 2 _ rfl; (with_reducible repeat (first | refine blk_drewN ?_ _ | refine blk_drew ?_ | refine blk_alloc ?_ _)); refine blk_put (cs := #[.int .i64 t148, .bool t142, .slice Ao18 t143.length co18]) ?_ 1 _ rfl; (with_reducible repeat (first | refine blk_drewN ?_ _ | refine blk_drew ?_ | refine blk_alloc ?_ _)); refine blk_put (cs := #[.int .i64 t141, .bool t142, .slice Ao18 t143.length co18]) ?_ 0 _ rfl; (with_reducible repeat (first | refine blk_drewN ?_ _ | refine blk_drew ?_ | refine blk_alloc ?_ _)); exact BK147.out) hb); have n4_ := Aside0.mk (below_step (by repeat (first | (with_reducible first | exact HB.out | apply below_alloc | apply pw_below_drewN | apply below_drew1 | refine below_set ?_ GE147.out) | exact HB.out)) hb); clear HO145; clear HO152; clear BK147; clear HB; have HO145 := n0_; have HO152 := n1_; have HO158 := n2_; have BK147 := n3_; have HB := n4_; clear n0_ n1_ n2_ n3_ n4_; (try clear hb); (try clear hb2); (try clear hk); (try clear hi); (try clear ho0); obtain ⟨hcz23_0, hcz23_1, hcz23_2⟩ := cel3 BK147.out; obtain ⟨hfz23_0, hfz23_1, hfz23_2⟩ := frz3 BK147.out; obtain ⟨Ao24, co24, eo24⟩ := Kd.R_slice HO158.out; subst eo24) | ((with_reducible refine gate_callee (f := 19) rfl ?_); refine goesL_ (some 26) rfl rfl Try.func19 (by kernel_rfl) rfl #[.int .i64 400, .agg #[.int .i64 t154, .bool t155, .slice Ao24 t156.length co24], .bool false] rfl (by (try simp only [List.map_toArray, List.map_cons, List.map_nil]); first | done | rfl | (simp only [List.length_drop, List.length_take]; rfl)) ?_; (with_reducible refine (toc_CloseSession.calls 400 t154 t155 _ _ t156 false t160 t161 t162 t165 _ ?side1 ?side2 A7.out).mono ?_); (case side1 => refine (Kd.R_reads' (e := 40) (base := w.heap.size) (ok := fun k_ => ((True ∧ some k_ ≠ (.slice Ao18 t143.length co18 : Value).ownBlock) ∧ some k_ ≠ (.slice Ao21 t150.length co21 : Value).ownBlock)) (n := t156.length) (c := co24) ?_).2.2; exact (by (with_reducible repeat (first | apply Kd.R_alloc | apply Kd.R_drewN | apply Kd.R_drew)); exact (Kd.R_mono (Kd.R_far (p := ⟨gb147, 2, none⟩) (Kd.R_far (p := ⟨gb147, 1, none⟩) (Kd.R_far (p := ⟨gb147, 0, none⟩) (Kd.R_types HO158.out BK147.out (by decide)) (fun _ hk => hk.2) (.int .i64 t154)) (fun _ hk => hk.2) (.bool t155)) (fun _ hk => hk.2) (.slice Ao24 t156.length co24)) (fun _ h_ => h_.1)))); (case side2 => exact (Kd.R_reads' HO158.out).2.1); rintro e w25 ⟨v163, rfl, ho0, hb⟩; refine ⟨_, rfl, ?_⟩; have n0_ := Aside0.mk (Kd.R_elder' (by (with_reducible repeat (first | apply Kd.R_alloc | apply Kd.R_drewN | apply Kd.R_drew)); exact (Kd.R_mono (Kd.R_far (p := ⟨gb147, 2, none⟩) (Kd.R_far (p := ⟨gb147, 1, none⟩) (Kd.R_far (p := ⟨gb147, 0, none⟩) (Kd.R_types HO145.out BK147.out (by decide)) (fun _ hk => hk.2) (.int .i64 t154)) (fun _ hk => hk.2) (.bool t155)) (fun _ hk => hk.2) (.slice Ao24 t156.length co24)) (fun _ h_ => h_.1))) (Kd.R_base ho0) hb); have n1_ := Aside0.mk (Kd.R_elder' (by (with_reducible repeat (first | apply Kd.R_alloc | apply Kd.R_drewN | apply Kd.R_drew)); exact (Kd.R_mono (Kd.R_far (p := ⟨gb147, 2, none⟩) (Kd.R_far (p := ⟨gb147, 1, none⟩) (Kd.R_far (p := ⟨gb147, 0, none⟩) (Kd.R_types HO152.out BK147.out (by decide)) (fun _ hk => hk.2) (.int .i64 t154)) (fun _ hk => hk.2) (.bool t155)) (fun _ hk => hk.2) (.slice Ao24 t156.length co24)) (fun _ h_ => h_.1))) (Kd.R_base ho0) hb); have n2_ := Aside0.mk (Kd.R_elder' (by (with_reducible repeat (first | apply Kd.R_alloc | apply Kd.R_drewN | apply Kd.R_drew)); exact (Kd.R_mono (Kd.R_far (p := ⟨gb147, 2, none⟩) (Kd.R_far (p := ⟨gb147, 1, none⟩) (Kd.R_far (p := ⟨gb147, 0, none⟩) (Kd.R_types HO158.out BK147.out (by decide)) (fun _ hk => hk.2) (.int .i64 t154)) (fun _ hk => hk.2) (.bool t155)) (fun _ hk => hk.2) (.slice Ao24 t156.length co24)) (fun _ h_ => h_.1))) (Kd.R_base ho0) hb); have n3_ := Aside0.mk (Kd.R_lower (Kd.R_new' (Kd.R_new' (Kd.R_new' ho0 (Kd.R_lt (by (with_reducible repeat (first | apply Kd.R_alloc | apply Kd.R_drewN | apply Kd.R_drew)); exact (Kd.R_mono (Kd.R_far (p := ⟨gb147, 2, none⟩) (Kd.R_far (p := ⟨gb147, 1, none⟩) (Kd.R_far (p := ⟨gb147, 0, none⟩) (Kd.R_types HO145.out BK147.out (by decide)) (fun _ hk => hk.2) (.int .i64 t154)) (fun _ hk => hk.2) (.bool t155)) (fun _ hk => hk.2) (.slice Ao24 t156.length co24)) (fun _ h_ => h_.1))))) (Kd.R_lt (by (with_reducible repeat (first | apply Kd.R_alloc | apply Kd.R_drewN | apply Kd.R_drew)); exact (Kd.R_mono (Kd.R_far (p := ⟨gb147, 2, none⟩) (Kd.R_far (p := ⟨gb147, 1, none⟩) (Kd.R_far (p := ⟨gb147, 0, none⟩) (Kd.R_types HO152.out BK147.out (by decide)) (fun _ hk => hk.2) (.int .i64 t154)) (fun _ hk => hk.2) (.bool t155)) (fun _ hk => hk.2) (.slice Ao24 t156.length co24)) (fun _ h_ => h_.1))))) (Kd.R_lt (by (with_reducible repeat (first | apply Kd.R_alloc | apply Kd.R_drewN | apply Kd.R_drew)); exact (Kd.R_mono (Kd.R_far (p := ⟨gb147, 2, none⟩) (Kd.R_far (p := ⟨gb147, 1, none⟩) (Kd.R_far (p := ⟨gb147, 0, none⟩) (Kd.R_types HO158.out BK147.out (by decide)) (fun _ hk => hk.2) (.int .i64 t154)) (fun _ hk => hk.2) (.bool t155)) (fun _ hk => hk.2) (.slice Ao24 t156.length co24)) (fun _ h_ => h_.1))))) (below_size (by repeat (first | (with_reducible first | exact HB.out | apply below_alloc | apply pw_below_drewN | apply below_drew1 | refine below_set ?_ GE147.out) | exact HB.out)))); have n4_ := Aside0.mk (blk_below (g := gb147) (o := .cells #[.int .i64 t154, .bool t155, .slice Ao24 t156.length co24] 24 (0, 0)) (by (with_reducible repeat (first | refine blk_drewN ?_ _ | refine blk_drew ?_ | refine blk_alloc ?_ _)); refine blk_put (cs := #[.int .i64 t154, .bool t155, .slice Ao21 t150.length co21]) ?_ 2 _ rfl; (with_reducible repeat (first | refine blk_drewN ?_ _ | refine blk_drew ?_ | refine blk_alloc ?_ _)); refine blk_put (cs := #[.int .i64 t154, .bool t149, .slice Ao21 t150.length co21]) ?_ 1 _ rfl; (with_reducible repeat (first | refine blk_drewN ?_ _ | refine blk_drew ?_ | refine blk_alloc ?_ _)); refine blk_put (cs := #[.int .i64 t148, .bool t149, .slice Ao21 t150.length co21]) ?_ 0 _ rfl; (with_reducible repeat (first | refine blk_drewN ?_ _ | refine blk_drew ?_ | refine blk_alloc ?_ _)); exact BK147.out) hb); have n5_ := Aside0.mk (below_step (by repeat (first | (with_reducible first | exact HB.out | apply below_alloc | apply pw_below_drewN | apply below_drew1 | refine below_set ?_ GE147.out) | exact HB.out)) hb); clear HO145; clear HO152; clear HO158; clear BK147; clear HB; have HO145 := n0_; have HO152 := n1_; have HO158 := n2_; have HO164 := n3_; have BK147 := n4_; have HB := n5_; clear n0_ n1_ n2_ n3_ n4_ n5_; (try clear hb); (try clear hb2); (try clear hk); (try clear hi); (try clear ho0); obtain ⟨hcz26_0, hcz26_1, hcz26_2⟩ := cel3 BK147.out; obtain ⟨hfz26_0, hfz26_1, hfz26_2⟩ := frz3 BK147.out; obtain ⟨Ao27, co27, eo27⟩ := Kd.R_slice HO164.out; subst eo27) | ((with_reducible refine gate_callee (f := 16) rfl ?_); refine goesL_ (some 33) rfl rfl Try.func16 (by kernel_rfl) rfl #[.int .i64 400, .agg #[.int .i64 t160, .bool t161, .slice Ao27 t162.length co27], .int .i64 10, .int .i64 0] rfl (by (try simp only [List.map_toArray, List.map_cons, List.map_nil]); first | done | rfl | (simp only [List.length_drop, List.length_take]; rfl)) ?_; (with_reducible refine (toc_Reserve.calls k 400 t160 t161 _ _ t162 10 0 t166 t167 t168 t171 _ ?side1 ?side2 A9.out).mono ?_); (case side1 => refine (Kd.R_reads' (e := 40) (base := w.heap.size) (ok := fun k_ => (((True ∧ some k_ ≠ (.slice Ao18 t143.length co18 : Value).ownBlock) ∧ some k_ ≠ (.slice Ao21 t150.length co21 : Value).ownBlock) ∧ some k_ ≠ (.slice Ao24 t156.length co24 : Value).ownBlock)) (n := t162.length) (c := co27) ?_).2.2; exact (by (with_reducible repeat (first | apply Kd.R_alloc | apply Kd.R_drewN | apply Kd.R_drew)); exact (Kd.R_mono (Kd.R_far (p := ⟨gb147, 2, none⟩) (Kd.R_far (p := ⟨gb147, 1, none⟩) (Kd.R_far (p := ⟨gb147, 0, none⟩) (Kd.R_types HO164.out BK147.out (by decide)) (fun _ hk => hk.2) (.int .i64 t160)) (fun _ hk => hk.2) (.bool t161)) (fun _ hk => hk.2) (.slice Ao27 t162.length co27)) (fun _ h_ => h_.1)))); (case side2 => exact (Kd.R_reads' HO164.out).2.1); rintro e w28 ⟨v169, rfl, ho0, hb⟩; refine ⟨_, rfl, ?_⟩; have n0_ := Aside0.mk (Kd.R_elder' (by (with_reducible repeat (first | apply Kd.R_alloc | apply Kd.R_drewN | apply Kd.R_drew)); exact (Kd.R_mono (Kd.R_far (p := ⟨gb147, 2, none⟩) (Kd.R_far (p := ⟨gb147, 1, none⟩) (Kd.R_far (p := ⟨gb147, 0, none⟩) (Kd.R_types HO145.out BK147.out (by decide)) (fun _ hk => hk.2) (.int .i64 t160)) (fun _ hk => hk.2) (.bool t161)) (fun _ hk => hk.2) (.slice Ao27 t162.length co27)) (fun _ h_ => h_.1))) (Kd.R_base ho0) hb); have n1_ := Aside0.mk (Kd.R_elder' (by (with_reducible repeat (first | apply Kd.R_alloc | apply Kd.R_drewN | apply Kd.R_drew)); exact (Kd.R_mono (Kd.R_far (p := ⟨gb147, 2, none⟩) (Kd.R_far (p := ⟨gb147, 1, none⟩) (Kd.R_far (p := ⟨gb147, 0, none⟩) (Kd.R_types HO152.out BK147.out (by decide)) (fun _ hk => hk.2) (.int .i64 t160)) (fun _ hk => hk.2) (.bool t161)) (fun _ hk => hk.2) (.slice Ao27 t162.length co27)) (fun _ h_ => h_.1))) (Kd.R_base ho0) hb); have n2_ := Aside0.mk (Kd.R_elder' (by (with_reducible repeat (first | apply Kd.R_alloc | apply Kd.R_drewN | apply Kd.R_drew)); exact (Kd.R_mono (Kd.R_far (p := ⟨gb147, 2, none⟩) (Kd.R_far (p := ⟨gb147, 1, none⟩) (Kd.R_far (p := ⟨gb147, 0, none⟩) (Kd.R_types HO158.out BK147.out (by decide)) (fun _ hk => hk.2) (.int .i64 t160)) (fun _ hk => hk.2) (.bool t161)) (fun _ hk => hk.2) (.slice Ao27 t162.length co27)) (fun _ h_ => h_.1))) (Kd.R_base ho0) hb); have n3_ := Aside0.mk (Kd.R_elder' (by (with_reducible repeat (first | apply Kd.R_alloc | apply Kd.R_drewN | apply Kd.R_drew)); exact (Kd.R_mono (Kd.R_far (p := ⟨gb147, 2, none⟩) (Kd.R_far (p := ⟨gb147, 1, none⟩) (Kd.R_far (p := ⟨gb147, 0, none⟩) (Kd.R_types HO164.out BK147.out (by decide)) (fun _ hk => hk.2) (.int .i64 t160)) (fun _ hk => hk.2) (.bool t161)) (fun _ hk => hk.2) (.slice Ao27 t162.length co27)) (fun _ h_ => h_.1))) (Kd.R_base ho0) hb); have n4_ := Aside0.mk (Kd.R_lower (Kd.R_new' (Kd.R_new' (Kd.R_new' (Kd.R_new' ho0 (Kd.R_lt (by (with_reducible repeat (first | apply Kd.R_alloc | apply Kd.R_drewN | apply Kd.R_drew)); exact (Kd.R_mono (Kd.R_far (p := ⟨gb147, 2, none⟩) (Kd.R_far (p := ⟨gb147, 1, none⟩) (Kd.R_far (p := ⟨gb147, 0, none⟩) (Kd.R_types HO145.out BK147.out (by decide)) (fun _ hk => hk.2) (.int .i64 t160)) (fun _ hk => hk.2) (.bool t161)) (fun _ hk => hk.2) (.slice Ao27 t162.length co27)) (fun _ h_ => h_.1))))) (Kd.R_lt (by (with_reducible repeat (first | apply Kd.R_alloc | apply Kd.R_drewN | apply Kd.R_drew)); exact (Kd.R_mono (Kd.R_far (p := ⟨gb147, 2, none⟩) (Kd.R_far (p := ⟨gb147, 1, none⟩) (Kd.R_far (p := ⟨gb147, 0, none⟩) (Kd.R_types HO152.out BK147.out (by decide)) (fun _ hk => hk.2) (.int .i64 t160)) (fun _ hk => hk.2) (.bool t161)) (fun _ hk => hk.2) (.slice Ao27 t162.length co27)) (fun _ h_ => h_.1))))) (Kd.R_lt (by (with_reducible repeat (first | apply Kd.R_alloc | apply Kd.R_drewN | apply Kd.R_drew)); exact (Kd.R_mono (Kd.R_far (p := ⟨gb147, 2, none⟩) (Kd.R_far (p := ⟨gb147, 1, none⟩) (Kd.R_far (p := ⟨gb147, 0, none⟩) (Kd.R_types HO158.out BK147.out (by decide)) (fun _ hk => hk.2) (.int .i64 t160)) (fun _ hk => hk.2) (.bool t161)) (fun _ hk => hk.2) (.slice Ao27 t162.length co27)) (fun _ h_ => h_.1))))) (Kd.R_lt (by (with_reducible repeat (first | apply Kd.R_alloc | apply Kd.R_drewN | apply Kd.R_drew)); exact (Kd.R_mono (Kd.R_far (p := ⟨gb147, 2, none⟩) (Kd.R_far (p := ⟨gb147, 1, none⟩) (Kd.R_far (p := ⟨gb147, 0, none⟩) (Kd.R_types HO164.out BK147.out (by decide)) (fun _ hk => hk.2) (.int .i64 t160)) (fun _ hk => hk.2) (.bool t161)) (fun _ hk => hk.2) (.slice Ao27 t162.length co27)) (fun _ h_ => h_.1))))) (below_size (by repeat (first | (with_reducible first | exact HB.out | apply below_alloc | apply pw_below_drewN | apply below_drew1 | refine below_set ?_ GE147.out) | exact HB.out)))); have n5_ := Aside0.mk (blk_below (g := gb147) (o := .cells #[.int .i64 t160, .bool t161, .slice Ao27 t162.length co27] 24 (0, 0)) (by (with_reducible repeat (first | refine blk_drewN ?_ _ | refine blk_drew ?_ | refine blk_alloc ?_ _)); refine blk_put (cs := #[.int .i64 t160, .bool t161, .slice Ao24 t156.length co24]) ?_ 2 _ rfl; (with_reducible repeat (first | refine blk_drewN ?_ _ | refine blk_drew ?_ | refine blk_alloc ?_ _)); refine blk_put (cs := #[.int .i64 t160, .bool t155, .slice Ao24 t156.length co24]) ?_ 1 _ rfl; (with_reducible repeat (first | refine blk_drewN ?_ _ | refine blk_drew ?_ | refine blk_alloc ?_ _)); refine blk_put (cs := #[.int .i64 t154, .bool t155, .slice Ao24 t156.length co24]) ?_ 0 _ rfl; (with_reducible repeat (first | refine blk_drewN ?_ _ | refine blk_drew ?_ | refine blk_alloc ?_ _)); exact BK147.out) hb); have n6_ := Aside0.mk (below_step (by repeat (first | (with_reducible first | exact HB.out | apply below_alloc | apply pw_below_drewN | apply below_drew1 | refine below_set ?_ GE147.out) | exact HB.out)) hb); clear HO145; clear HO152; clear HO158; clear HO164; clear BK147; clear HB; have HO145 := n0_; have HO152 := n1_; have HO158 := n2_; have HO164 := n3_; have HO170 := n4_; have BK147 := n5_; have HB := n6_; clear n0_ n1_ n2_ n3_ n4_ n5_ n6_; (try clear hb); (try clear hb2); (try clear hk); (try clear hi); (try clear ho0); obtain ⟨hcz29_0, hcz29_1, hcz29_2⟩ := cel3 BK147.out; obtain ⟨hfz29_0, hfz29_1, hfz29_2⟩ := frz3 BK147.out; obtain ⟨Ao30, co30, eo30⟩ := Kd.R_slice HO170.out; subst eo30; have p172 : 0 ≤ (0 : Int) := (by omega); have q172 : 0 < (t168.length : Int) := of_decide_eq_true (by first | (with_reducible assumption) | assumption); obtain ⟨ad172, e172, hx172_0, hx172_1, hx172_2, hx172_3, hx172_4, hx172_5, hx172_6⟩ := at_T40 (Kd.R_reads' HO170.out).2.2 0 p172 q172; cases e172; have qi172 : (0 < t168.length) = True := eq_true (by omega); (try rw [show ((0 : Int)).toNat = 0 from rfl] at hx172_0); (try rw [show 0 * 7 = 0 from rfl] at hx172_0); (try rw [Addr.add_zero'] at hx172_0); (try rw [show ((0 : Int)).toNat = 0 from rfl] at hx172_1); (try rw [show 0 * 7 = 0 from rfl] at hx172_1); (try rw [Addr.add_zero'] at hx172_1); (try rw [show ((0 : Int)).toNat = 0 from rfl] at hx172_2); (try rw [show 0 * 7 = 0 from rfl] at hx172_2); (try rw [Addr.add_zero'] at hx172_2); (try rw [show ((0 : Int)).toNat = 0 from rfl] at hx172_3); (try rw [show 0 * 7 = 0 from rfl] at hx172_3); (try rw [Addr.add_zero'] at hx172_3); (try rw [show ((0 : Int)).toNat = 0 from rfl] at hx172_4); (try rw [show 0 * 7 = 0 from rfl] at hx172_4); (try rw [Addr.add_zero'] at hx172_4); (try rw [show ((0 : Int)).toNat = 0 from rfl] at hx172_5); (try rw [show 0 * 7 = 0 from rfl] at hx172_5); (try rw [Addr.add_zero'] at hx172_5); (try rw [show ((0 : Int)).toNat = 0 from rfl] at hx172_6); (try rw [show 0 * 7 = 0 from rfl] at hx172_6); (try rw [Addr.add_zero'] at hx172_6); have hn172_0 : ad172.block ≠ gb147 := Kd.own_blk (Kd.R_ne HO170.out BK147.out (by decide)); have hn172_1 : ad172.block ≠ gb147 := Kd.own_blk (Kd.R_ne HO170.out BK147.out (by decide)); have hn172_2 : ad172.block ≠ gb147 := Kd.own_blk (Kd.R_ne HO170.out BK147.out (by decide)); replace hx172_0 := (cell_far (p := ⟨gb147, 0, none⟩) (by first | (rw [add_block]; exact hn172_0) | (show (Addr.add _ _).block ≠ _; rw [add_block]; exact hn172_0) | exact hn172_0) (.int .i64 t166)).trans hx172_0; replace hx172_1 := (cell_far (p := ⟨gb147, 0, none⟩) (by first | (rw [add_block]; exact hn172_0) | (show (Addr.add _ _).block ≠ _; rw [add_block]; exact hn172_0) | exact hn172_0) (.int .i64 t166)).trans hx172_1; replace hx172_2 := (cell_far (p := ⟨gb147, 0, none⟩) (by first | (rw [add_block]; exact hn172_0) | (show (Addr.add _ _).block ≠ _; rw [add_block]; exact hn172_0) | exact hn172_0) (.int .i64 t166)).trans hx172_2; replace hx172_3 := (cell_far (p := ⟨gb147, 0, none⟩) (by first | (rw [add_block]; exact hn172_0) | (show (Addr.add _ _).block ≠ _; rw [add_block]; exact hn172_0) | exact hn172_0) (.int .i64 t166)).trans hx172_3; replace hx172_4 := (cell_far (p := ⟨gb147, 0, none⟩) (by first | (rw [add_block]; exact hn172_0) | (show (Addr.add _ _).block ≠ _; rw [add_block]; exact hn172_0) | exact hn172_0) (.int .i64 t166)).trans hx172_4; replace hx172_5 := (cell_far (p := ⟨gb147, 0, none⟩) (by first | (rw [add_block]; exact hn172_0) | (show (Addr.add _ _).block ≠ _; rw [add_block]; exact hn172_0) | exact hn172_0) (.int .i64 t166)).trans hx172_5; replace hx172_6 := (cell_far (p := ⟨gb147, 0, none⟩) (by first | (rw [add_block]; exact hn172_0) | (show (Addr.add _ _).block ≠ _; rw [add_block]; exact hn172_0) | exact hn172_0) (.int .i64 t166)).trans hx172_6; replace hx172_0 := (cell_far (p := ⟨gb147, 1, none⟩) (by first | (rw [add_block]; exact hn172_1) | (show (Addr.add _ _).block ≠ _; rw [add_block]; exact hn172_1) | exact hn172_1) (.bool t167)).trans hx172_0; replace hx172_1 := (cell_far (p := ⟨gb147, 1, none⟩) (by first | (rw [add_block]; exact hn172_1) | (show (Addr.add _ _).block ≠ _; rw [add_block]; exact hn172_1) | exact hn172_1) (.bool t167)).trans hx172_1; replace hx172_2 := (cell_far (p := ⟨gb147, 1, none⟩) (by first | (rw [add_block]; exact hn172_1) | (show (Addr.add _ _).block ≠ _; rw [add_block]; exact hn172_1) | exact hn172_1) (.bool t167)).trans hx172_2; replace hx172_3 := (cell_far (p := ⟨gb147, 1, none⟩) (by first | (rw [add_block]; exact hn172_1) | (show (Addr.add _ _).block ≠ _; rw [add_block]; exact hn172_1) | exact hn172_1) (.bool t167)).trans hx172_3; replace hx172_4 := (cell_far (p := ⟨gb147, 1, none⟩) (by first | (rw [add_block]; exact hn172_1) | (show (Addr.add _ _).block ≠ _; rw [add_block]; exact hn172_1) | exact hn172_1) (.bool t167)).trans hx172_4; replace hx172_5 := (cell_far (p := ⟨gb147, 1, none⟩) (by first | (rw [add_block]; exact hn172_1) | (show (Addr.add _ _).block ≠ _; rw [add_block]; exact hn172_1) | exact hn172_1) (.bool t167)).trans hx172_5; replace hx172_6 := (cell_far (p := ⟨gb147, 1, none⟩) (by first | (rw [add_block]; exact hn172_1) | (show (Addr.add _ _).block ≠ _; rw [add_block]; exact hn172_1) | exact hn172_1) (.bool t167)).trans hx172_6; replace hx172_0 := (cell_far (p := ⟨gb147, 2, none⟩) (by first | (rw [add_block]; exact hn172_2) | (show (Addr.add _ _).block ≠ _; rw [add_block]; exact hn172_2) | exact hn172_2) (.slice (some ad172) t168.length co30)).trans hx172_0; replace hx172_1 := (cell_far (p := ⟨gb147, 2, none⟩) (by first | (rw [add_block]; exact hn172_2) | (show (Addr.add _ _).block ≠ _; rw [add_block]; exact hn172_2) | exact hn172_2) (.slice (some ad172) t168.length co30)).trans hx172_1; replace hx172_2 := (cell_far (p := ⟨gb147, 2, none⟩) (by first | (rw [add_block]; exact hn172_2) | (show (Addr.add _ _).block ≠ _; rw [add_block]; exact hn172_2) | exact hn172_2) (.slice (some ad172) t168.length co30)).trans hx172_2; replace hx172_3 := (cell_far (p := ⟨gb147, 2, none⟩) (by first | (rw [add_block]; exact hn172_2) | (show (Addr.add _ _).block ≠ _; rw [add_block]; exact hn172_2) | exact hn172_2) (.slice (some ad172) t168.length co30)).trans hx172_3; replace hx172_4 := (cell_far (p := ⟨gb147, 2, none⟩) (by first | (rw [add_block]; exact hn172_2) | (show (Addr.add _ _).block ≠ _; rw [add_block]; exact hn172_2) | exact hn172_2) (.slice (some ad172) t168.length co30)).trans hx172_4; replace hx172_5 := (cell_far (p := ⟨gb147, 2, none⟩) (by first | (rw [add_block]; exact hn172_2) | (show (Addr.add _ _).block ≠ _; rw [add_block]; exact hn172_2) | exact hn172_2) (.slice (some ad172) t168.length co30)).trans hx172_5; replace hx172_6 := (cell_far (p := ⟨gb147, 2, none⟩) (by first | (rw [add_block]; exact hn172_2) | (show (Addr.add _ _).block ≠ _; rw [add_block]; exact hn172_2) | exact hn172_2) (.slice (some ad172) t168.length co30)).trans hx172_6; clear hn172_0; clear hn172_1; clear hn172_2; replace p172 := eq_true p172; replace q172 := eq_true q172; have p173 : 0 ≤ (1 : Int) := (by omega); have q173 : 1 < (t168.length : Int) := of_decide_eq_true (by first | (with_reducible assumption) | assumption); obtain ⟨ad173, e173, hx173_0, hx173_1, hx173_2, hx173_3, hx173_4, hx173_5, hx173_6⟩ := at_T40 (Kd.R_reads' HO170.out).2.2 1 p173 q173; obtain rfl : ad172 = ad173 := (by injection e173); (try simp only [show (1 : Int).toNat = 1 from rfl, Nat.reduceMul, Nat.reduceEqDiff, Go.Addr.add, ↓reduceIte] at hx173_0); (try simp only [show (1 : Int).toNat = 1 from rfl, Nat.reduceMul, Nat.reduceEqDiff, Go.Addr.add, ↓reduceIte] at hx173_1); (try simp only [show (1 : Int).toNat = 1 from rfl, Nat.reduceMul, Nat.reduceEqDiff, Go.Addr.add, ↓reduceIte] at hx173_2); (try simp only [show (1 : Int).toNat = 1 from rfl, Nat.reduceMul, Nat.reduceEqDiff, Go.Addr.add, ↓reduceIte] at hx173_3); (try simp only [show (1 : Int).toNat = 1 from rfl, Nat.reduceMul, Nat.reduceEqDiff, Go.Addr.add, ↓reduceIte] at hx173_4); (try simp only [show (1 : Int).toNat = 1 from rfl, Nat.reduceMul, Nat.reduceEqDiff, Go.Addr.add, ↓reduceIte] at hx173_5); (try simp only [show (1 : Int).toNat = 1 from rfl, Nat.reduceMul, Nat.reduceEqDiff, Go.Addr.add, ↓reduceIte] at hx173_6); have qi173 : (1 < t168.length) = True := eq_true (by omega); (try rw [show ((1 : Int)).toNat = 1 from rfl] at hx173_0); (try rw [show 1 * 7 = 7 from rfl] at hx173_0); (try rw [show ((1 : Int)).toNat = 1 from rfl] at hx173_1); (try rw [show 1 * 7 = 7 from rfl] at hx173_1); (try rw [show ((1 : Int)).toNat = 1 from rfl] at hx173_2); (try rw [show 1 * 7 = 7 from rfl] at hx173_2); (try rw [show ((1 : Int)).toNat = 1 from rfl] at hx173_3); (try rw [show 1 * 7 = 7 from rfl] at hx173_3); (try rw [show ((1 : Int)).toNat = 1 from rfl] at hx173_4); (try rw [show 1 * 7 = 7 from rfl] at hx173_4); (try rw [show ((1 : Int)).toNat = 1 from rfl] at hx173_5); (try rw [show 1 * 7 = 7 from rfl] at hx173_5); (try rw [show ((1 : Int)).toNat = 1 from rfl] at hx173_6); (try rw [show 1 * 7 = 7 from rfl] at hx173_6); have hn173_0 : ad172.block ≠ gb147 := Kd.own_blk (Kd.R_ne HO170.out BK147.out (by decide)); have hn173_1 : ad172.block ≠ gb147 := Kd.own_blk (Kd.R_ne HO170.out BK147.out (by decide)); have hn173_2 : ad172.block ≠ gb147 := Kd.own_blk (Kd.R_ne HO170.out BK147.out (by decide)); replace hx173_0 := (cell_far (p := ⟨gb147, 0, none⟩) (by first | (rw [add_block]; exact hn173_0) | (show (Addr.add _ _).block ≠ _; rw [add_block]; exact hn173_0) | exact hn173_0) (.int .i64 t166)).trans hx173_0; replace hx173_1 := (cell_far (p := ⟨gb147, 0, none⟩) (by first | (rw [add_block]; exact hn173_0) | (show (Addr.add _ _).block ≠ _; rw [add_block]; exact hn173_0) | exact hn173_0) (.int .i64 t166)).trans hx173_1; replace hx173_2 := (cell_far (p := ⟨gb147, 0, none⟩) (by first | (rw [add_block]; exact hn173_0) | (show (Addr.add _ _).block ≠ _; rw [add_block]; exact hn173_0) | exact hn173_0) (.int .i64 t166)).trans hx173_2; replace hx173_3 := (cell_far (p := ⟨gb147, 0, none⟩) (by first | (rw [add_block]; exact hn173_0) | (show (Addr.add _ _).block ≠ _; rw [add_block]; exact hn173_0) | exact hn173_0) (.int .i64 t166)).trans hx173_3; replace hx173_4 := (cell_far (p := ⟨gb147, 0, none⟩) (by first | (rw [add_block]; exact hn173_0) | (show (Addr.add _ _).block ≠ _; rw [add_block]; exact hn173_0) | exact hn173_0) (.int .i64 t166)).trans hx173_4; replace hx173_5 := (cell_far (p := ⟨gb147, 0, none⟩) (by first | (rw [add_block]; exact hn173_0) | (show (Addr.add _ _).block ≠ _; rw [add_block]; exact hn173_0) | exact hn173_0) (.int .i64 t166)).trans hx173_5; replace hx173_6 := (cell_far (p := ⟨gb147, 0, none⟩) (by first | (rw [add_block]; exact hn173_0) | (show (Addr.add _ _).block ≠ _; rw [add_block]; exact hn173_0) | exact hn173_0) (.int .i64 t166)).trans hx173_6; replace hx173_0 := (cell_far (p := ⟨gb147, 1, none⟩) (by first | (rw [add_block]; exact hn173_1) | (show (Addr.add _ _).block ≠ _; rw [add_block]; exact hn173_1) | exact hn173_1) (.bool t167)).trans hx173_0; replace hx173_1 := (cell_far (p := ⟨gb147, 1, none⟩) (by first | (rw [add_block]; exact hn173_1) | (show (Addr.add _ _).block ≠ _; rw [add_block]; exact hn173_1) | exact hn173_1) (.bool t167)).trans hx173_1; replace hx173_2 := (cell_far (p := ⟨gb147, 1, none⟩) (by first | (rw [add_block]; exact hn173_1) | (show (Addr.add _ _).block ≠ _; rw [add_block]; exact hn173_1) | exact hn173_1) (.bool t167)).trans hx173_2; replace hx173_3 := (cell_far (p := ⟨gb147, 1, none⟩) (by first | (rw [add_block]; exact hn173_1) | (show (Addr.add _ _).block ≠ _; rw [add_block]; exact hn173_1) | exact hn173_1) (.bool t167)).trans hx173_3; replace hx173_4 := (cell_far (p := ⟨gb147, 1, none⟩) (by first | (rw [add_block]; exact hn173_1) | (show (Addr.add _ _).block ≠ _; rw [add_block]; exact hn173_1) | exact hn173_1) (.bool t167)).trans hx173_4; replace hx173_5 := (cell_far (p := ⟨gb147, 1, none⟩) (by first | (rw [add_block]; exact hn173_1) | (show (Addr.add _ _).block ≠ _; rw [add_block]; exact hn173_1) | exact hn173_1) (.bool t167)).trans hx173_5; replace hx173_6 := (cell_far (p := ⟨gb147, 1, none⟩) (by first | (rw [add_block]; exact hn173_1) | (show (Addr.add _ _).block ≠ _; rw [add_block]; exact hn173_1) | exact hn173_1) (.bool t167)).trans hx173_6; replace hx173_0 := (cell_far (p := ⟨gb147, 2, none⟩) (by first | (rw [add_block]; exact hn173_2) | (show (Addr.add _ _).block ≠ _; rw [add_block]; exact hn173_2) | exact hn173_2) (.slice (some ad172) t168.length co30)).trans hx173_0; replace hx173_1 := (cell_far (p := ⟨gb147, 2, none⟩) (by first | (rw [add_block]; exact hn173_2) | (show (Addr.add _ _).block ≠ _; rw [add_block]; exact hn173_2) | exact hn173_2) (.slice (some ad172) t168.length co30)).trans hx173_1; replace hx173_2 := (cell_far (p := ⟨gb147, 2, none⟩) (by first | (rw [add_block]; exact hn173_2) | (show (Addr.add _ _).block ≠ _; rw [add_block]; exact hn173_2) | exact hn173_2) (.slice (some ad172) t168.length co30)).trans hx173_2; replace hx173_3 := (cell_far (p := ⟨gb147, 2, none⟩) (by first | (rw [add_block]; exact hn173_2) | (show (Addr.add _ _).block ≠ _; rw [add_block]; exact hn173_2) | exact hn173_2) (.slice (some ad172) t168.length co30)).trans hx173_3; replace hx173_4 := (cell_far (p := ⟨gb147, 2, none⟩) (by first | (rw [add_block]; exact hn173_2) | (show (Addr.add _ _).block ≠ _; rw [add_block]; exact hn173_2) | exact hn173_2) (.slice (some ad172) t168.length co30)).trans hx173_4; replace hx173_5 := (cell_far (p := ⟨gb147, 2, none⟩) (by first | (rw [add_block]; exact hn173_2) | (show (Addr.add _ _).block ≠ _; rw [add_block]; exact hn173_2) | exact hn173_2) (.slice (some ad172) t168.length co30)).trans hx173_5; replace hx173_6 := (cell_far (p := ⟨gb147, 2, none⟩) (by first | (rw [add_block]; exact hn173_2) | (show (Addr.add _ _).block ≠ _; rw [add_block]; exact hn173_2) | exact hn173_2) (.slice (some ad172) t168.length co30)).trans hx173_6; clear hn173_0; clear hn173_1; clear hn173_2; replace p173 := eq_true p173; replace q173 := eq_true q173))
                   go_ret
                   exact ⟨by first | rfl | (simp [errW_none, errW_some] <;> rfl) | (simp [*, errW_none, errW_some] <;> rfl), by repeat (first | (with_reducible first | exact HB.out | apply below_alloc | apply pw_below_drewN | apply below_drew1 | refine below_set ?_ GE147.out) | exact HB.out)⟩
                 · rw [if_neg c14] at H
                   exact absurd H (by simp)
               · rw [if_neg c13] at H
                 exact absurd H (by simp)
             · rw [if_neg c12] at H
               exact absurd H (by simp)
           · rw [if_neg c11] at H
             exact absurd H (by simp)
         · rw [if_neg c10] at H
           exact absurd H (by simp)
       · rw [if_neg c8] at H
         exact absurd H (by simp)
     · rw [if_neg c6] at H
       exact absurd H (by simp)
   · rw [if_neg c4] at H
     exact absurd H (by simp)
 · rw [if_neg c2] at H
   exact absurd H (by simp)
end Go.Proofs.Ytjhepdcdhabcjaa.G
namespace Go.Proofs.Ytjhepdcdhabcjaa.G
open Go.RowKit Go.Proofs.YtjhepdcdhabcjaaW.PrintWords Go.Proofs.YtjhepdcdhabcjaaW.PrintLast Go.Proofs.YtjhepdcdhabcjaaW.PrintMore
set_option linter.unusedVariables false
set_option linter.unusedSimpArgs false
theorem lift_k {α : Type} {f : Nat → Option α} (h : ∀ k, LeO (f k) (f (k + 1))) {k : Nat} {r : α} (hk : f k = some r) : ∀ d, f (k + d) = some r
 | 0 => hk
 | d + 1 => h (k + d) r (lift_k h hk d)
theorem lift_le {α : Type} {f : Nat → Option α} (h : ∀ k, LeO (f k) (f (k + 1))) {k k' : Nat} {r : α} (hk : f k = some r) (hle : k ≤ k') : f k' = some r := by
 have := lift_k h hk (k' - k)
 rwa [show k + (k' - k) = k' by omega] at this
theorem awake_true : masterdisclaw14_awake.f 10 = some true := by decide +kernel
def opDo (cap cl : Int) (fin : Bool) (l : List S40) (kind a b : Int) (fz : Bool) : Int × Bool × List S40 × Int :=
 if masterdiscref14_Valid.f cap cl fin l = some true then (if kind = 0 then opReserve cap cl fin l a b else if kind = 1 then opAppend cl fin l a b else if kind = 2 then opCloseT cl fin l a else opCloseS cl fin l fz) else (0, false, [], 1)
theorem do_toc (k : Nat) (cap cl : Int) (fin : Bool) (l : List S40) (kind a b : Int) (fz : Bool) (hB : ∀ x ∈ l, BdT x) : masterdisclaw14_do.f (k + l.length + 4) cap cl fin l kind a b fz = some (opDo cap cl fin l kind a b fz) := by
 unfold masterdisclaw14_do.f opDo
 obtain ⟨v, hv⟩ := valid_some cap cl fin l
 have hv' : toc_Valid.f cap cl fin l = some v := (valid_eq _ _ _ _ hB).trans hv
 cases v with
 | false =>
  rw [if_neg (show ¬ masterdiscref14_Valid.f cap cl fin l = some true from fun h => by rw [hv] at h; cases h)]
  have h1 : toc_Reserve.f (k + l.length + 4) cap cl fin l a b = some (0, false, [], 1) := by unfold toc_Reserve.f; rw [hv']; rfl
  have h2 : toc_Append.f (k + l.length + 4) cap cl fin l a b = some (0, false, [], 1) := by unfold toc_Append.f; rw [hv']; rfl
  have h3 : toc_CloseTrack.f cap cl fin l a = some (0, false, [], 1) := by unfold toc_CloseTrack.f; rw [hv']; rfl
  have h4 : toc_CloseSession.f cap cl fin l fz = some (0, false, [], 1) := by unfold toc_CloseSession.f; rw [hv']; rfl
  rw [h1, h2, h3, h4]
  simp only [Option.bind]
  split
  · rfl
  · split
    · rfl
    · split <;> rfl
 | true =>
  rw [if_pos hv]
  have h1 : toc_Reserve.f (k + l.length + 4) cap cl fin l a b = _ := reserve_toc (k + l.length) cap cl fin l a b hB hv
  have h2 : toc_Append.f (k + l.length + 4) cap cl fin l a b = some (opAppend cl fin l a b) := by
   have := append_toc (k + 2) cap cl fin l a b hB hv
   rwa [show k + 2 + l.length + 2 = k + l.length + 4 by omega] at this
  rw [h1, h2, closeT_toc cap cl fin l a hB hv, closeS_toc cap cl fin l fz hB hv]
  simp only [Option.bind]
  split
  · rfl
  · split
    · rfl
    · split <;> rfl
end Go.Proofs.Ytjhepdcdhabcjaa.G
namespace Go.Proofs.Ytjhepdcdhabcjaa.G
open Go.RowKit Go.Proofs.YtjhepdcdhabcjaaW.PrintWords Go.Proofs.YtjhepdcdhabcjaaW.PrintLast Go.Proofs.YtjhepdcdhabcjaaW.PrintMore
set_option linter.unusedVariables false
set_option linter.unusedSimpArgs false
theorem rd_app_lt {l : List S40} (y : S40) {i : Nat} (h : i < l.length) : rd_T40 (l ++ [y]) (i : Int) = rd_T40 l (i : Int) := by
 unfold rd_T40
 rw [Int.toNat_natCast, List.getD_eq_getElem?_getD, List.getD_eq_getElem?_getD, List.getElem?_append_left h]
theorem rd_app_eq (l : List S40) (y : S40) : rd_T40 (l ++ [y]) (l.length : Int) = y := by
 unfold rd_T40
 rw [Int.toNat_natCast, List.getD_eq_getElem?_getD, List.getElem?_append_right (Nat.le_refl _), Nat.sub_self]
 rfl
theorem rd_set_eq {l : List S40} (y : S40) {i : Nat} (h : i < l.length) : rd_T40 (l.set i y) (i : Int) = y := by
 have := rd_set_self (l := l) (i := (i : Int)) y (by omega) (by omega)
 rwa [Int.toNat_natCast] at this
theorem rd_set_ne {l : List S40} (y : S40) {i j : Nat} (h : i ≠ j) : rd_T40 (l.set i y) (j : Int) = rd_T40 l (j : Int) := by
 unfold rd_T40
 rw [Int.toNat_natCast, List.getD_eq_getElem?_getD, List.getD_eq_getElem?_getD, List.getElem?_set_ne h]
theorem rd_mem {l : List S40} {i : Nat} (h : i < l.length) : rd_T40 l (i : Int) ∈ l := by
 unfold rd_T40
 rw [Int.toNat_natCast, List.getD_eq_getElem?_getD, List.getElem?_eq_getElem h]
 exact List.getElem_mem h
theorem mem_rd {l : List S40} {x : S40} (h : x ∈ l) : ∃ i, i < l.length ∧ rd_T40 l (i : Int) = x := by
 obtain ⟨i, hi, rfl⟩ := List.getElem_of_mem h
 refine ⟨i, hi, ?_⟩
 unfold rd_T40
 rw [Int.toNat_natCast, List.getD_eq_getElem?_getD, List.getElem?_eq_getElem hi]
 rfl
theorem v_bdT {cap cl : Int} {fin : Bool} {l : List S40} (h : VALID cap cl fin l) : ∀ x ∈ l, BdT x := by
 intro x hx
 obtain ⟨i, hi, rfl⟩ := mem_rd hx
 obtain ⟨ht, h0, h1⟩ := v_tk h hi
 have hb := v_bd h i (by omega)
 have hn := tk_next ht hb.1 hb.2.2.1
 have hc := h.cap0
 have hcn := h.cnt
 obtain ⟨t0, t1, t2, t3, t4, t5, -, t7, -⟩ := ht
 have h5 : 0 ≤ (rd_T40 l (i : Int)).f5 ∧ (rd_T40 l (i : Int)).f5 ≤ 2 := by
  rcases t7 with ⟨a, -⟩ | ⟨a, -⟩ | ⟨a, -⟩ <;> omega
 unfold BdT Bd
 generalize rd_T40 l (i : Int) = x at *
 exact ⟨⟨by omega, by omega⟩, ⟨by omega, by omega⟩, ⟨by omega, by omega⟩, ⟨by omega, by omega⟩, ⟨by omega, by omega⟩, ⟨by omega, by omega⟩, ⟨by omega, by omega⟩⟩
theorem v_nil {cap : Int} (h : 1 ≤ cap ∧ cap ≤ 449849) : VALID cap 0 false [] :=
 ⟨h, Nat.zero_le _, ⟨Int.le_refl _, by omega⟩, fun i hi => absurd hi (Nat.not_lt_zero _), ⟨Int.le_refl _, fun h => by cases h⟩⟩
theorem lastS_eq {l : List S40} (h : 0 < l.length) : lastS l = pS l l.length := by unfold lastS; rw [if_pos h]
theorem v_start {cap cl : Int} {fin : Bool} {l : List S40} (h : VALID cap cl fin l) : (cl + 1 = pS l l.length ∧ newStart cl l = pE l l.length) ∨ (0 < (l.length : Int) ∧ cl + 1 = pS l l.length + 1 ∧ newStart cl l = pE l l.length + 16) := by
 unfold newStart
 have he := h.en.1
 by_cases hp : 0 < l.length
 · have hl := v_last h (i := l.length - 1) (by omega)
   rw [lastS_eq hp] at hl he
   have e1 : pS l l.length = (rd_T40 l ((l.length : Int) - 1)).f1 := by unfold pS; rw [if_neg (by omega)]
   have e2 : pE l l.length = (rd_T40 l ((l.length : Int) - 1)).f2 + (rd_T40 l ((l.length : Int) - 1)).f3 := by unfold pE; rw [if_neg (by omega)]
   rw [if_pos hp, e2]
   rw [e1] at hl he ⊢
   by_cases hc : (rd_T40 l ((l.length : Int) - 1)).f1 ≤ cl
   · rw [if_pos hc]; exact .inr ⟨by omega, by omega, rfl⟩
   · rw [if_neg hc]; exact .inl ⟨by omega, rfl⟩
 · have hl : lastS l = 0 := by unfold lastS; rw [if_neg hp]
   have h0 : l.length = 0 := by omega
   rw [hl] at he
   have hc := h.cl0
   rw [if_neg hp, h0]
   exact .inl ⟨by show cl + 1 = 1; omega, rfl⟩
theorem v_reserve {cap cl : Int} {l : List S40} {a b : Int} (h : VALID cap cl false l) (hp : pkP a b) (hn : ¬ (l.length : Int) = 99) (hcl : ¬ cl = 16) (hf : ¬ a > cap - newStart cl l) :
 VALID cap cl false (l ++ [⟨(l.length : Int) + 1, cl + 1, newStart cl l, a, newStart cl l, 0, b⟩]) := by
 have hc := h.cl0
 have hlen : (l ++ [(⟨(l.length : Int) + 1, cl + 1, newStart cl l, a, newStart cl l, 0, b⟩ : S40)]).length = l.length + 1 := by simp
 have hEq : ∀ j : Nat, j ≤ l.length → pE (l ++ [(⟨(l.length : Int) + 1, cl + 1, newStart cl l, a, newStart cl l, 0, b⟩ : S40)]) j = pE l j ∧ pS (l ++ [(⟨(l.length : Int) + 1, cl + 1, newStart cl l, a, newStart cl l, 0, b⟩ : S40)]) j = pS l j := by
  intro j hj
  match j, hj with
  | 0, _ => exact ⟨rfl, rfl⟩
  | j + 1, hj => rw [pE_succ, pE_succ, pS_succ, pS_succ, rd_app_lt _ (by omega)]; exact ⟨rfl, rfl⟩
 refine ⟨h.cap0, by rw [hlen]; have := h.cnt; omega, h.cl0, fun i hi => ?_, ?_, fun h => by cases h⟩
 · rw [hlen] at hi
   rw [(hEq i (by omega)).1, (hEq i (by omega)).2]
   by_cases hil : i < l.length
   · rw [rd_app_lt _ hil]; exact h.tk i hil
   · obtain rfl : i = l.length := by omega
     rw [rd_app_eq]
     obtain ⟨p1, p2, p3, p4⟩ := hp
     have hs := v_start h
     refine ⟨rfl, ?_, ⟨Int.le_refl _, by show cl + 1 ≤ 16; omega⟩, ⟨p1, by show a ≤ cap - newStart cl l; omega⟩, ⟨p2, p3⟩, ⟨Int.le_refl _, by show newStart cl l ≤ newStart cl l + a; omega⟩, ?_, .inr (.inl ⟨rfl, rfl⟩), fun hle => ?_⟩
     · rcases hs with ⟨s1, s2⟩ | ⟨s0, s1, s2⟩
       · exact .inl ⟨s1, s2⟩
       · exact .inr ⟨s0, s1, s2⟩
     · intro hb
       have hb : 0 < b := hb
       refine ⟨p4.resolve_left (by omega), ?_⟩
       show Int.tmod (newStart cl l - newStart cl l) b = 0
       rw [Int.sub_self, Int.zero_tmod]
     · have hle : cl + 1 ≤ cl := hle
       omega
 · rw [lastS_eq (by rw [hlen]; omega), hlen, pS_succ, rd_app_eq]
   show cl ≤ cl + 1
   omega
theorem v_set {cap cl : Int} {fin : Bool} {l : List S40} (h : VALID cap cl fin l) {i : Nat} (hi : i < l.length) (y : S40) (h1 : y.f1 = (rd_T40 l (i : Int)).f1)
 (h2 : y.f2 + y.f3 = (rd_T40 l (i : Int)).f2 + (rd_T40 l (i : Int)).f3 ∨ i + 1 = l.length) (hk : TK cap cl (i : Int) (pE l i) (pS l i) y) : VALID cap cl fin (l.set i y) := by
 have hS : ∀ j : Nat, j ≤ l.length → pS (l.set i y) j = pS l j := by
  intro j hj
  match j, hj with
  | 0, _ => rfl
  | j + 1, hj =>
   rw [pS_succ, pS_succ]
   by_cases hij : i = j
   · subst hij; rw [rd_set_eq _ hi, h1]
   · rw [rd_set_ne _ hij]
 have hE : ∀ j : Nat, j < l.length → pE (l.set i y) j = pE l j := by
  intro j hj
  match j, hj with
  | 0, _ => rfl
  | j + 1, hj =>
   rw [pE_succ, pE_succ]
   by_cases hij : i = j
   · subst hij; rw [rd_set_eq _ hi]; exact h2.resolve_right (by omega)
   · rw [rd_set_ne _ hij]
 have hl : lastS (l.set i y) = lastS l := by
  unfold lastS
  rw [List.length_set, if_pos (by omega), if_pos (by omega), hS _ (Nat.le_refl _)]
 refine ⟨h.cap0, by rw [List.length_set]; exact h.cnt, h.cl0, fun j hj => ?_, by rw [hl]; exact h.en⟩
 rw [List.length_set] at hj
 rw [hE j hj, hS j (by omega)]
 by_cases hij : i = j
 · subst hij; rw [rd_set_eq _ hi]; exact hk
 · rw [rd_set_ne _ hij]; exact h.tk j hj
theorem tmod_add {a b n : Int} (ha : Int.tmod a n = 0) (hb : Int.tmod b n = 0) : Int.tmod (a + b) n = 0 :=
 Int.tmod_eq_zero_of_dvd (Int.dvd_add (Int.dvd_of_tmod_eq_zero ha) (Int.dvd_of_tmod_eq_zero hb))
theorem v_append {cap cl : Int} {fin : Bool} {l : List S40} (h : VALID cap cl fin l) {i : Nat} (hi : i < l.length) {cnt : Int} (h5 : ¬ (rd_T40 l (i : Int)).f5 = 2) (hp : pkP cnt (rd_T40 l (i : Int)).f6)
 (hf : ¬ cnt > (rd_T40 l (i : Int)).f2 + (rd_T40 l (i : Int)).f3 - (rd_T40 l (i : Int)).f4) : VALID cap cl fin (l.set i (apNew (rd_T40 l (i : Int)) cnt)) := by
 refine v_set h hi _ rfl (.inl rfl) ?_
 obtain ⟨t0, t1, t2, t3, t4, t5, t6, t7, t8⟩ := h.tk i hi
 obtain ⟨p1, p2, p3, p4⟩ := hp
 generalize rd_T40 l (i : Int) = x at *
 refine ⟨t0, t1, t2, t3, t4, ⟨by show x.f2 ≤ x.f4 + cnt; omega, by show x.f4 + cnt ≤ x.f2 + x.f3; omega⟩, ?_, .inr (.inr ⟨rfl, by show ¬ x.f4 + cnt = x.f2; omega⟩), fun hle => absurd (t8 hle) h5⟩
 intro hb
 have hb : 0 < x.f6 := hb
 obtain ⟨q1, q2⟩ := t6 hb
 refine ⟨q1, ?_⟩
 show Int.tmod (x.f4 + cnt - x.f2) x.f6 = 0
 rw [show x.f4 + cnt - x.f2 = (x.f4 - x.f2) + cnt by omega]
 exact tmod_add q2 (p4.resolve_left (by omega))
theorem v_closeT {cap cl : Int} {fin : Bool} {l : List S40} (h : VALID cap cl fin l) {i : Nat} (hi : i < l.length) (h5 : (rd_T40 l (i : Int)).f5 = 1) (hl : i + 1 = l.length ∨ (rd_T40 l (i : Int)).f4 = (rd_T40 l (i : Int)).f2 + (rd_T40 l (i : Int)).f3) :
 VALID cap cl fin (l.set i ⟨(rd_T40 l (i : Int)).f0, (rd_T40 l (i : Int)).f1, (rd_T40 l (i : Int)).f2, (rd_T40 l (i : Int)).f4 - (rd_T40 l (i : Int)).f2, (rd_T40 l (i : Int)).f4, 2, (rd_T40 l (i : Int)).f6⟩) := by
 refine v_set h hi _ rfl ?_ ?_
 · rcases hl with h | h
   · exact .inr h
   · refine .inl ?_
     show (rd_T40 l (i : Int)).f2 + ((rd_T40 l (i : Int)).f4 - (rd_T40 l (i : Int)).f2) = _
     omega
 · obtain ⟨t0, t1, t2, t3, t4, t5, t6, t7, t8⟩ := h.tk i hi
   generalize rd_T40 l (i : Int) = x at *
   have h42 : ¬ x.f4 = x.f2 := by rcases t7 with ⟨a, -⟩ | ⟨a, -⟩ | ⟨-, a⟩ <;> first | exact a | omega
   refine ⟨t0, t1, t2, ⟨by show 1 ≤ x.f4 - x.f2; omega, by show x.f4 - x.f2 ≤ cap - x.f2; omega⟩, t4, ⟨t5.1, by show x.f4 ≤ x.f2 + (x.f4 - x.f2); omega⟩, ?_, .inl ⟨rfl, by show x.f4 = x.f2 + (x.f4 - x.f2); omega⟩, fun _ => rfl⟩
   intro hb
   obtain ⟨q1, q2⟩ := t6 hb
   exact ⟨q2, q2⟩
theorem v_closeS1 {cap cl : Int} {l : List S40} (fz : Bool) (h : VALID cap cl false l) (hu : l.any unfB = false) (ho : l.any (openB cl) = true) : VALID cap (cl + 1) fz l := by
 obtain ⟨x, hx, hox⟩ := List.any_eq_true.mp ho
 obtain ⟨i, hi, rfl⟩ := mem_rd hx
 have hox : cl < (rd_T40 l (i : Int)).f1 := of_decide_eq_true hox
 obtain ⟨l1, l2, l3⟩ := v_last h hi
 have hc := h.cl0
 refine ⟨h.cap0, h.cnt, ⟨by omega, by omega⟩, fun j hj => ?_, ⟨by omega, fun _ => ⟨by omega, by omega⟩⟩⟩
 obtain ⟨t0, t1, t2, t3, t4, t5, t6, t7, t8⟩ := h.tk j hj
 have h5 : (rd_T40 l (j : Int)).f5 = 2 := by
  have := List.any_eq_false.mp hu _ (rd_mem hj)
  unfold unfB at this
  simpa using this
 exact ⟨t0, t1, ⟨by omega, t2.2⟩, t3, t4, t5, t6, t7, fun _ => h5⟩
theorem v_closeS2 {cap cl : Int} {l : List S40} (h : VALID cap cl false l) (ho : l.any (openB cl) = false) (h0 : ¬ cl = 0) : VALID cap cl true l := by
 have hc := h.cl0
 have he := h.en.1
 refine ⟨h.cap0, h.cnt, h.cl0, h.tk, ⟨he, fun _ => ⟨by omega, ?_⟩⟩⟩
 have hp : 0 < l.length := by
  by_cases hp : 0 < l.length
  · exact hp
  · unfold lastS at he; rw [if_neg hp] at he; omega
 have hm := List.any_eq_false.mp ho _ (rd_mem (i := l.length - 1) (by omega))
 have hl : lastS l = (rd_T40 l ((l.length - 1 : Nat) : Int)).f1 := by
  rw [lastS_eq hp]
  have := pS_succ l (l.length - 1)
  rwa [show l.length - 1 + 1 = l.length by omega] at this
 rw [hl] at he ⊢
 unfold openB at hm
 have hm : ¬ cl < (rd_T40 l ((l.length - 1 : Nat) : Int)).f1 := fun hh => hm (decide_eq_true hh)
 omega
inductive Step (cap cl : Int) (fin : Bool) (l : List S40) (kind a b : Int) : Int → Bool → List S40 → Prop
 | reserve : kind = 0 → fin = false → pkP a b → ¬ (l.length : Int) = 99 → ¬ cl = 16 → ¬ a > cap - newStart cl l → Step cap cl fin l kind a b cl false (l ++ [⟨(l.length : Int) + 1, cl + 1, newStart cl l, a, newStart cl l, 0, b⟩])
 | append (i : Nat) : kind = 1 → i < l.length → ¬ (rd_T40 l (i : Int)).f5 = 2 → (rd_T40 l (i : Int)).f4 = a → pkP b (rd_T40 l (i : Int)).f6 → ¬ b > (rd_T40 l (i : Int)).f2 + (rd_T40 l (i : Int)).f3 - (rd_T40 l (i : Int)).f4 → Step cap cl fin l kind a b cl fin (l.set i (apNew (rd_T40 l (i : Int)) b))
 | closeT (i : Nat) : ¬ kind = 1 → i < l.length → (rd_T40 l (i : Int)).f5 = 1 → (i + 1 = l.length ∨ (rd_T40 l (i : Int)).f4 = (rd_T40 l (i : Int)).f2 + (rd_T40 l (i : Int)).f3) →
  Step cap cl fin l kind a b cl fin (l.set i ⟨(rd_T40 l (i : Int)).f0, (rd_T40 l (i : Int)).f1, (rd_T40 l (i : Int)).f2, (rd_T40 l (i : Int)).f4 - (rd_T40 l (i : Int)).f2, (rd_T40 l (i : Int)).f4, 2, (rd_T40 l (i : Int)).f6⟩)
 | closeS1 (fz : Bool) : ¬ kind = 1 → fin = false → l.any unfB = false → l.any (openB cl) = true → Step cap cl fin l kind a b (cl + 1) fz l
 | closeS2 : ¬ kind = 1 → fin = false → l.any unfB = false → l.any (openB cl) = false → ¬ cl = 0 → Step cap cl fin l kind a b cl true l
theorem step_of {cap cl : Int} {fin : Bool} {l : List S40} {kind a b : Int} {fz : Bool} (h : VALID cap cl fin l) (hb : fin = true → lastS l = cl) (h0 : (opDo cap cl fin l kind a b fz).2.2.2 = 0) :
 Step cap cl fin l kind a b (opDo cap cl fin l kind a b fz).1 (opDo cap cl fin l kind a b fz).2.1 (opDo cap cl fin l kind a b fz).2.2.1 := by
 have hv := (valid_iff cap cl fin l).2 h
 unfold opDo at h0 ⊢
 rw [if_pos hv] at h0 ⊢
 by_cases hk0 : kind = 0
 · rw [if_pos hk0] at h0 ⊢
   unfold opReserve at h0 ⊢
   by_cases hf : fin = true
   · rw [if_pos hf] at h0; exact absurd h0 (by decide)
   · rw [if_neg hf] at h0 ⊢
     by_cases hp : pkP a b
     · rw [if_pos hp] at h0 ⊢
       by_cases h9 : (l.length : Int) = 99 ∨ cl = 16
       · rw [if_pos h9] at h0; exact absurd h0 (by decide)
       · rw [if_neg h9] at h0 ⊢
         by_cases hc : a > cap - newStart cl l
         · rw [if_pos hc] at h0; exact absurd h0 (by decide)
         · rw [if_neg hc]
           have hff : fin = false := Bool.eq_false_iff.mpr hf
           subst hff
           exact .reserve hk0 rfl hp (fun h => h9 (.inl h)) (fun h => h9 (.inr h)) hc
     · rw [if_neg hp] at h0; exact absurd h0 (by decide)
 · rw [if_neg hk0] at h0 ⊢
   by_cases hk1 : kind = 1
   · rw [if_pos hk1] at h0 ⊢
     unfold opAppend at h0 ⊢
     cases hfi : apFind l a l.length with
     | none => rw [hfi] at h0; exact absurd h0 (by show ¬ (2 : Int) = 0; decide)
     | some i =>
      rw [hfi] at h0
      obtain ⟨hi, h5, h4⟩ := apFind_some hfi
      unfold apRes at h0 ⊢
      dsimp only at h0 ⊢
      by_cases hp : pkP b (rd_T40 l (i : Int)).f6
      · rw [if_pos hp] at h0 ⊢
        by_cases hc : b > (rd_T40 l (i : Int)).f2 + (rd_T40 l (i : Int)).f3 - (rd_T40 l (i : Int)).f4
        · rw [if_pos hc] at h0; exact absurd h0 (by decide)
        · rw [if_neg hc]
          exact .append i hk1 hi h5 h4 hp hc
      · rw [if_neg hp] at h0; exact absurd h0 (by decide)
   · rw [if_neg hk1] at h0 ⊢
     by_cases hk2 : kind = 2
     · rw [if_pos hk2] at h0 ⊢
       unfold opCloseT at h0 ⊢
       by_cases hn : a < 1 ∨ a > (l.length : Int)
       · rw [if_pos hn] at h0; exact absurd h0 (by decide)
       · rw [if_neg hn] at h0 ⊢
         obtain ⟨i, hi⟩ : ∃ i : Nat, (i : Int) = a - 1 := ⟨(a - 1).toNat, by omega⟩
         rw [← hi] at h0 ⊢
         by_cases hc : (rd_T40 l (i : Int)).f5 = 1 ∧ (a = (l.length : Int) ∨ (rd_T40 l (i : Int)).f4 = (rd_T40 l (i : Int)).f2 + (rd_T40 l (i : Int)).f3)
         · rw [if_pos hc, Int.toNat_natCast]
           exact .closeT i hk1 (by omega) hc.1 (hc.2.imp (fun h => by omega) id)
         · rw [if_neg hc] at h0; exact absurd h0 (by decide)
     · rw [if_neg hk2] at h0 ⊢
       unfold opCloseS at h0 ⊢
       by_cases hf : fin = true
       · rw [if_pos hf] at h0; exact absurd h0 (by decide)
       · rw [if_neg hf] at h0 ⊢
         have hff : fin = false := Bool.eq_false_iff.mpr hf
         cases hu : l.any unfB with
         | true => rw [hu, if_pos rfl] at h0; exact absurd h0 (by decide)
         | false =>
          rw [hu, if_neg (by decide)] at h0
          rw [if_neg (by decide)]
          cases ho : l.any (openB cl) with
          | true => rw [if_pos rfl]; exact .closeS1 fz hk1 hff hu ho
          | false =>
           rw [ho, if_neg (by decide)] at h0
           rw [if_neg (by decide)]
           by_cases hz : fz = true ∧ ¬ cl = 0
           · rw [if_pos hz]; exact .closeS2 hk1 hff hu ho hz.2
           · rw [if_neg hz] at h0; exact absurd h0 (by decide)
theorem step_valid {cap cl : Int} {fin : Bool} {l : List S40} {kind a b cl' : Int} {fin' : Bool} {l' : List S40} (h : VALID cap cl fin l) (hs : Step cap cl fin l kind a b cl' fin' l') : VALID cap cl' fin' l' := by
 cases hs with
 | reserve _ hf hp hn hc ha => subst hf; exact v_reserve h hp hn hc ha
 | append i _ hi h5 _ hp hf => exact v_append h hi h5 hp hf
 | closeT i _ hi h5 hl => exact v_closeT h hi h5 hl
 | closeS1 _ _ hf hu ho => subst hf; exact v_closeS1 _ h hu ho
 | closeS2 _ hf hu ho h0 => subst hf; exact v_closeS2 h ho h0
end Go.Proofs.Ytjhepdcdhabcjaa.G
namespace Go.Proofs.Ytjhepdcdhabcjaa.G
open Go.RowKit Go.Proofs.YtjhepdcdhabcjaaW.PrintWords Go.Proofs.YtjhepdcdhabcjaaW.PrintLast Go.Proofs.YtjhepdcdhabcjaaW.PrintMore
attribute [local go_sem] max2_int min2_int max_two min_two max_three min_three max_four min_four   -- for this text's walks alone
set_option linter.unusedVariables false
set_option linter.unusedSimpArgs false
mutual
def toc_Find.l0 : Nat → Int → List (S40) → Int → Int → Option (Int × Bool)
 | 0, _, _, _, _ => none
 | k + 1, x1, x9, x10, x11 => if x11 < x10 then (if 0 ≤ x11 then (if x11 < (x9.length : Int) then (if x1 ≥ ((rd_T40 x9 x11).f2) then ((toc_end.f ((rd_T40 x9 x11).f0) ((rd_T40 x9 x11).f1) ((rd_T40 x9 x11).f2) ((rd_T40 x9 x11).f3) ((rd_T40 x9 x11).f4) ((rd_T40 x9 x11).f5) ((rd_T40 x9 x11).f6)).bind fun t324 => (toc_Find.j1 k x1 x9 x10 x11 (decide (x1 < t324)) ((rd_T40 x9 x11).f0) ((rd_T40 x9 x11).f1) ((rd_T40 x9 x11).f2) ((rd_T40 x9 x11).f3) ((rd_T40 x9 x11).f4) ((rd_T40 x9 x11).f5) ((rd_T40 x9 x11).f6))) else (toc_Find.j1 k x1 x9 x10 x11 false ((rd_T40 x9 x11).f0) ((rd_T40 x9 x11).f1) ((rd_T40 x9 x11).f2) ((rd_T40 x9 x11).f3) ((rd_T40 x9 x11).f4) ((rd_T40 x9 x11).f5) ((rd_T40 x9 x11).f6))) else (none)) else (none)) else (some (0, false))
def toc_Find.j1 : Nat → Int → List (S40) → Int → Int → Bool → Int → Int → Int → Int → Int → Int → Int → Option (Int × Bool)
 | 0, _, _, _, _, _, _, _, _, _, _, _, _ => none
 | k + 1, x1, x9, x10, x11, x24, x324000, x324001, x324002, x324003, x324004, x324005, x324006 => if x24 = true then (some (x324000, true)) else (toc_Find.l0 k x1 x9 x10 (wrap64 (x11 + 1)))
end
def toc_Find.f (k : Nat) (a0_0 : Int) (a0_1 : Bool) (l0_2 : List (S40)) (a1 : Int) : Option (Int × Bool) := toc_Find.l0 k a1 l0_2 (l0_2.length : Int) 0
theorem toc_Find.mono_l : ∀ k, (∀ y0 y1 y2 y3, LeO (toc_Find.l0 k y0 y1 y2 y3) (toc_Find.l0 (k + 1) y0 y1 y2 y3)) ∧ (∀ y0 y1 y2 y3 y4 y5 y6 y7 y8 y9 y10 y11, LeO (toc_Find.j1 k y0 y1 y2 y3 y4 y5 y6 y7 y8 y9 y10 y11) (toc_Find.j1 (k + 1) y0 y1 y2 y3 y4 y5 y6 y7 y8 y9 y10 y11))
 | 0 => ⟨fun _ _ _ _ r h => by simp [toc_Find.l0] at h, fun _ _ _ _ _ _ _ _ _ _ _ _ r h => by simp [toc_Find.j1] at h⟩
 | k + 1 => by
  obtain ⟨ih0, ih1⟩ := toc_Find.mono_l k
  refine ⟨?_, ?_⟩
  · intro y0 y1 y2 y3
    unfold toc_Find.l0
    repeat' first
    | (with_reducible exact ih0 _ _ _ _)
    | (with_reducible exact ih1 _ _ _ _ _ _ _ _ _ _ _ _)
    | (with_reducible exact LeO.refl _)
    | (with_reducible exact LeO.none _)
    | (with_reducible refine LeO.ite ?_ ?_)
    | (with_reducible refine LeO.bind ?_ (fun _ => ?_))
    | exact ih0 _ _ _ _
    | exact ih1 _ _ _ _ _ _ _ _ _ _ _ _
    | exact LeO.none _
    | refine LeO.ite ?_ ?_
    | refine LeO.bind ?_ (fun _ => ?_)
  · intro y0 y1 y2 y3 y4 y5 y6 y7 y8 y9 y10 y11
    unfold toc_Find.j1
    repeat' first
    | (with_reducible exact ih0 _ _ _ _)
    | (with_reducible exact ih1 _ _ _ _ _ _ _ _ _ _ _ _)
    | (with_reducible exact LeO.refl _)
    | (with_reducible exact LeO.none _)
    | (with_reducible refine LeO.ite ?_ ?_)
    | (with_reducible refine LeO.bind ?_ (fun _ => ?_))
    | exact ih0 _ _ _ _
    | exact ih1 _ _ _ _ _ _ _ _ _ _ _ _
    | exact LeO.none _
    | refine LeO.ite ?_ ?_
    | refine LeO.bind ?_ (fun _ => ?_)
theorem toc_Find.mono : ∀ a0 a1 a2 a3 k, LeO (toc_Find.f k a0 a1 a2 a3) (toc_Find.f (k + 1) a0 a1 a2 a3) := by
 intro a0 a1 a2 a3 k
 obtain ⟨ih0, ih1⟩ := toc_Find.mono_l k
 unfold toc_Find.f
 repeat' first
  | (with_reducible exact ih0 _ _ _ _)
  | (with_reducible exact ih1 _ _ _ _ _ _ _ _ _ _ _ _)
  | (with_reducible exact LeO.refl _)
  | (with_reducible exact LeO.none _)
  | (with_reducible refine LeO.ite ?_ ?_)
  | (with_reducible refine LeO.bind ?_ (fun _ => ?_))
  | exact ih0 _ _ _ _
  | exact ih1 _ _ _ _ _ _ _ _ _ _ _ _
  | exact LeO.none _
  | refine LeO.ite ?_ ?_
  | refine LeO.bind ?_ (fun _ => ?_)
set_option maxHeartbeats 8000000 in
set_option maxRecDepth 100000 in
theorem toc_Find.calls (k : Nat) (a0_0 : Int) (a0_1 : Bool) (A0_2 : Option Addr) (c0_2 : Nat) (l0_2 : List (S40)) (a1 : Int) (r1 : Int) (r2 : Bool) (w : World) (hr0_2 : Kd.C k40 w A0_2 l0_2.length l0_2) (hc0_2 : l0_2.length ≤ c0_2) (h : toc_Find.f k a0_0 a0_1 l0_2 a1 = some (r1, r2)) :
 Calls Try.prog 13 #[.agg #[.int .i64 a0_0, .bool a0_1, .slice A0_2 l0_2.length c0_2], .int .i64 a1] w fun e w' => e = .returned (.tuple #[.int .i64 r1, .bool r2]) ∧ Below w.heap.size w w' := by
 have hu24 := Try.underlying24
 have hu40 := Try.underlying40
 have HR0_2 := Aside0.mk hr0_2
 have HC0_2 := Aside0.mk hc0_2
 clear hr0_2 hc0_2
 have HB := Aside0.mk (Below.refl w.heap.size w)
 have H : (toc_Find.l0 k a1 l0_2 (l0_2.length : Int) 0) = some (r1, r2) := h
 clear h
 have H' := Aside0.mk H
 clear H
 go_enter Try.func13, Try.ntmps13
 go_wp2_with (first | ((with_reducible refine gate_dst (N := 2) rfl ?_); refine box_event ?hg (N := 2) ?hd (cs := #[.int .i64 a0_0, .bool a0_1, .slice A0_2 l0_2.length c0_2]) (t := 24) ?hr ?_; (case hd => rfl); (case hg => rfl); (case hr => first | (go_simp; done) | (go_simp; rfl)); intro gb321 hg w3 hbox hb; have n0_ := Aside0.mk (below_step (by repeat (first | (with_reducible first | exact HB.out | apply below_alloc | apply pw_below_drewN | apply below_drew1) | exact HB.out)) hb); have n1_ := Aside0.mk (hbox); have n2_ := Aside0.mk ((by rw [hg]; exact (below_size (by repeat (first | (with_reducible first | exact HB.out | apply below_alloc | apply pw_below_drewN | apply below_drew1) | exact HB.out))) : w.heap.size ≤ gb321)); have n3_ := Aside0.mk ((by rw [hg]; exact (below_size (by repeat (first | (with_reducible first | exact HB.out | apply below_alloc | apply pw_below_drewN | apply below_drew1) | exact HB.out))) : w.heap.size ≤ gb321)); clear HB; have HB := n0_; have BK321 := n1_; have GW321 := n2_; have GE321 := n3_; clear n0_ n1_ n2_ n3_; clear hb hbox hg; obtain ⟨hcz4_0, hcz4_1, hcz4_2⟩ := cel3 BK321.out; obtain ⟨hfz4_0, hfz4_1, hfz4_2⟩ := frz3 BK321.out))
 go_loopg [11] k (fun kq v11 w' => ∃ (x11_1 : Int), v11 = .int .i64 x11_1 ∧ Aside0 (toc_Find.l0 kq a1 l0_2 (l0_2.length : Int) x11_1 = some (r1, r2)) ∧ Aside0 (kq ≤ k) ∧ Aside0 (w'.heap[gb321]? = some (.cells #[.int .i64 a0_0, .bool a0_1, (.slice A0_2 l0_2.length c0_2)] 24 (0, 0))) ∧ Aside0 (Below w.heap.size w w'))
 case atStart => exact ⟨(0), (by first | rfl | (simp; done) | (simp [*]; done)), H', ⟨Nat.le_refl _⟩, ⟨by (with_reducible repeat (first | refine blk_drewN ?_ _ | refine blk_drew ?_ | refine blk_alloc ?_ _)); exact BK321.out⟩, ⟨by repeat (first | (with_reducible first | exact HB.out | apply below_alloc | apply pw_below_drewN | apply below_drew1 | refine below_set ?_ GE321.out) | exact HB.out)⟩⟩
 case round =>
  clear H'
  try clear c1
  try clear p2
  try clear hcz4_0
  try clear hcz4_1
  try clear hcz4_2
  try clear hfz4_0
  try clear hfz4_1
  try clear hfz4_2
  obtain ⟨x11_1, rfl, HA, HK1, BK321, HB⟩ := hrel
  cases gk with
  | zero => exact absurd HA.out (by simp [toc_Find.l0])
  | succ k1 =>
   have H := HA.out
   clear HA
   simp only [toc_Find.l0] at H
   by_cases c5 : x11_1 < (l0_2.length : Int)
   · rw [if_pos c5] at H
     have c5b0 : decide (x11_1 < (l0_2.length : Int)) = true := decide_eq_true c5
     clear c5
     by_cases c6 : 0 ≤ x11_1
     · rw [if_pos c6] at H
       have c6b0 : decide (0 ≤ x11_1) = true := decide_eq_true c6
       clear c6
       by_cases c7 : x11_1 < (l0_2.length : Int)
       · rw [if_pos c7] at H
         have c7b0 : decide (x11_1 < (l0_2.length : Int)) = true := decide_eq_true c7
         clear c7
         have HC8 := Aside0.mk H
         clear H
         have p322 : 0 ≤ (x11_1 : Int) := of_decide_eq_true (by first | (with_reducible assumption) | assumption)
         have q322 : x11_1 < (l0_2.length : Int) := of_decide_eq_true (by first | (with_reducible assumption) | assumption)
         obtain ⟨ad322, e322, hx322_0, hx322_1, hx322_2, hx322_3, hx322_4, hx322_5, hx322_6⟩ := at_T40 HR0_2.out x11_1 p322 q322
         cases e322
         replace hx322_0 := upc HB.out hx322_0
         replace hx322_1 := upc HB.out hx322_1
         replace hx322_2 := upc HB.out hx322_2
         replace hx322_3 := upc HB.out hx322_3
         replace hx322_4 := upc HB.out hx322_4
         replace hx322_5 := upc HB.out hx322_5
         replace hx322_6 := upc HB.out hx322_6
         replace p322 := eq_true p322
         replace q322 := eq_true q322
         go_upto_region 4 with (first | ((with_reducible refine gate_dst (N := 7) rfl ?_); refine box_event ?hg (N := 7) ?hd (cs := #[.int .i64 0, .int .i64 0, .int .i64 0, .int .i64 0, .int .i64 0, .int .i64 0, .int .i64 0]) (t := 40) ?hr ?_; (case hd => rfl); (case hg => rfl); (case hr => first | (go_simp; done) | (go_simp; rfl)); intro gb323 hg w9 hbox hb; have n0_ := Aside0.mk (blk_below (g := gb321) (o := .cells #[.int .i64 a0_0, .bool a0_1, .slice (some ad322) l0_2.length c0_2] 24 (0, 0)) (by (with_reducible repeat (first | refine blk_drewN ?_ _ | refine blk_drew ?_ | refine blk_alloc ?_ _)); exact BK321.out) hb); have n1_ := Aside0.mk (below_step (by repeat (first | (with_reducible first | exact HB.out | apply below_alloc | apply pw_below_drewN | apply below_drew1 | refine below_set ?_ GE321.out) | exact HB.out)) hb); have n2_ := Aside0.mk (hbox); have n3_ := Aside0.mk ((by rw [hg]; exact (below_size (by repeat (first | (with_reducible first | exact HB.out | apply below_alloc | apply pw_below_drewN | apply below_drew1 | refine below_set ?_ GE321.out) | exact HB.out))) : w.heap.size ≤ gb323)); have n4_ := Aside0.mk ((by rw [hg]; exact (below_size (by repeat (first | (with_reducible first | exact HB.out | apply below_alloc | apply pw_below_drewN | apply below_drew1 | refine below_set ?_ GE321.out) | exact HB.out))) : w.heap.size ≤ gb323)); have n5_ := Aside0.mk ((by rw [hg]; exact Nat.ne_of_lt (blk_lt (g := gb321) (o := .cells #[.int .i64 a0_0, .bool a0_1, .slice (some ad322) l0_2.length c0_2] 24 (0, 0)) (by (with_reducible repeat (first | refine blk_drewN ?_ _ | refine blk_drew ?_ | refine blk_alloc ?_ _)); exact BK321.out)) : gb321 ≠ gb323)); have n6_ := Aside0.mk ((by rw [hg]; exact Nat.ne_of_gt (blk_lt (g := gb321) (o := .cells #[.int .i64 a0_0, .bool a0_1, .slice (some ad322) l0_2.length c0_2] 24 (0, 0)) (by (with_reducible repeat (first | refine blk_drewN ?_ _ | refine blk_drew ?_ | refine blk_alloc ?_ _)); exact BK321.out)) : gb323 ≠ gb321)); clear BK321; clear HB; have BK321 := n0_; have HB := n1_; have BK323 := n2_; have GW323 := n3_; have GE323 := n4_; have NB321_323 := n5_; have NB323_321 := n6_; clear n0_ n1_ n2_ n3_ n4_ n5_ n6_; clear hb hbox hg; have hnb10 := NB323_321.out; have hnc10 := NB321_323.out; obtain ⟨hcz11_0, hcz11_1, hcz11_2, hcz11_3, hcz11_4, hcz11_5, hcz11_6⟩ := cel7 BK323.out; obtain ⟨hfz11_0, hfz11_1, hfz11_2, hfz11_3, hfz11_4, hfz11_5, hfz11_6⟩ := frz7 BK323.out))
         (try simp only [Act.put, List.setIfInBounds_toArray, List.set_cons_zero, List.set_cons_succ])
         go_cut [24] (fun v24 wc => ∃ (kq : Nat) (x24_7 : Bool), v24 = .bool x24_7 ∧ Aside0 (toc_Find.j1 kq a1 l0_2 (l0_2.length : Int) x11_1 x24_7 ((rd_T40 l0_2 x11_1).f0) ((rd_T40 l0_2 x11_1).f1) ((rd_T40 l0_2 x11_1).f2) ((rd_T40 l0_2 x11_1).f3) ((rd_T40 l0_2 x11_1).f4) ((rd_T40 l0_2 x11_1).f5) ((rd_T40 l0_2 x11_1).f6) = some (r1, r2)) ∧ Aside0 (kq ≤ k1) ∧ Aside0 (wc.heap[gb321]? = some (.cells #[.int .i64 a0_0, .bool a0_1, (.slice (some ad322) l0_2.length c0_2)] 24 (0, 0))) ∧ Aside0 (wc.heap[gb323]? = some (.cells #[.int .i64 ((rd_T40 l0_2 x11_1).f0), .int .i64 ((rd_T40 l0_2 x11_1).f1), .int .i64 ((rd_T40 l0_2 x11_1).f2), .int .i64 ((rd_T40 l0_2 x11_1).f3), .int .i64 ((rd_T40 l0_2 x11_1).f4), .int .i64 ((rd_T40 l0_2 x11_1).f5), .int .i64 ((rd_T40 l0_2 x11_1).f6)] 40 (0, 0))) ∧ Aside0 (Below w.heap.size w wc))
         case first =>
          have H := HC8.out
          clear HC8
          by_cases c12 : a1 ≥ ((rd_T40 l0_2 x11_1).f2)
          · rw [if_pos c12] at H
            have c12b0 : decide (((rd_T40 l0_2 x11_1).f2) ≤ a1) = true := decide_eq_true c12
            clear c12
            (first | rw [c12b0] | (simp only [i64_w, i32_w]; rw [c12b0]) | skip)
            replace H := Option.bind_eq_some_iff.mp H
            obtain ⟨t324, A130, H⟩ := H
            replace H : (toc_Find.j1 k1 a1 l0_2 (l0_2.length : Int) x11_1 (decide (a1 < t324)) ((rd_T40 l0_2 x11_1).f0) ((rd_T40 l0_2 x11_1).f1) ((rd_T40 l0_2 x11_1).f2) ((rd_T40 l0_2 x11_1).f3) ((rd_T40 l0_2 x11_1).f4) ((rd_T40 l0_2 x11_1).f5) ((rd_T40 l0_2 x11_1).f6)) = some (r1, r2) := H
            have A13 := Aside0.mk A130
            clear A130
            have H' := Aside0.mk H
            clear H
            have hnb14 := NB323_321.out
            have hnc14 := NB321_323.out
            obtain ⟨hcz15_0, hcz15_1, hcz15_2, hcz15_3, hcz15_4, hcz15_5, hcz15_6⟩ := cel7 BK323.out
            obtain ⟨hfz15_0, hfz15_1, hfz15_2, hfz15_3, hfz15_4, hfz15_5, hfz15_6⟩ := frz7 BK323.out
            go_wp2_with (first | (go_at_call 26; (with_reducible refine (toc_end.calls ((rd_T40 l0_2 x11_1).f0) ((rd_T40 l0_2 x11_1).f1) ((rd_T40 l0_2 x11_1).f2) ((rd_T40 l0_2 x11_1).f3) ((rd_T40 l0_2 x11_1).f4) ((rd_T40 l0_2 x11_1).f5) ((rd_T40 l0_2 x11_1).f6) t324 _ A13.out).mono ?_); rintro e w16 ⟨rfl, hb⟩; have n0_ := Aside0.mk (blk_below (g := gb321) (o := .cells #[.int .i64 a0_0, .bool a0_1, .slice (some ad322) l0_2.length c0_2] 24 (0, 0)) (by (with_reducible repeat (first | refine blk_drewN ?_ _ | refine blk_drew ?_ | refine blk_alloc ?_ _)); refine blk_far ?_ NB321_323.out _; (with_reducible repeat (first | refine blk_drewN ?_ _ | refine blk_drew ?_ | refine blk_alloc ?_ _)); refine blk_far ?_ NB321_323.out _; (with_reducible repeat (first | refine blk_drewN ?_ _ | refine blk_drew ?_ | refine blk_alloc ?_ _)); refine blk_far ?_ NB321_323.out _; (with_reducible repeat (first | refine blk_drewN ?_ _ | refine blk_drew ?_ | refine blk_alloc ?_ _)); refine blk_far ?_ NB321_323.out _; (with_reducible repeat (first | refine blk_drewN ?_ _ | refine blk_drew ?_ | refine blk_alloc ?_ _)); refine blk_far ?_ NB321_323.out _; (with_reducible repeat (first | refine blk_drewN ?_ _ | refine blk_drew ?_ | refine blk_alloc ?_ _)); refine blk_far ?_ NB321_323.out _; (with_reducible repeat (first | refine blk_drewN ?_ _ | refine blk_drew ?_ | refine blk_alloc ?_ _)); refine blk_far ?_ NB321_323.out _; (with_reducible repeat (first | refine blk_drewN ?_ _ | refine blk_drew ?_ | refine blk_alloc ?_ _)); exact BK321.out) hb); have n1_ := Aside0.mk (blk_below (g := gb323) (o := .cells #[.int .i64 ((rd_T40 l0_2 x11_1).f0), .int .i64 ((rd_T40 l0_2 x11_1).f1), .int .i64 ((rd_T40 l0_2 x11_1).f2), .int .i64 ((rd_T40 l0_2 x11_1).f3), .int .i64 ((rd_T40 l0_2 x11_1).f4), .int .i64 ((rd_T40 l0_2 x11_1).f5), .int .i64 ((rd_T40 l0_2 x11_1).f6)] 40 (0, 0)) (by (with_reducible repeat (first | refine blk_drewN ?_ _ | refine blk_drew ?_ | refine blk_alloc ?_ _)); refine blk_put (cs := #[.int .i64 ((rd_T40 l0_2 x11_1).f0), .int .i64 ((rd_T40 l0_2 x11_1).f1), .int .i64 ((rd_T40 l0_2 x11_1).f2), .int .i64 ((rd_T40 l0_2 x11_1).f3), .int .i64 ((rd_T40 l0_2 x11_1).f4), .int .i64 ((rd_T40 l0_2 x11_1).f5), .int .i64 0]) ?_ 6 _ rfl; (with_reducible repeat (first | refine blk_drewN ?_ _ | refine blk_drew ?_ | refine blk_alloc ?_ _)); refine blk_put (cs := #[.int .i64 ((rd_T40 l0_2 x11_1).f0), .int .i64 ((rd_T40 l0_2 x11_1).f1), .int .i64 ((rd_T40 l0_2 x11_1).f2), .int .i64 ((rd_T40 l0_2 x11_1).f3), .int .i64 ((rd_T40 l0_2 x11_1).f4), .int .i64 0, .int .i64 0]) ?_ 5 _ rfl; (with_reducible repeat (first | refine blk_drewN ?_ _ | refine blk_drew ?_ | refine blk_alloc ?_ _)); refine blk_put (cs := #[.int .i64 ((rd_T40 l0_2 x11_1).f0), .int .i64 ((rd_T40 l0_2 x11_1).f1), .int .i64 ((rd_T40 l0_2 x11_1).f2), .int .i64 ((rd_T40 l0_2 x11_1).f3), .int .i64 0, .int .i64 0, .int .i64 0]) ?_ 4 _ rfl; (with_reducible repeat (first | refine blk_drewN ?_ _ | refine blk_drew ?_ | refine blk_alloc ?_ _)); refine blk_put (cs := #[.int .i64 ((rd_T40 l0_2 x11_1).f0), .int .i64 ((rd_T40 l0_2 x11_1).f1), .int .i64 ((rd_T40 l0_2 x11_1).f2), .int .i64 0, .int .i64 0, .int .i64 0, .int .i64 0]) ?_ 3 _ rfl; (with_reducible repeat (first | refine blk_drewN ?_ _ | refine blk_drew ?_ | refine blk_alloc ?_ _)); refine blk_put (cs := #[.int .i64 ((rd_T40 l0_2 x11_1).f0), .int .i64 ((rd_T40 l0_2 x11_1).f1), .int .i64 0, .int .i64 0, .int .i64 0, .int .i64 0, .int .i64 0]) ?_ 2 _ rfl; (with_reducible repeat (first | refine blk_drewN ?_ _ | refine blk_drew ?_ | refine blk_alloc ?_ _)); refine blk_put (cs := #[.int .i64 ((rd_T40 l0_2 x11_1).f0), .int .i64 0, .int .i64 0, .int .i64 0, .int .i64 0, .int .i64 0, .int .i64 0]) ?_ 1 _ rfl; (with_reducible repeat (first | refine blk_drewN ?_ _ | refine blk_drew ?_ | refine blk_alloc ?_ _)); refine blk_put (cs := #[.int .i64 0, .int .i64 0, .int .i64 0, .int .i64 0, .int .i64 0, .int .i64 0, .int .i64 0]) ?_ 0 _ rfl; (with_reducible repeat (first | refine blk_drewN ?_ _ | refine blk_drew ?_ | refine blk_alloc ?_ _)); exact BK323.out) hb); have n2_ := Aside0.mk (below_step (by repeat (first | (with_reducible first | exact HB.out | apply below_alloc | apply pw_below_drewN | apply below_drew1 | refine below_set ?_ GE321.out | refine below_set ?_ GE323.out) | exact HB.out)) hb); clear BK321; clear BK323; clear HB; have BK321 := n0_; have BK323 := n1_; have HB := n2_; clear n0_ n1_ n2_; (try clear hb); (try clear hb2); (try clear hk); (try clear hi)))
            go_meet
            case rel => exact ⟨_, (decide (a1 < t324)), (by first | rfl | (simp; done) | (simp [*]; done)), H', ⟨by have := HK1.out; first | omega | exact Nat.le_refl _⟩, ⟨by (with_reducible repeat (first | refine blk_drewN ?_ _ | refine blk_drew ?_ | refine blk_alloc ?_ _)); exact BK321.out⟩, ⟨by (with_reducible repeat (first | refine blk_drewN ?_ _ | refine blk_drew ?_ | refine blk_alloc ?_ _)); exact BK323.out⟩, ⟨by repeat (first | (with_reducible first | exact HB.out | apply below_alloc | apply pw_below_drewN | apply below_drew1 | refine below_set ?_ GE321.out | refine below_set ?_ GE323.out) | exact HB.out)⟩⟩
          · rw [if_neg c12] at H
            have c12b0 : decide (((rd_T40 l0_2 x11_1).f2) ≤ a1) = false := decide_eq_false c12
            clear c12
            (first | rw [c12b0] | (simp only [i64_w, i32_w]; rw [c12b0]) | skip)
            have H' := Aside0.mk H
            clear H
            have hnb17 := NB323_321.out
            have hnc17 := NB321_323.out
            obtain ⟨hcz18_0, hcz18_1, hcz18_2, hcz18_3, hcz18_4, hcz18_5, hcz18_6⟩ := cel7 BK323.out
            obtain ⟨hfz18_0, hfz18_1, hfz18_2, hfz18_3, hfz18_4, hfz18_5, hfz18_6⟩ := frz7 BK323.out
            go_wp2
            go_meet
            case rel => exact ⟨_, (false), (by first | rfl | (simp; done) | (simp [*]; done)), H', ⟨by have := HK1.out; first | omega | exact Nat.le_refl _⟩, ⟨by (with_reducible repeat (first | refine blk_drewN ?_ _ | refine blk_drew ?_ | refine blk_alloc ?_ _)); refine blk_far ?_ NB321_323.out _; (with_reducible repeat (first | refine blk_drewN ?_ _ | refine blk_drew ?_ | refine blk_alloc ?_ _)); refine blk_far ?_ NB321_323.out _; (with_reducible repeat (first | refine blk_drewN ?_ _ | refine blk_drew ?_ | refine blk_alloc ?_ _)); refine blk_far ?_ NB321_323.out _; (with_reducible repeat (first | refine blk_drewN ?_ _ | refine blk_drew ?_ | refine blk_alloc ?_ _)); refine blk_far ?_ NB321_323.out _; (with_reducible repeat (first | refine blk_drewN ?_ _ | refine blk_drew ?_ | refine blk_alloc ?_ _)); refine blk_far ?_ NB321_323.out _; (with_reducible repeat (first | refine blk_drewN ?_ _ | refine blk_drew ?_ | refine blk_alloc ?_ _)); refine blk_far ?_ NB321_323.out _; (with_reducible repeat (first | refine blk_drewN ?_ _ | refine blk_drew ?_ | refine blk_alloc ?_ _)); refine blk_far ?_ NB321_323.out _; (with_reducible repeat (first | refine blk_drewN ?_ _ | refine blk_drew ?_ | refine blk_alloc ?_ _)); exact BK321.out⟩, ⟨by (with_reducible repeat (first | refine blk_drewN ?_ _ | refine blk_drew ?_ | refine blk_alloc ?_ _)); refine blk_put (cs := #[.int .i64 ((rd_T40 l0_2 x11_1).f0), .int .i64 ((rd_T40 l0_2 x11_1).f1), .int .i64 ((rd_T40 l0_2 x11_1).f2), .int .i64 ((rd_T40 l0_2 x11_1).f3), .int .i64 ((rd_T40 l0_2 x11_1).f4), .int .i64 ((rd_T40 l0_2 x11_1).f5), .int .i64 0]) ?_ 6 _ rfl; (with_reducible repeat (first | refine blk_drewN ?_ _ | refine blk_drew ?_ | refine blk_alloc ?_ _)); refine blk_put (cs := #[.int .i64 ((rd_T40 l0_2 x11_1).f0), .int .i64 ((rd_T40 l0_2 x11_1).f1), .int .i64 ((rd_T40 l0_2 x11_1).f2), .int .i64 ((rd_T40 l0_2 x11_1).f3), .int .i64 ((rd_T40 l0_2 x11_1).f4), .int .i64 0, .int .i64 0]) ?_ 5 _ rfl; (with_reducible repeat (first | refine blk_drewN ?_ _ | refine blk_drew ?_ | refine blk_alloc ?_ _)); refine blk_put (cs := #[.int .i64 ((rd_T40 l0_2 x11_1).f0), .int .i64 ((rd_T40 l0_2 x11_1).f1), .int .i64 ((rd_T40 l0_2 x11_1).f2), .int .i64 ((rd_T40 l0_2 x11_1).f3), .int .i64 0, .int .i64 0, .int .i64 0]) ?_ 4 _ rfl; (with_reducible repeat (first | refine blk_drewN ?_ _ | refine blk_drew ?_ | refine blk_alloc ?_ _)); refine blk_put (cs := #[.int .i64 ((rd_T40 l0_2 x11_1).f0), .int .i64 ((rd_T40 l0_2 x11_1).f1), .int .i64 ((rd_T40 l0_2 x11_1).f2), .int .i64 0, .int .i64 0, .int .i64 0, .int .i64 0]) ?_ 3 _ rfl; (with_reducible repeat (first | refine blk_drewN ?_ _ | refine blk_drew ?_ | refine blk_alloc ?_ _)); refine blk_put (cs := #[.int .i64 ((rd_T40 l0_2 x11_1).f0), .int .i64 ((rd_T40 l0_2 x11_1).f1), .int .i64 0, .int .i64 0, .int .i64 0, .int .i64 0, .int .i64 0]) ?_ 2 _ rfl; (with_reducible repeat (first | refine blk_drewN ?_ _ | refine blk_drew ?_ | refine blk_alloc ?_ _)); refine blk_put (cs := #[.int .i64 ((rd_T40 l0_2 x11_1).f0), .int .i64 0, .int .i64 0, .int .i64 0, .int .i64 0, .int .i64 0, .int .i64 0]) ?_ 1 _ rfl; (with_reducible repeat (first | refine blk_drewN ?_ _ | refine blk_drew ?_ | refine blk_alloc ?_ _)); refine blk_put (cs := #[.int .i64 0, .int .i64 0, .int .i64 0, .int .i64 0, .int .i64 0, .int .i64 0, .int .i64 0]) ?_ 0 _ rfl; (with_reducible repeat (first | refine blk_drewN ?_ _ | refine blk_drew ?_ | refine blk_alloc ?_ _)); exact BK323.out⟩, ⟨by repeat (first | (with_reducible first | exact HB.out | apply below_alloc | apply pw_below_drewN | apply below_drew1 | refine below_set ?_ GE321.out | refine below_set ?_ GE323.out) | exact HB.out)⟩⟩
         case rest =>
          clear HC8
          try clear c1
          try clear p2
          try clear p3
          try clear q3
          try clear hx3
          try clear c5
          try clear c5b0
          try clear c6
          try clear c6b0
          try clear c7
          try clear c7b0
          try clear c10
          try clear c12
          try clear c12b0
          try clear c13
          try clear c14
          try clear c17
          try clear hcz11_0
          try clear hcz11_1
          try clear hcz11_2
          try clear hcz11_3
          try clear hcz11_4
          try clear hcz11_5
          try clear hcz11_6
          try clear hcz15_0
          try clear hcz15_1
          try clear hcz15_2
          try clear hcz15_3
          try clear hcz15_4
          try clear hcz15_5
          try clear hcz15_6
          try clear hcz18_0
          try clear hcz18_1
          try clear hcz18_2
          try clear hcz18_3
          try clear hcz18_4
          try clear hcz18_5
          try clear hcz18_6
          try clear hcz4_0
          try clear hcz4_1
          try clear hcz4_2
          try clear hfz11_0
          try clear hfz11_1
          try clear hfz11_2
          try clear hfz11_3
          try clear hfz11_4
          try clear hfz11_5
          try clear hfz11_6
          try clear hfz15_0
          try clear hfz15_1
          try clear hfz15_2
          try clear hfz15_3
          try clear hfz15_4
          try clear hfz15_5
          try clear hfz15_6
          try clear hfz18_0
          try clear hfz18_1
          try clear hfz18_2
          try clear hfz18_3
          try clear hfz18_4
          try clear hfz18_5
          try clear hfz18_6
          try clear hfz4_0
          try clear hfz4_1
          try clear hfz4_2
          try clear hx322_0
          try clear hx322_1
          try clear hx322_2
          try clear hx322_3
          try clear hx322_4
          try clear hx322_5
          try clear hx322_6
          try clear p2
          try clear p322
          try clear q322
          obtain ⟨kq, x24_7, rfl, HA, HJ7, BK321, BK323, HB⟩ := hcut
          cases kq with
          | zero => exact absurd HA.out (by simp [toc_Find.j1])
          | succ kj7 =>
           have H := HA.out
           clear HA
           simp only [toc_Find.j1] at H
           by_cases c19 : x24_7 = true
           · subst c19
             have H1 : (some (((rd_T40 l0_2 x11_1).f0), true)) = some (r1, r2) := by rw [if_pos rfl] at H; exact H
             clear H
             have H := H1
             clear H1
             simp only [Option.some.injEq, Prod.mk.injEq] at H
             obtain ⟨rfl, rfl⟩ := H
             have hnb20 := NB323_321.out
             have hnc20 := NB321_323.out
             obtain ⟨hcz21_0, hcz21_1, hcz21_2, hcz21_3, hcz21_4, hcz21_5, hcz21_6⟩ := cel7 BK323.out
             obtain ⟨hfz21_0, hfz21_1, hfz21_2, hfz21_3, hfz21_4, hfz21_5, hfz21_6⟩ := frz7 BK323.out
             go_wp2
             go_ret2
             exact ⟨by first | rfl | (simp [errW_none, errW_some] <;> rfl) | (simp [*, errW_none, errW_some] <;> rfl), by repeat (first | (with_reducible first | exact HB.out | apply below_alloc | apply pw_below_drewN | apply below_drew1 | refine below_set ?_ GE321.out | refine below_set ?_ GE323.out) | exact HB.out)⟩
           · replace c19 := Bool.eq_false_iff.mpr c19
             subst c19
             have H1 : (toc_Find.l0 kj7 a1 l0_2 (l0_2.length : Int) (wrap64 (x11_1 + 1))) = some (r1, r2) := by rw [if_neg (show ¬ (false = true) by decide)] at H; exact H
             clear H
             have H := H1
             clear H1
             have H' := Aside0.mk H
             clear H
             go_wp2
             go_roundg kj7
             case measure => have := HK1.out; have := HJ7.out; omega
             case rel => exact ⟨(wrap64 (x11_1 + 1)), (by first | rfl | (simp; done) | (simp [*]; done)), H', ⟨by have := HK1.out; have := HJ7.out; omega⟩, ⟨by (with_reducible repeat (first | refine blk_drewN ?_ _ | refine blk_drew ?_ | refine blk_alloc ?_ _)); exact BK321.out⟩, ⟨by repeat (first | (with_reducible first | exact HB.out | apply below_alloc | apply pw_below_drewN | apply below_drew1 | refine below_set ?_ GE321.out | refine below_set ?_ GE323.out) | exact HB.out)⟩⟩
       · rw [if_neg c7] at H
         exact absurd H (by simp)
     · rw [if_neg c6] at H
       exact absurd H (by simp)
   · rw [if_neg c5] at H
     have c5b0 : decide (x11_1 < (l0_2.length : Int)) = false := decide_eq_false c5
     clear c5
     simp only [Option.some.injEq, Prod.mk.injEq] at H
     obtain ⟨rfl, rfl⟩ := H
     go_wp2
     go_ret2
     exact ⟨by first | rfl | (simp [errW_none, errW_some] <;> rfl) | (simp [*, errW_none, errW_some] <;> rfl), by repeat (first | (with_reducible first | exact HB.out | apply below_alloc | apply pw_below_drewN | apply below_drew1 | refine below_set ?_ GE321.out) | exact HB.out)⟩
end Go.Proofs.Ytjhepdcdhabcjaa.G
