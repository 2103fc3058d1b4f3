/- Texts of one claim, merged by a program of this session; what is proved stands in the last of them. -/
import Derived.BigQuiet
import Derived.Deep.QuietTactic
import Derived.Deep.RegionWith
import Derived.Laws.CopyOwn
import Derived.Outline
import Derived.Test.YtpmkibggmkibeaaKd1
import Derived.Test.YtpmkibggmkibeaaKd3
import Derived.Test.YtpmkibggmkibeaaKd4
namespace Go.Proofs.Ytpmkibggmkibeaa.G
open Go.RowKit Go.Proofs.YtpmkibggmkibeaaW.PrintWords Go.Proofs.YtpmkibggmkibeaaW.PrintLast Go.Proofs.YtpmkibggmkibeaaW.PrintMore
set_option linter.unusedVariables false
def headB (lba : Int) (t : S53) : Bool := decide (lba < wrap64 (t.f2 + t.f3))
set_option maxHeartbeats 400000 in
set_option maxRecDepth 100000 in
theorem program1 (lba : Int) (x : S53) (B : Nat) (w : World) (hc : w.heap[B]? = some (.cells #[.int .i64 lba] 3 (0, 0))) :
 Calls Try.prog 29 #[.agg #[.int .i64 x.f0, .int .i64 x.f1, .int .i64 x.f2, .int .i64 x.f3, .int .i64 x.f4, .int .i64 x.f5, .int .i64 x.f6], .pointer (some ⟨B, 0, none⟩)] w fun e w' => e = .returned (.bool (headB lba x)) ∧ Below w.heap.size w w' := by
 have hu := Try.underlying53
 obtain ⟨r, hr⟩ : ∃ r, wrap64 (x.f2 + x.f3) = r := ⟨_, rfl⟩
 have HE := fun W => Aside0.mk (subchannel_end.calls x.f0 x.f1 x.f2 x.f3 x.f4 x.f5 x.f6 r W (congrArg some hr))
 have hh : headB lba x = decide (lba < r) := by unfold headB; rw [hr]
 rw [hh]
 obtain ⟨x0, x1, x2, x3, x4, x5, x6⟩ := x
 clear hh hr
 dsimp only at HE ⊢
 have hB := below_one w (.cells #[.int .i64 x0, .int .i64 x1, .int .i64 x2, .int .i64 x3, .int .i64 x4, .int .i64 x5, .int .i64 x6] 53)
 have HB := Aside0.mk hB
 have hc1 := blk_alloc hc (.cells #[.int .i64 x0, .int .i64 x1, .int .i64 x2, .int .i64 x3, .int .i64 x4, .int .i64 x5, .int .i64 x6] 53)
 have hn1 := blk_new w (.cells #[.int .i64 x0, .int .i64 x1, .int .i64 x2, .int .i64 x3, .int .i64 x4, .int .i64 x5, .int .i64 x6] 53)
 have HC1 := Aside0.mk hc1
 have HN1 := Aside0.mk hn1
 clear hB hc1 hn1 hc
 go_enter Try.func29, Try.ntmps29
 go_wp2_with (fail)
 generalize w.alloc _ = W at HB HC1 HN1 ⊢
 obtain ⟨g, hg⟩ : ∃ g, w.heap.size = g := ⟨_, rfl⟩
 have hn1 := HN1.out
 rw [hg] at hn1 ⊢
 have hc1 : W.cell? ⟨B, 0, none⟩ = some (.int .i64 lba) := (blk_cell HC1.out 0).trans rfl
 have k0 : W.cell? ⟨g, 0, none⟩ = some (.int .i64 x0) := (blk_cell hn1 0).trans rfl
 have k1 : W.cell? ⟨g, 1, none⟩ = some (.int .i64 x1) := (blk_cell hn1 1).trans rfl
 have k2 : W.cell? ⟨g, 2, none⟩ = some (.int .i64 x2) := (blk_cell hn1 2).trans rfl
 have k3 : W.cell? ⟨g, 3, none⟩ = some (.int .i64 x3) := (blk_cell hn1 3).trans rfl
 have k4 : W.cell? ⟨g, 4, none⟩ = some (.int .i64 x4) := (blk_cell hn1 4).trans rfl
 have k5 : W.cell? ⟨g, 5, none⟩ = some (.int .i64 x5) := (blk_cell hn1 5).trans rfl
 have k6 : W.cell? ⟨g, 6, none⟩ = some (.int .i64 x6) := (blk_cell hn1 6).trans rfl
 clear hn1 HN1 hg
 go_region_with (first
  | (go_at_call 30; refine (HE _).out.mono ?_; rintro e w2 ⟨rfl, hb2⟩; have hc2 : w2.cell? ⟨B, 0, none⟩ = some (.int .i64 lba) := (blk_cell (blk_below (blk_drew HC1.out) hb2) 0).trans rfl; have HB2 := Aside0.mk (below_step (below_drew1 HB.out) hb2); clear hb2))
 all_goals go_wp2_with (fail)
 all_goals go_ret
 all_goals exact ⟨rfl, HB2.out⟩
theorem callFunc_29 (args : Array Value) (w : World) : (callFunc 29 args).run Try.prog w = .ok (.enter 29 args) w := by
 have hf := Try.func29
 exact enters_ hf (by kernel_rfl) rfl args w
theorem fnAt_head (lba : Int) (B : Nat) (w : World) (hc : w.heap[B]? = some (.cells #[.int .i64 lba] 3 (0, 0))) : FnAt (headB lba) 29 #[.pointer (some ⟨B, 0, none⟩)] w :=
 ⟨callFunc_29, fun x W hb => program1 lba x B W (blk_below hc hb)⟩
theorem relative_plain {n : Int} (h0 : 0 ≤ n) (h1 : n ≤ 449999) : subchannel_relative.f n = some (msfM (n - 150), msfS (n - 150), msfF (n - 150)) := by
 unfold subchannel_relative.f
 rw [show wrap64 (n - 150) = n - 150 by unfold wrap64; omega, msf_plain (by omega) (by omega)]
 rfl
def progI (l : List (S53)) (lba : Int) : Int := idxP (headB lba) l l.length 0
def relOf (c t p n m s f : Int) : Int × Int × Int × Int × Int × Int × Int × Int × Int × Int := (c, t, p, msfM (n - 150), msfS (n - 150), msfF (n - 150), m, s, f, 0)
def subchannel_Program.f (l : List (S53)) (a1 a2 : Int) : Option (Int × Int × Int × Int × Int × Int × Int × Int × Int × Int) :=
 if sesB l = true ∧ 0 ≤ a1 ∧ a1 ≤ 15 then
  if 0 ≤ a2 ∧ a2 ≤ 449849 then
   if progI l a2 < 0 then some (relOf a1 170 1 (a2 - lastE l) (msfM a2) (msfS a2) (msfF a2))
   else if a2 < (rd_T53 l (progI l a2)).f2 then some (relOf a1 (rd_T53 l (progI l a2)).f0 0 ((rd_T53 l (progI l a2)).f2 - a2) (msfM a2) (msfS a2) (msfF a2))
   else some (relOf a1 (rd_T53 l (progI l a2)).f0 1 (a2 - (rd_T53 l (progI l a2)).f2) (msfM a2) (msfS a2) (msfF a2))
  else some (0, 0, 0, 0, 0, 0, 0, 0, 0, 2)
 else some (0, 0, 0, 0, 0, 0, 0, 0, 0, 1)
set_option maxHeartbeats 400000 in
set_option maxRecDepth 100000 in
theorem program_no1 (A : Option Addr) (cp : Nat) (l : List (S53)) (a1 a2 : Int) (w : World) (hr : Kd.C k53 w A l.length l) (hc : l.length ≤ cp) (h : ¬ (sesB l = true ∧ 0 ≤ a1 ∧ a1 ≤ 15)) :
 Calls Try.prog 11 #[.slice A l.length cp, .int .i64 a1, .int .i64 a2] w fun e w' => e = .returned (.tuple #[.agg #[.int .i64 0, .int .i64 0, .int .i64 0, .int .i64 0, .int .i64 0, .int .i64 0, .int .i64 0, .int .i64 0, .int .i64 0], .int .i64 1]) ∧ Below w.heap.size w w' := by
 have hu := Try.underlying27
 cases hs : sesB l with
 | false =>
  have HS := fun W h1 => Aside0.mk (session_any A cp l W h1 hc)
  rw [hs] at HS
  have HR := Aside0.mk hr
  clear hr hc h hs
  go_enter Try.func11, Try.ntmps11
  go_wp2_with (fail)
  generalize hw0 : (w.alloc _).alloc _ = w0
  obtain ⟨hb0, hb1, hB⟩ := two_new hw0
  have HR0 := Aside0.mk (Kd.C_below HR.out hB)
  have HB0 := Aside0.mk hB
  have HQ0 := Aside0.mk hb1
  clear hw0 hb0 hb1 hB
  refine (HS _ HR0.out).out.mono ?_
  rintro e w2 ⟨rfl, hb2⟩
  have HB2 := Aside0.mk (below_step HB0.out hb2)
  have HQ2 := blk_below HQ0.out hb2
  clear hb2
  go_wp2_with (first | (refine wpList_store_row rfl 27 (.tmp 6) (.tmp 19) rfl (w.heap.size + 1) #[.int .i64 0, .int .i64 0, .int .i64 0, .int .i64 0, .int .i64 0, .int .i64 0, .int .i64 0, .int .i64 0, .int .i64 0] rfl rfl _ _ HQ2 (by kernel_rfl) rfl (by kernel_rfl) ?_))
  refine bodyPost_ret (results_ct rfl _ _ (w.heap.size + 1) 27 #[.int .i64 0, .int .i64 0, .int .i64 0, .int .i64 0, .int .i64 0, .int .i64 0, .int .i64 0, .int .i64 0, .int .i64 0] (0, 0) _ rfl (setRow_heap _ _ _ _ _ _ HQ2) hu rfl (by kernel_rfl)) rfl ?_
  exact ⟨rfl, below_setRow HB2.out (by omega) _⟩
 | true =>
  have hn : ¬ (0 ≤ a1 ∧ a1 ≤ 15) := fun h2 => h ⟨hs, h2⟩
  have HS := fun W h1 => Aside0.mk (session_any A cp l W h1 hc)
  rw [hs] at HS
  have HT := fun W => Aside0.mk (subchannel_between.calls a1 0 15 false W (between_no hn))
  have HR := Aside0.mk hr
  clear hr hc h hs hn
  go_enter Try.func11, Try.ntmps11
  go_wp2_with (fail)
  generalize hw0 : (w.alloc _).alloc _ = w0
  obtain ⟨hb0, hb1, hB⟩ := two_new hw0
  have HR0 := Aside0.mk (Kd.C_below HR.out hB)
  have HB0 := Aside0.mk hB
  have HQ0 := Aside0.mk hb1
  clear hw0 hb0 hb1 hB
  refine (HS _ HR0.out).out.mono ?_
  rintro e w2 ⟨rfl, hb2⟩
  have HB2 := Aside0.mk (below_step HB0.out hb2)
  have HQ2 := Aside0.mk (blk_below HQ0.out hb2)
  clear hb2
  go_wp2_with (fail)
  refine (HT _).out.mono ?_
  rintro e w3 ⟨rfl, hd⟩
  have HB3 := Aside0.mk (below_step HB2.out hd.below)
  have HQ3 := blk_below HQ2.out hd.below
  clear hd
  go_wp2_with (first | (refine wpList_store_row rfl 27 (.tmp 6) (.tmp 19) rfl (w.heap.size + 1) #[.int .i64 0, .int .i64 0, .int .i64 0, .int .i64 0, .int .i64 0, .int .i64 0, .int .i64 0, .int .i64 0, .int .i64 0] rfl rfl _ _ HQ3 (by kernel_rfl) rfl (by kernel_rfl) ?_))
  refine bodyPost_ret (results_ct rfl _ _ (w.heap.size + 1) 27 #[.int .i64 0, .int .i64 0, .int .i64 0, .int .i64 0, .int .i64 0, .int .i64 0, .int .i64 0, .int .i64 0, .int .i64 0] (0, 0) _ rfl (setRow_heap _ _ _ _ _ _ HQ3) hu rfl (by kernel_rfl)) rfl ?_
  exact ⟨rfl, below_setRow HB3.out (by omega) _⟩
theorem idxP_range (p : S53 → Bool) (l : List (S53)) (d : Nat) : ∀ i, l.length - i = d → i ≤ l.length → idxP p l d i = -1 ∨ ∃ j : Nat, idxP p l d i = (j : Int) ∧ i ≤ j ∧ j < l.length ∧ p (rd_T53 l (j : Int)) = true ∧ ∀ k : Nat, i ≤ k → k < j → p (rd_T53 l (k : Int)) = false := by
 induction d with
 | zero => intro i _ _; exact Or.inl rfl
 | succ d ih =>
  intro i hd hi
  simp only [idxP]
  cases hp : p (rd_T53 l (i : Int)) with
  | true =>
   rw [if_pos rfl]
   exact Or.inr ⟨i, rfl, Nat.le_refl _, by omega, hp, fun k h1 h2 => by omega⟩
  | false =>
   rw [if_neg (by decide)]
   rcases ih (i + 1) (by omega) (by omega) with h | ⟨j, h1, h2, h3, h4, h5⟩
   · exact Or.inl h
   · refine Or.inr ⟨j, h1, by omega, h3, h4, fun k k1 k2 => ?_⟩
     by_cases e : k = i
     · rw [e]; exact hp
     · exact h5 k (by omega) k2
theorem pg_keep {w W w2 : World} {b q r : Nat} {lba q0 q1 q2 q3 q4 q5 q6 q7 q8 : Int} (hb : Below W.heap.size W w2) (h1 : W.heap[b]? = some (.cells #[.int .i64 lba] 3 (0, 0))) (h2 : W.heap[q]? = some (.cells #[.int .i64 q0, .int .i64 q1, .int .i64 q2, .int .i64 q3, .int .i64 q4, .int .i64 q5, .int .i64 q6, .int .i64 q7, .int .i64 q8] 27 (0, 0))) (h3 : W.heap[r]? = some (.cells #[.int .i64 0, .int .i64 0, .int .i64 0, .int .i64 0, .int .i64 0, .int .i64 0, .int .i64 0, .int .i64 0, .int .i64 0] 27 (0, 0))) (h4 : Below w.heap.size w W) :
 w2.cell? ⟨b, 0, none⟩ = some (.int .i64 lba) ∧ (w2.cell? ⟨q, 0, none⟩ = some (.int .i64 q0) ∧ w2.cell? ⟨q, 1, none⟩ = some (.int .i64 q1) ∧ w2.cell? ⟨q, 2, none⟩ = some (.int .i64 q2) ∧ w2.cell? ⟨q, 3, none⟩ = some (.int .i64 q3) ∧ w2.cell? ⟨q, 4, none⟩ = some (.int .i64 q4) ∧ w2.cell? ⟨q, 5, none⟩ = some (.int .i64 q5) ∧ w2.cell? ⟨q, 6, none⟩ = some (.int .i64 q6) ∧ w2.cell? ⟨q, 7, none⟩ = some (.int .i64 q7) ∧ w2.cell? ⟨q, 8, none⟩ = some (.int .i64 q8)) ∧ (w2.frozen? ⟨q, 1, none⟩ = false ∧ w2.frozen? ⟨q, 2, none⟩ = false ∧ w2.frozen? ⟨q, 3, none⟩ = false ∧ w2.frozen? ⟨q, 4, none⟩ = false ∧ w2.frozen? ⟨q, 5, none⟩ = false) ∧ w2.heap[b]? = some (.cells #[.int .i64 lba] 3 (0, 0)) ∧ w2.heap[q]? = some (.cells #[.int .i64 q0, .int .i64 q1, .int .i64 q2, .int .i64 q3, .int .i64 q4, .int .i64 q5, .int .i64 q6, .int .i64 q7, .int .i64 q8] 27 (0, 0)) ∧ w2.heap[r]? = some (.cells #[.int .i64 0, .int .i64 0, .int .i64 0, .int .i64 0, .int .i64 0, .int .i64 0, .int .i64 0, .int .i64 0, .int .i64 0] 27 (0, 0)) ∧ Below w.heap.size w w2 :=
 ⟨(blk_cell (blk_below h1 hb) 0).trans rfl, ⟨(blk_cell (blk_below h2 hb) 0).trans rfl, (blk_cell (blk_below h2 hb) 1).trans rfl, (blk_cell (blk_below h2 hb) 2).trans rfl, (blk_cell (blk_below h2 hb) 3).trans rfl, (blk_cell (blk_below h2 hb) 4).trans rfl, (blk_cell (blk_below h2 hb) 5).trans rfl, (blk_cell (blk_below h2 hb) 6).trans rfl, (blk_cell (blk_below h2 hb) 7).trans rfl, (blk_cell (blk_below h2 hb) 8).trans rfl⟩, ⟨blk_frozen (blk_below h2 hb) 1, blk_frozen (blk_below h2 hb) 2, blk_frozen (blk_below h2 hb) 3, blk_frozen (blk_below h2 hb) 4, blk_frozen (blk_below h2 hb) 5⟩, blk_below h1 hb, blk_below h2 hb, blk_below h3 hb, below_step h4 hb⟩
set_option maxHeartbeats 400000 in
set_option maxRecDepth 100000 in
theorem program_no2 (A : Option Addr) (cp : Nat) (l : List (S53)) (a1 a2 : Int) (w : World) (hr : Kd.C k53 w A l.length l) (hc : l.length ≤ cp) (hs : sesB l = true) (h0 : 0 ≤ a1) (h15 : a1 ≤ 15) (hn : ¬ (0 ≤ a2 ∧ a2 ≤ 449849)) :
 Calls Try.prog 11 #[.slice A l.length cp, .int .i64 a1, .int .i64 a2] w fun e w' => e = .returned (.tuple #[.agg #[.int .i64 0, .int .i64 0, .int .i64 0, .int .i64 0, .int .i64 0, .int .i64 0, .int .i64 0, .int .i64 0, .int .i64 0], .int .i64 2]) ∧ Below w.heap.size w w' := by
 have hu := Try.underlying27
 have hu3 := Try.underlying25
 have hmf : ∀ (fn : Fn) (first cap : Array Value) (w : World), (Instr.makeFunc fn first cap).run Try.prog w = .ok (.func fn first cap) w := fun _ _ _ _ => rfl
 have HR := Aside0.mk hr
 have HS := fun W h1 => Aside0.mk (session_any A cp l W h1 hc)
 rw [hs] at HS
 have HT := fun W => Aside0.mk (subchannel_between.calls a1 0 15 true W (between_yes h0 h15))
 have HU := fun W => Aside0.mk (subchannel_between.calls a2 0 449849 false W (between_no hn))
 clear hr hc hs h0 h15 hn
 go_enter Try.func11, Try.ntmps11
 go_wp2_with (fail)
 generalize hw0 : (w.alloc _).alloc _ = w0
 obtain ⟨hb0, hb1, hB⟩ := two_new hw0
 have HR0 := Aside0.mk (Kd.C_below HR.out hB)
 have HB0 := Aside0.mk hB
 have HL0 := Aside0.mk hb0
 have HQ0 := Aside0.mk hb1
 clear hw0 hb0 hb1 hB
 refine (HS _ HR0.out).out.mono ?_
 rintro e w2 ⟨rfl, hb2⟩
 have HB2 := Aside0.mk (below_step HB0.out hb2)
 have HQ2 := Aside0.mk (blk_below HQ0.out hb2)
 have HL2 := Aside0.mk (blk_below HL0.out hb2)
 clear hb2 HB0 HQ0 HL0 HR0 HS
 go_wp2_with (fail)
 refine (HT _).out.mono ?_
 rintro e w3 ⟨rfl, hd⟩
 have HB3 := Aside0.mk (below_step HB2.out hd.below)
 have HQ3 := Aside0.mk (blk_below HQ2.out hd.below)
 have HL3 := Aside0.mk (blk_below HL2.out hd.below)
 have k0 : w3.cell? ⟨w.heap.size, 0, none⟩ = some (.int .i64 a2) := (blk_cell HL3.out 0).trans rfl
 clear hd HB2 HQ2 HL2 HT
 go_wp2_with (fail)
 refine (HU _).out.mono ?_
 rintro e w4 ⟨rfl, hd⟩
 have HB4 := Aside0.mk (below_step HB3.out hd.below)
 have HQ4 := Aside0.mk (blk_below HQ3.out hd.below)
 have HL4 := Aside0.mk (blk_below HL3.out hd.below)
 have k1 : w4.cell? ⟨w.heap.size, 0, none⟩ = some (.int .i64 a2) := (blk_cell HL4.out 0).trans rfl
 clear hd HB3 HQ3 HL3 HU k0
 have HQ5 := HQ4.out
 go_wp2_with (first | (refine wpList_store_row rfl 27 (.tmp 6) (.tmp 24) rfl (w.heap.size + 1) #[.int .i64 0, .int .i64 0, .int .i64 0, .int .i64 0, .int .i64 0, .int .i64 0, .int .i64 0, .int .i64 0, .int .i64 0] rfl rfl _ _ HQ5 (by kernel_rfl) rfl (by kernel_rfl) ?_))
 refine bodyPost_ret (results_ct rfl _ _ (w.heap.size + 1) 27 #[.int .i64 0, .int .i64 0, .int .i64 0, .int .i64 0, .int .i64 0, .int .i64 0, .int .i64 0, .int .i64 0, .int .i64 0] (0, 0) _ rfl (setRow_heap _ _ _ _ _ _ HQ5) hu rfl (by kernel_rfl)) rfl ?_
 exact ⟨rfl, below_setRow HB4.out (by omega) _⟩
set_option maxHeartbeats 1000000 in
set_option maxRecDepth 100000 in
theorem program_out (A : Option Addr) (cp : Nat) (l : List (S53)) (a1 a2 m s f m2 s2 u2 : Int) (w : World) (hr : Kd.C k53 w A l.length l) (hc : l.length ≤ cp) (hs : sesB l = true) (h0 : 0 ≤ a1) (h15 : a1 ≤ 15) (h2 : 0 ≤ a2) (h4 : a2 ≤ 449849) (hi : progI l a2 < 0) (hge : lastE l ≤ a2)
 (hm : subchannel_msf.f a2 = some (m, s, f)) (hm2 : subchannel_relative.f (a2 - lastE l) = some (m2, s2, u2)) :
 Calls Try.prog 11 #[.slice A l.length cp, .int .i64 a1, .int .i64 a2] w fun e w' => e = .returned (.tuple #[.agg #[.int .i64 a1, .int .i64 170, .int .i64 1, .int .i64 m2, .int .i64 s2, .int .i64 u2, .int .i64 m, .int .i64 s, .int .i64 f], .int .i64 0]) ∧ Below w.heap.size w w' := by
 have hu := Try.underlying27
 have hu3 := Try.underlying25
 have hmf : ∀ (fn : Fn) (first cap : Array Value) (w : World), (Instr.makeFunc fn first cap).run Try.prog w = .ok (.func fn first cap) w := fun _ _ _ _ => rfl
 have HR := Aside0.mk hr
 have HS := fun W h1 => Aside0.mk (session_any A cp l W h1 hc)
 rw [hs] at HS
 have HT := fun W => Aside0.mk (subchannel_between.calls a1 0 15 true W (between_yes h0 h15))
 have HU := fun W => Aside0.mk (subchannel_between.calls a2 0 449849 true W (between_yes h2 h4))
 have HM := fun W => Aside0.mk (subchannel_msf.calls a2 m s f W hm)
 have HM2 := fun W => Aside0.mk (subchannel_relative.calls (a2 - lastE l) m2 s2 u2 W hm2)
 obtain ⟨idx, hidx⟩ : ∃ idx, progI l a2 = idx := ⟨_, rfl⟩
 rw [hidx] at hi
 have HIDX := Aside0.mk hidx
 have HSES := Aside0.mk (ses_of hs)
 have hl1 : 1 ≤ l.length := HSES.out.one
 have hl9 : l.length ≤ 99 := HSES.out.most
 have HGE := Aside0.mk hge
 clear hr hc hs h0 h15 hm hm2 hidx hge
 go_enter Try.func11, Try.ntmps11
 go_wp2_with (fail)
 generalize hw0 : (w.alloc _).alloc _ = w0
 obtain ⟨hb0, hb1, hB⟩ := two_new hw0
 have HR0 := Aside0.mk (Kd.C_below HR.out hB)
 have HB0 := Aside0.mk hB
 have HL0 := Aside0.mk hb0
 have HQ0 := Aside0.mk hb1
 clear hw0 hb0 hb1 hB
 refine (HS _ HR0.out).out.mono ?_
 rintro e w2 ⟨rfl, hb2⟩
 have HB2 := Aside0.mk (below_step HB0.out hb2)
 have HQ2 := Aside0.mk (blk_below HQ0.out hb2)
 have HL2 := Aside0.mk (blk_below HL0.out hb2)
 clear hb2 HB0 HQ0 HL0 HR0 HS
 go_wp2_with (fail)
 refine (HT _).out.mono ?_
 rintro e w3 ⟨rfl, hd⟩
 have HB3 := Aside0.mk (below_step HB2.out hd.below)
 have HQ3 := Aside0.mk (blk_below HQ2.out hd.below)
 have HL3 := Aside0.mk (blk_below HL2.out hd.below)
 have k0 : w3.cell? ⟨w.heap.size, 0, none⟩ = some (.int .i64 a2) := (blk_cell HL3.out 0).trans rfl
 clear hd HB2 HQ2 HL2 HT
 go_wp2_with (fail)
 refine (HU _).out.mono ?_
 rintro e w4 ⟨rfl, hd⟩
 have HB4 := Aside0.mk (below_step HB3.out hd.below)
 have HQ4 := Aside0.mk (blk_below HQ3.out hd.below)
 have HL4 := Aside0.mk (blk_below HL3.out hd.below)
 have k1 : w4.cell? ⟨w.heap.size, 0, none⟩ = some (.int .i64 a2) := (blk_cell HL4.out 0).trans rfl
 clear hd HB3 HQ3 HL3 HU k0
 go_wp2_with (fail)
 refine (HM _).out.mono ?_
 rintro e w5 ⟨rfl, hb5⟩
 have HB5 := Aside0.mk (below_step HB4.out hb5)
 have HQ5 := Aside0.mk (blk_below HQ4.out hb5)
 have HL5 := Aside0.mk (blk_below HL4.out hb5)
 clear hb5 HB4 HQ4 HL4 HM k1
 go_wp2_with (fail)
 generalize hw6 : w5.alloc _ = w6
 have hB6 : Below w5.heap.size w5 w6 := by rw [← hw6]; exact below_one _ _
 obtain ⟨q, hq⟩ : ∃ q, w5.heap.size = q := ⟨_, rfl⟩
 have hbq : w6.heap[q]? = some (.cells #[.int .i64 a1, .int .i64 170, .int .i64 1, .int .i64 0, .int .i64 0, .int .i64 0, .int .i64 m, .int .i64 s, .int .i64 f] 27 (0, 0)) := by rw [← hw6, ← hq]; exact blk_new _ _
 rw [hq]
 have HGQ := Aside0.mk (show w.heap.size ≤ q by rw [← hq]; exact HB5.out.size)
 have HNQ := Aside0.mk (show w.heap.size + 1 ≠ q by have := blk_lt HQ5.out; omega)
 have HB6 := Aside0.mk (below_step HB5.out hB6)
 have HQ6 := Aside0.mk hbq
 have HZ6 := Aside0.mk (blk_below HQ5.out hB6)
 have HL6 := Aside0.mk (blk_below HL5.out hB6)
 clear hw6 hB6 hq hbq HB5 HQ5 HL5
 refine (indexFunc_any (headB a2) 29 #[.pointer (some ⟨w.heap.size, 0, none⟩)] A cp l w6 (Kd.C_below HR.out HB6.out) (fnAt_head a2 w.heap.size w6 HL6.out)).mono ?_
 rintro e w7 ⟨rfl, hb7⟩
 rw [show idxP (headB a2) l l.length 0 = idx from HIDX.out]
 obtain ⟨k0, ⟨c0, c1, c2, c3, c4, c5, c6, c7, c8⟩, ⟨f1, f2, f3, f4, f5⟩, hl7, hq7, hz7, hb77⟩ := pg_keep hb7 HL6.out HQ6.out HZ6.out HB6.out
 have HB7 := Aside0.mk hb77
 have HQ7 := Aside0.mk hq7
 have HZ7 := Aside0.mk hz7
 have HL7 := Aside0.mk hl7
 clear hb7 hb77 hq7 hz7 hl7 HB6 HQ6 HZ6 HL6
 have hz1 : (1 : Int) ≤ (l.length : Int) := by omega
 have hz2 : 0 ≤ (l.length : Int) - 1 := by omega
 have hz3 : (l.length : Int) - 1 < (l.length : Int) := by omega
 have hz4 : ((l.length : Int) - 1).toNat = l.length - 1 := by omega
 obtain ⟨ad, rfl, hx0, hx1, hx2, hx3, hx4, hx5, hx6⟩ := at_T53 (Kd.C_below HR.out HB7.out) ((l.length : Int) - 1) hz2 hz3
 rw [hz4] at hx0 hx1 hx2 hx3 hx4 hx5 hx6
 have hst := HSES.out.start (l.length - 1) (by omega)
 have hle := HSES.out.len (l.length - 1) (by omega)
 rw [show ((l.length - 1 : Nat) : Int) = (l.length : Int) - 1 by omega] at hst hle
 obtain ⟨eL, heL⟩ : ∃ e, lastE l = e := ⟨_, rfl⟩
 have he2 : (rd_T53 l ((l.length : Int) - 1)).f2 + (rd_T53 l ((l.length : Int) - 1)).f3 = eL := heL
 rw [heL] at HM2
 generalize rd_T53 l ((l.length : Int) - 1) = x at hx0 hx1 hx2 hx3 hx4 hx5 hx6 hst hle he2
 obtain ⟨x0, x1, x2, x3, x4, x5, x6⟩ := x
 dsimp only at hx0 hx1 hx2 hx3 hx4 hx5 hx6 hst hle he2
 have HE := fun W => Aside0.mk (subchannel_end.calls x0 x1 x2 x3 x4 x5 x6 eL W (by rw [end_plain hst.1 hst.2 (by have := hle.1; omega) hle.2.1, he2]))
 have hge0 : eL ≤ a2 := by rw [← heL]; exact HGE.out
 have hel0 : 0 ≤ eL := by have := hle.1; have := hst.1; omega
 have hzi5 : 1 ≤ l.length := hl1
 have hidb : decide (idx < 0) = true := decide_eq_true hi
 clear hst hle he2 heL
 go_wp2_with (fail)
 have hw1 : IntKind.i64.wrap ((l.length : Int) - 1) = (l.length : Int) - 1 := IntWalk.i64_in _ (by omega)
 have hw2 : IntKind.i64.wrap (a2 - eL) = a2 - eL := IntWalk.i64_in _ (by omega)
 go_region_with (first
  | (go_at_call 30; refine (HE _).out.mono ?_; rintro e v8 ⟨rfl, hb8⟩; obtain ⟨kk8, ⟨c80, c81, c82, c83, c84, c85, c86, c87, c88⟩, ⟨f81, f82, f83, f84, f85⟩, hl8, hq8, hz8, hbb8⟩ := pg_keep hb8 (blk_drew HL7.out) (blk_drew HQ7.out) (blk_drew HZ7.out) (below_drew1 HB7.out); have JL8 := Aside0.mk hl8; have JQ8 := Aside0.mk hq8; have JZ8 := Aside0.mk hz8; have JB8 := Aside0.mk hbb8; clear hb8 hl8 hq8 hz8 hbb8)
  | (go_at_call 31; refine (HM2 _).out.mono ?_; rintro e v9 ⟨rfl, hb9⟩; obtain ⟨kk9, ⟨c90, c91, c92, c93, c94, c95, c96, c97, c98⟩, ⟨f91, f92, f93, f94, f95⟩, hl9, hq9, hz9, hbb9⟩ := pg_keep hb9 JL8.out JQ8.out JZ8.out JB8.out; have JL9 := Aside0.mk hl9; have JQ9 := Aside0.mk hq9; have JZ9 := Aside0.mk hz9; have JB9 := Aside0.mk hbb9; clear hb9 hl9 hq9 hz9 hbb9))
 all_goals
  have HQF := Aside0.mk (blk_put (cs := #[.int .i64 a1, .int .i64 170, .int .i64 1, .int .i64 m2, .int .i64 s2, .int .i64 0, .int .i64 m, .int .i64 s, .int .i64 f]) (blk_put (cs := #[.int .i64 a1, .int .i64 170, .int .i64 1, .int .i64 m2, .int .i64 0, .int .i64 0, .int .i64 m, .int .i64 s, .int .i64 f]) (blk_put (cs := #[.int .i64 a1, .int .i64 170, .int .i64 1, .int .i64 0, .int .i64 0, .int .i64 0, .int .i64 m, .int .i64 s, .int .i64 f]) JQ9.out 3 (.int .i64 m2) rfl) 4 (.int .i64 s2) rfl) 5 (.int .i64 u2) rfl)
  have HZF := Aside0.mk (blk_far (p := ⟨q, 5, none⟩) (blk_far (p := ⟨q, 4, none⟩) (blk_far (p := ⟨q, 3, none⟩) JZ9.out HNQ.out (.int .i64 m2)) HNQ.out (.int .i64 s2)) HNQ.out (.int .i64 u2))
  go_wp2_with (first | (refine wpList_load_row rfl 27 (.tmp 8) rfl q rfl _ #[.int .i64 a1, .int .i64 170, .int .i64 1, .int .i64 m2, .int .i64 s2, .int .i64 u2, .int .i64 m, .int .i64 s, .int .i64 f] (0, 0) _ HQF.out hu rfl (by kernel_rfl) ?_) | (refine wpList_store_row rfl 27 (.tmp 6) (.tmp 85) rfl (w.heap.size + 1) #[.int .i64 a1, .int .i64 170, .int .i64 1, .int .i64 m2, .int .i64 s2, .int .i64 u2, .int .i64 m, .int .i64 s, .int .i64 f] rfl rfl _ _ HZF.out (by kernel_rfl) rfl (by kernel_rfl) ?_))
  refine bodyPost_ret (results_ct rfl _ _ (w.heap.size + 1) 27 #[.int .i64 a1, .int .i64 170, .int .i64 1, .int .i64 m2, .int .i64 s2, .int .i64 u2, .int .i64 m, .int .i64 s, .int .i64 f] (0, 0) _ rfl (setRow_heap _ _ _ _ _ _ HZF.out) hu rfl (by kernel_rfl)) rfl ?_
  exact ⟨rfl, below_setRow (below_set (j := 5) (v := .int .i64 u2) (below_set (j := 4) (v := .int .i64 s2) (below_set (j := 3) (v := .int .i64 m2) JB9.out HGQ.out) HGQ.out) HGQ.out) (by omega) _⟩
set_option maxHeartbeats 2000000 in
set_option maxRecDepth 100000 in
theorem program_gap (A : Option Addr) (cp : Nat) (l : List (S53)) (a1 a2 m s f m2 s2 u2 : Int) (j : Nat) (w : World) (hr : Kd.C k53 w A l.length l) (hc : l.length ≤ cp) (hs : sesB l = true) (h0 : 0 ≤ a1) (h15 : a1 ≤ 15) (h2 : 0 ≤ a2) (h4 : a2 ≤ 449849) (hi : progI l a2 = (j : Int)) (hj : j < l.length) (hcmp : a2 < (rd_T53 l (j : Int)).f2)
 (hm : subchannel_msf.f a2 = some (m, s, f)) (hm2 : subchannel_relative.f ((rd_T53 l (j : Int)).f2 - a2) = some (m2, s2, u2)) :
 Calls Try.prog 11 #[.slice A l.length cp, .int .i64 a1, .int .i64 a2] w fun e w' => e = .returned (.tuple #[.agg #[.int .i64 a1, .int .i64 (rd_T53 l (j : Int)).f0, .int .i64 0, .int .i64 m2, .int .i64 s2, .int .i64 u2, .int .i64 m, .int .i64 s, .int .i64 f], .int .i64 0]) ∧ Below w.heap.size w w' := by
 have hu := Try.underlying27
 have hu3 := Try.underlying25
 have hmf : ∀ (fn : Fn) (first cap : Array Value) (w : World), (Instr.makeFunc fn first cap).run Try.prog w = .ok (.func fn first cap) w := fun _ _ _ _ => rfl
 have HR := Aside0.mk hr
 have HS := fun W h1 => Aside0.mk (session_any A cp l W h1 hc)
 rw [hs] at HS
 have HT := fun W => Aside0.mk (subchannel_between.calls a1 0 15 true W (between_yes h0 h15))
 have HU := fun W => Aside0.mk (subchannel_between.calls a2 0 449849 true W (between_yes h2 h4))
 have HM := fun W => Aside0.mk (subchannel_msf.calls a2 m s f W hm)
 have HM2 := fun W => Aside0.mk (subchannel_relative.calls ((rd_T53 l (j : Int)).f2 - a2) m2 s2 u2 W hm2)
 obtain ⟨idx, hidx⟩ : ∃ idx : Int, (j : Int) = idx := ⟨_, rfl⟩
 have HIDX := Aside0.mk (show progI l a2 = (j : Int) from hi)
 have HSES := Aside0.mk (ses_of hs)
 have hst := HSES.out.start j hj
 have hl9 : l.length ≤ 99 := HSES.out.most
 obtain ⟨x, hx⟩ : ∃ x, x = rd_T53 l (j : Int) := ⟨_, rfl⟩
 rw [← hx] at hst hcmp HM2 ⊢
 obtain ⟨x0, x1, x2, x3, x4, x5, x6⟩ := x
 dsimp only at hst hcmp HM2 ⊢
 have HX := Aside0.mk hx
 clear hr hc hs h0 h15 hm hm2 hidx hi hx
 go_enter Try.func11, Try.ntmps11
 go_wp2_with (fail)
 generalize hw0 : (w.alloc _).alloc _ = w0
 obtain ⟨hb0, hb1, hB⟩ := two_new hw0
 have HR0 := Aside0.mk (Kd.C_below HR.out hB)
 have HB0 := Aside0.mk hB
 have HL0 := Aside0.mk hb0
 have HQ0 := Aside0.mk hb1
 clear hw0 hb0 hb1 hB
 refine (HS _ HR0.out).out.mono ?_
 rintro e w2 ⟨rfl, hb2⟩
 have HB2 := Aside0.mk (below_step HB0.out hb2)
 have HQ2 := Aside0.mk (blk_below HQ0.out hb2)
 have HL2 := Aside0.mk (blk_below HL0.out hb2)
 clear hb2 HB0 HQ0 HL0 HR0 HS
 go_wp2_with (fail)
 refine (HT _).out.mono ?_
 rintro e w3 ⟨rfl, hd⟩
 have HB3 := Aside0.mk (below_step HB2.out hd.below)
 have HQ3 := Aside0.mk (blk_below HQ2.out hd.below)
 have HL3 := Aside0.mk (blk_below HL2.out hd.below)
 have k0 : w3.cell? ⟨w.heap.size, 0, none⟩ = some (.int .i64 a2) := (blk_cell HL3.out 0).trans rfl
 clear hd HB2 HQ2 HL2 HT
 go_wp2_with (fail)
 refine (HU _).out.mono ?_
 rintro e w4 ⟨rfl, hd⟩
 have HB4 := Aside0.mk (below_step HB3.out hd.below)
 have HQ4 := Aside0.mk (blk_below HQ3.out hd.below)
 have HL4 := Aside0.mk (blk_below HL3.out hd.below)
 have k1 : w4.cell? ⟨w.heap.size, 0, none⟩ = some (.int .i64 a2) := (blk_cell HL4.out 0).trans rfl
 clear hd HB3 HQ3 HL3 HU k0
 go_wp2_with (fail)
 refine (HM _).out.mono ?_
 rintro e w5 ⟨rfl, hb5⟩
 have HB5 := Aside0.mk (below_step HB4.out hb5)
 have HQ5 := Aside0.mk (blk_below HQ4.out hb5)
 have HL5 := Aside0.mk (blk_below HL4.out hb5)
 clear hb5 HB4 HQ4 HL4 HM k1
 go_wp2_with (fail)
 generalize hw6 : w5.alloc _ = w6
 have hB6 : Below w5.heap.size w5 w6 := by rw [← hw6]; exact below_one _ _
 obtain ⟨q, hq⟩ : ∃ q, w5.heap.size = q := ⟨_, rfl⟩
 have hbq : w6.heap[q]? = some (.cells #[.int .i64 a1, .int .i64 170, .int .i64 1, .int .i64 0, .int .i64 0, .int .i64 0, .int .i64 m, .int .i64 s, .int .i64 f] 27 (0, 0)) := by rw [← hw6, ← hq]; exact blk_new _ _
 rw [hq]
 have HGQ := Aside0.mk (show w.heap.size ≤ q by rw [← hq]; exact HB5.out.size)
 have HNQ := Aside0.mk (show w.heap.size + 1 ≠ q by have := blk_lt HQ5.out; omega)
 have HB6 := Aside0.mk (below_step HB5.out hB6)
 have HQ6 := Aside0.mk hbq
 have HZ6 := Aside0.mk (blk_below HQ5.out hB6)
 have HL6 := Aside0.mk (blk_below HL5.out hB6)
 clear hw6 hB6 hq hbq HB5 HQ5 HL5
 refine (indexFunc_any (headB a2) 29 #[.pointer (some ⟨w.heap.size, 0, none⟩)] A cp l w6 (Kd.C_below HR.out HB6.out) (fnAt_head a2 w.heap.size w6 HL6.out)).mono ?_
 rintro e w7 ⟨rfl, hb7⟩
 rw [show idxP (headB a2) l l.length 0 = (j : Int) from HIDX.out]
 obtain ⟨k0, ⟨c0, c1, c2, c3, c4, c5, c6, c7, c8⟩, ⟨f1, f2, f3, f4, f5⟩, hl7, hq7, hz7, hb77⟩ := pg_keep hb7 HL6.out HQ6.out HZ6.out HB6.out
 have HB7 := Aside0.mk hb77
 have HQ7 := Aside0.mk hq7
 have HZ7 := Aside0.mk hz7
 have HL7 := Aside0.mk hl7
 clear hb7 hb77 hq7 hz7 hl7 HB6 HQ6 HZ6 HL6
 have hz1 : (j : Int) < (l.length : Int) := by omega
 have hz2 : 0 ≤ (j : Int) := by omega
 obtain ⟨ad, rfl, hx0, -, hx2, -⟩ := at_T53 (Kd.C_below HR.out HB7.out) (j : Int) hz2 hz1
 rw [Int.toNat_natCast, ← HX.out] at hx0 hx2
 dsimp only at hx0 hx2
 have hs0 := hst.1
 have hs1 := hst.2
 have hidb : decide ((j : Int) < 0) = false := decide_eq_false (by omega)
 have hcb : decide (a2 < x2) = true := decide_eq_true hcmp
 clear hst
 go_wp2_with (fail)
 go_quiet (fail)
 go_wp2_with (fail)
 have hw2 : IntKind.i64.wrap (x2 - a2) = x2 - a2 := IntWalk.i64_in _ (by omega)
 go_region_with (first
  | (go_at_call 31; refine (HM2 _).out.mono ?_; rintro e v9 ⟨rfl, hb9⟩; obtain ⟨kk9, ⟨c90, c91, c92, c93, c94, c95, c96, c97, c98⟩, ⟨f91, f92, f93, f94, f95⟩, hl9, hq9, hz9, hbb9⟩ := pg_keep hb9 (blk_drewN HL7.out _) (blk_drewN HQ7.out _) (blk_drewN HZ7.out _) (pw_below_drewN HB7.out _); have hx0n := cell_below_ (show (w7.drewN (nq + 1)).cell? (ad.add (j * 7)) = some (.int .i64 x0) from hx0) hb9; have JL9 := Aside0.mk hl9; have JQ9 := Aside0.mk hq9; have JZ9 := Aside0.mk hz9; have JB9 := Aside0.mk hbb9; clear hb9 hl9 hq9 hz9 hbb9))
 all_goals
  have HQF := Aside0.mk (blk_put (cs := #[.int .i64 a1, .int .i64 x0, .int .i64 0, .int .i64 m2, .int .i64 s2, .int .i64 0, .int .i64 m, .int .i64 s, .int .i64 f]) (blk_put (cs := #[.int .i64 a1, .int .i64 x0, .int .i64 0, .int .i64 m2, .int .i64 0, .int .i64 0, .int .i64 m, .int .i64 s, .int .i64 f]) (blk_put (cs := #[.int .i64 a1, .int .i64 x0, .int .i64 0, .int .i64 0, .int .i64 0, .int .i64 0, .int .i64 m, .int .i64 s, .int .i64 f]) (blk_put (cs := #[.int .i64 a1, .int .i64 x0, .int .i64 1, .int .i64 0, .int .i64 0, .int .i64 0, .int .i64 m, .int .i64 s, .int .i64 f]) (blk_put (cs := #[.int .i64 a1, .int .i64 170, .int .i64 1, .int .i64 0, .int .i64 0, .int .i64 0, .int .i64 m, .int .i64 s, .int .i64 f]) JQ9.out 1 (.int .i64 x0) rfl) 2 (.int .i64 0) rfl) 3 (.int .i64 m2) rfl) 4 (.int .i64 s2) rfl) 5 (.int .i64 u2) rfl)
  have HZF := Aside0.mk (blk_far (p := ⟨q, 5, none⟩) (blk_far (p := ⟨q, 4, none⟩) (blk_far (p := ⟨q, 3, none⟩) (blk_far (p := ⟨q, 2, none⟩) (blk_far (p := ⟨q, 1, none⟩) JZ9.out HNQ.out (.int .i64 x0)) HNQ.out (.int .i64 0)) HNQ.out (.int .i64 m2)) HNQ.out (.int .i64 s2)) HNQ.out (.int .i64 u2))
  go_wp2_with (first | (refine wpList_load_row rfl 27 (.tmp 8) rfl q rfl _ #[.int .i64 a1, .int .i64 x0, .int .i64 0, .int .i64 m2, .int .i64 s2, .int .i64 u2, .int .i64 m, .int .i64 s, .int .i64 f] (0, 0) _ HQF.out hu rfl (by kernel_rfl) ?_) | (refine wpList_store_row rfl 27 (.tmp 6) (.tmp 85) rfl (w.heap.size + 1) #[.int .i64 a1, .int .i64 x0, .int .i64 0, .int .i64 m2, .int .i64 s2, .int .i64 u2, .int .i64 m, .int .i64 s, .int .i64 f] rfl rfl _ _ HZF.out (by kernel_rfl) rfl (by kernel_rfl) ?_))
  refine bodyPost_ret (results_ct rfl _ _ (w.heap.size + 1) 27 #[.int .i64 a1, .int .i64 x0, .int .i64 0, .int .i64 m2, .int .i64 s2, .int .i64 u2, .int .i64 m, .int .i64 s, .int .i64 f] (0, 0) _ rfl (setRow_heap _ _ _ _ _ _ HZF.out) hu rfl (by kernel_rfl)) rfl ?_
  exact ⟨rfl, below_setRow (below_set (j := 5) (v := .int .i64 u2) (below_set (j := 4) (v := .int .i64 s2) (below_set (j := 3) (v := .int .i64 m2) (below_set (j := 2) (v := .int .i64 0) (below_set (j := 1) (v := .int .i64 x0) JB9.out HGQ.out) HGQ.out) HGQ.out) HGQ.out) HGQ.out) (by omega) _⟩
set_option maxHeartbeats 2000000 in
set_option maxRecDepth 100000 in
theorem program_in (A : Option Addr) (cp : Nat) (l : List (S53)) (a1 a2 m s f m2 s2 u2 : Int) (j : Nat) (w : World) (hr : Kd.C k53 w A l.length l) (hc : l.length ≤ cp) (hs : sesB l = true) (h0 : 0 ≤ a1) (h15 : a1 ≤ 15) (h2 : 0 ≤ a2) (h4 : a2 ≤ 449849) (hi : progI l a2 = (j : Int)) (hj : j < l.length) (hcmp : (rd_T53 l (j : Int)).f2 ≤ a2)
 (hm : subchannel_msf.f a2 = some (m, s, f)) (hm2 : subchannel_relative.f (a2 - (rd_T53 l (j : Int)).f2) = some (m2, s2, u2)) :
 Calls Try.prog 11 #[.slice A l.length cp, .int .i64 a1, .int .i64 a2] w fun e w' => e = .returned (.tuple #[.agg #[.int .i64 a1, .int .i64 (rd_T53 l (j : Int)).f0, .int .i64 1, .int .i64 m2, .int .i64 s2, .int .i64 u2, .int .i64 m, .int .i64 s, .int .i64 f], .int .i64 0]) ∧ Below w.heap.size w w' := by
 have hu := Try.underlying27
 have hu3 := Try.underlying25
 have hmf : ∀ (fn : Fn) (first cap : Array Value) (w : World), (Instr.makeFunc fn first cap).run Try.prog w = .ok (.func fn first cap) w := fun _ _ _ _ => rfl
 have HR := Aside0.mk hr
 have HS := fun W h1 => Aside0.mk (session_any A cp l W h1 hc)
 rw [hs] at HS
 have HT := fun W => Aside0.mk (subchannel_between.calls a1 0 15 true W (between_yes h0 h15))
 have HU := fun W => Aside0.mk (subchannel_between.calls a2 0 449849 true W (between_yes h2 h4))
 have HM := fun W => Aside0.mk (subchannel_msf.calls a2 m s f W hm)
 have HM2 := fun W => Aside0.mk (subchannel_relative.calls (a2 - (rd_T53 l (j : Int)).f2) m2 s2 u2 W hm2)
 obtain ⟨idx, hidx⟩ : ∃ idx : Int, (j : Int) = idx := ⟨_, rfl⟩
 have HIDX := Aside0.mk (show progI l a2 = (j : Int) from hi)
 have HSES := Aside0.mk (ses_of hs)
 have hst := HSES.out.start j hj
 have hl9 : l.length ≤ 99 := HSES.out.most
 obtain ⟨x, hx⟩ : ∃ x, x = rd_T53 l (j : Int) := ⟨_, rfl⟩
 rw [← hx] at hst hcmp HM2 ⊢
 obtain ⟨x0, x1, x2, x3, x4, x5, x6⟩ := x
 dsimp only at hst hcmp HM2 ⊢
 have HX := Aside0.mk hx
 clear hr hc hs h0 h15 hm hm2 hidx hi hx
 go_enter Try.func11, Try.ntmps11
 go_wp2_with (fail)
 generalize hw0 : (w.alloc _).alloc _ = w0
 obtain ⟨hb0, hb1, hB⟩ := two_new hw0
 have HR0 := Aside0.mk (Kd.C_below HR.out hB)
 have HB0 := Aside0.mk hB
 have HL0 := Aside0.mk hb0
 have HQ0 := Aside0.mk hb1
 clear hw0 hb0 hb1 hB
 refine (HS _ HR0.out).out.mono ?_
 rintro e w2 ⟨rfl, hb2⟩
 have HB2 := Aside0.mk (below_step HB0.out hb2)
 have HQ2 := Aside0.mk (blk_below HQ0.out hb2)
 have HL2 := Aside0.mk (blk_below HL0.out hb2)
 clear hb2 HB0 HQ0 HL0 HR0 HS
 go_wp2_with (fail)
 refine (HT _).out.mono ?_
 rintro e w3 ⟨rfl, hd⟩
 have HB3 := Aside0.mk (below_step HB2.out hd.below)
 have HQ3 := Aside0.mk (blk_below HQ2.out hd.below)
 have HL3 := Aside0.mk (blk_below HL2.out hd.below)
 have k0 : w3.cell? ⟨w.heap.size, 0, none⟩ = some (.int .i64 a2) := (blk_cell HL3.out 0).trans rfl
 clear hd HB2 HQ2 HL2 HT
 go_wp2_with (fail)
 refine (HU _).out.mono ?_
 rintro e w4 ⟨rfl, hd⟩
 have HB4 := Aside0.mk (below_step HB3.out hd.below)
 have HQ4 := Aside0.mk (blk_below HQ3.out hd.below)
 have HL4 := Aside0.mk (blk_below HL3.out hd.below)
 have k1 : w4.cell? ⟨w.heap.size, 0, none⟩ = some (.int .i64 a2) := (blk_cell HL4.out 0).trans rfl
 clear hd HB3 HQ3 HL3 HU k0
 go_wp2_with (fail)
 refine (HM _).out.mono ?_
 rintro e w5 ⟨rfl, hb5⟩
 have HB5 := Aside0.mk (below_step HB4.out hb5)
 have HQ5 := Aside0.mk (blk_below HQ4.out hb5)
 have HL5 := Aside0.mk (blk_below HL4.out hb5)
 clear hb5 HB4 HQ4 HL4 HM k1
 go_wp2_with (fail)
 generalize hw6 : w5.alloc _ = w6
 have hB6 : Below w5.heap.size w5 w6 := by rw [← hw6]; exact below_one _ _
 obtain ⟨q, hq⟩ : ∃ q, w5.heap.size = q := ⟨_, rfl⟩
 have hbq : w6.heap[q]? = some (.cells #[.int .i64 a1, .int .i64 170, .int .i64 1, .int .i64 0, .int .i64 0, .int .i64 0, .int .i64 m, .int .i64 s, .int .i64 f] 27 (0, 0)) := by rw [← hw6, ← hq]; exact blk_new _ _
 rw [hq]
 have HGQ := Aside0.mk (show w.heap.size ≤ q by rw [← hq]; exact HB5.out.size)
 have HNQ := Aside0.mk (show w.heap.size + 1 ≠ q by have := blk_lt HQ5.out; omega)
 have HB6 := Aside0.mk (below_step HB5.out hB6)
 have HQ6 := Aside0.mk hbq
 have HZ6 := Aside0.mk (blk_below HQ5.out hB6)
 have HL6 := Aside0.mk (blk_below HL5.out hB6)
 clear hw6 hB6 hq hbq HB5 HQ5 HL5
 refine (indexFunc_any (headB a2) 29 #[.pointer (some ⟨w.heap.size, 0, none⟩)] A cp l w6 (Kd.C_below HR.out HB6.out) (fnAt_head a2 w.heap.size w6 HL6.out)).mono ?_
 rintro e w7 ⟨rfl, hb7⟩
 rw [show idxP (headB a2) l l.length 0 = (j : Int) from HIDX.out]
 obtain ⟨k0, ⟨c0, c1, c2, c3, c4, c5, c6, c7, c8⟩, ⟨f1, f2, f3, f4, f5⟩, hl7, hq7, hz7, hb77⟩ := pg_keep hb7 HL6.out HQ6.out HZ6.out HB6.out
 have HB7 := Aside0.mk hb77
 have HQ7 := Aside0.mk hq7
 have HZ7 := Aside0.mk hz7
 have HL7 := Aside0.mk hl7
 clear hb7 hb77 hq7 hz7 hl7 HB6 HQ6 HZ6 HL6
 have hz1 : (j : Int) < (l.length : Int) := by omega
 have hz2 : 0 ≤ (j : Int) := by omega
 obtain ⟨ad, rfl, hx0, -, hx2, -⟩ := at_T53 (Kd.C_below HR.out HB7.out) (j : Int) hz2 hz1
 rw [Int.toNat_natCast, ← HX.out] at hx0 hx2
 dsimp only at hx0 hx2
 have hs0 := hst.1
 have hs1 := hst.2
 have hidb : decide ((j : Int) < 0) = false := decide_eq_false (by omega)
 have hcb : decide (a2 < x2) = false := decide_eq_false (by omega)
 clear hst
 go_wp2_with (fail)
 go_quiet (fail)
 go_wp2_with (fail)
 have hw2 : IntKind.i64.wrap (a2 - x2) = a2 - x2 := IntWalk.i64_in _ (by omega)
 go_region_with (first
  | (go_at_call 31; refine (HM2 _).out.mono ?_; rintro e v9 ⟨rfl, hb9⟩; obtain ⟨kk9, ⟨c90, c91, c92, c93, c94, c95, c96, c97, c98⟩, ⟨f91, f92, f93, f94, f95⟩, hl9, hq9, hz9, hbb9⟩ := pg_keep hb9 (blk_drewN HL7.out _) (blk_drewN HQ7.out _) (blk_drewN HZ7.out _) (pw_below_drewN HB7.out _); have hx0n := cell_below_ (show (w7.drewN (nq + 1)).cell? (ad.add (j * 7)) = some (.int .i64 x0) from hx0) hb9; have JL9 := Aside0.mk hl9; have JQ9 := Aside0.mk hq9; have JZ9 := Aside0.mk hz9; have JB9 := Aside0.mk hbb9; clear hb9 hl9 hq9 hz9 hbb9))
 all_goals
  have HQF := Aside0.mk (blk_put (cs := #[.int .i64 a1, .int .i64 x0, .int .i64 1, .int .i64 m2, .int .i64 s2, .int .i64 0, .int .i64 m, .int .i64 s, .int .i64 f]) (blk_put (cs := #[.int .i64 a1, .int .i64 x0, .int .i64 1, .int .i64 m2, .int .i64 0, .int .i64 0, .int .i64 m, .int .i64 s, .int .i64 f]) (blk_put (cs := #[.int .i64 a1, .int .i64 x0, .int .i64 1, .int .i64 0, .int .i64 0, .int .i64 0, .int .i64 m, .int .i64 s, .int .i64 f]) (blk_put (cs := #[.int .i64 a1, .int .i64 170, .int .i64 1, .int .i64 0, .int .i64 0, .int .i64 0, .int .i64 m, .int .i64 s, .int .i64 f]) JQ9.out 1 (.int .i64 x0) rfl) 3 (.int .i64 m2) rfl) 4 (.int .i64 s2) rfl) 5 (.int .i64 u2) rfl)
  have HZF := Aside0.mk (blk_far (p := ⟨q, 5, none⟩) (blk_far (p := ⟨q, 4, none⟩) (blk_far (p := ⟨q, 3, none⟩) (blk_far (p := ⟨q, 1, none⟩) JZ9.out HNQ.out (.int .i64 x0)) HNQ.out (.int .i64 m2)) HNQ.out (.int .i64 s2)) HNQ.out (.int .i64 u2))
  go_wp2_with (first | (refine wpList_load_row rfl 27 (.tmp 8) rfl q rfl _ #[.int .i64 a1, .int .i64 x0, .int .i64 1, .int .i64 m2, .int .i64 s2, .int .i64 u2, .int .i64 m, .int .i64 s, .int .i64 f] (0, 0) _ HQF.out hu rfl (by kernel_rfl) ?_) | (refine wpList_store_row rfl 27 (.tmp 6) (.tmp 85) rfl (w.heap.size + 1) #[.int .i64 a1, .int .i64 x0, .int .i64 1, .int .i64 m2, .int .i64 s2, .int .i64 u2, .int .i64 m, .int .i64 s, .int .i64 f] rfl rfl _ _ HZF.out (by kernel_rfl) rfl (by kernel_rfl) ?_))
  refine bodyPost_ret (results_ct rfl _ _ (w.heap.size + 1) 27 #[.int .i64 a1, .int .i64 x0, .int .i64 1, .int .i64 m2, .int .i64 s2, .int .i64 u2, .int .i64 m, .int .i64 s, .int .i64 f] (0, 0) _ rfl (setRow_heap _ _ _ _ _ _ HZF.out) hu rfl (by kernel_rfl)) rfl ?_
  exact ⟨rfl, below_setRow (below_set (j := 5) (v := .int .i64 u2) (below_set (j := 4) (v := .int .i64 s2) (below_set (j := 3) (v := .int .i64 m2) (below_set (j := 1) (v := .int .i64 x0) JB9.out HGQ.out) HGQ.out) HGQ.out) HGQ.out) (by omega) _⟩
end Go.Proofs.Ytpmkibggmkibeaa.G
namespace Go.Proofs.Ytpmkibggmkibeaa.G
open Go.RowKit Go.Proofs.YtpmkibggmkibeaaW.PrintWords Go.Proofs.YtpmkibggmkibeaaW.PrintLast Go.Proofs.YtpmkibggmkibeaaW.PrintMore
set_option linter.unusedVariables false
theorem idxP_none (p : S53 → Bool) (l : List (S53)) (d : Nat) : ∀ i, l.length - i = d → idxP p l d i = -1 → ∀ k : Nat, i ≤ k → k < l.length → p (rd_T53 l (k : Int)) = false := by
 induction d with
 | zero => intro i hd _ k h1 h2; omega
 | succ d ih =>
  intro i hd h k h1 h2
  simp only [idxP] at h
  cases hp : p (rd_T53 l (i : Int)) with
  | true => rw [hp, if_pos rfl] at h; omega
  | false =>
   rw [hp, if_neg (by decide)] at h
   by_cases e : k = i
   · rw [e]; exact hp
   · exact ih (i + 1) (by omega) h k (by omega) h2
theorem headB_plain {l : List (S53)} (hs : Ses l) (lba : Int) (k : Nat) (hk : k < l.length) : headB lba (rd_T53 l (k : Int)) = decide (lba < (rd_T53 l (k : Int)).f2 + (rd_T53 l (k : Int)).f3) := by
 have h1 := hs.start k hk
 have h2 := hs.len k hk
 unfold headB
 rw [show wrap64 ((rd_T53 l (k : Int)).f2 + (rd_T53 l (k : Int)).f3) = (rd_T53 l (k : Int)).f2 + (rd_T53 l (k : Int)).f3 by unfold wrap64; omega]
theorem progI_cases {l : List (S53)} (hs : Ses l) (lba : Int) :
 (progI l lba = -1 ∧ lastE l ≤ lba) ∨ ∃ j : Nat, progI l lba = (j : Int) ∧ j < l.length ∧ lba < (rd_T53 l (j : Int)).f2 + (rd_T53 l (j : Int)).f3 ∧ ∀ k : Nat, k < j → (rd_T53 l (k : Int)).f2 + (rd_T53 l (k : Int)).f3 ≤ lba := by
 rcases idxP_range (headB lba) l l.length 0 (by omega) (by omega) with h | ⟨j, h1, h2, h3, h4, h5⟩
 · refine Or.inl ⟨h, ?_⟩
   have h1 := hs.one
   have := idxP_none (headB lba) l l.length 0 (by omega) h (l.length - 1) (by omega) (by omega)
   rw [headB_plain hs lba _ (by omega)] at this
   have h2 := of_decide_eq_false this
   rw [show ((l.length - 1 : Nat) : Int) = (l.length : Int) - 1 by omega] at h2
   unfold lastE
   omega
 · refine Or.inr ⟨j, h1, h3, ?_, fun k hk => ?_⟩
   · rw [headB_plain hs lba j h3] at h4; exact of_decide_eq_true h4
   · have := h5 k (by omega) hk
     rw [headB_plain hs lba k (by omega)] at this
     have := of_decide_eq_false this
     omega
theorem subchannel_Program.calls (A0 : Option Addr) (c0 : Nat) (l0 : List (S53)) (a1 : Int) (a2 : Int) (r1 : Int) (r2 : Int) (r3 : Int) (r4 : Int) (r5 : Int) (r6 : Int) (r7 : Int) (r8 : Int) (r9 : Int) (r10 : Int) (w : World) (hr0 : Kd.C k53 w A0 l0.length l0) (hc0 : l0.length ≤ c0) (h : subchannel_Program.f l0 a1 a2 = some (r1, r2, r3, r4, r5, r6, r7, r8, r9, r10)) :
 Calls Try.prog 11 #[.slice A0 l0.length c0, .int .i64 a1, .int .i64 a2] w fun e w' => e = .returned (.tuple #[.agg #[.int .i64 r1, .int .i64 r2, .int .i64 r3, .int .i64 r4, .int .i64 r5, .int .i64 r6, .int .i64 r7, .int .i64 r8, .int .i64 r9], .int .i64 r10]) ∧ Below w.heap.size w w' := by
 unfold subchannel_Program.f at h
 by_cases hs : sesB l0 = true ∧ 0 ≤ a1 ∧ a1 ≤ 15
 case neg =>
  rw [if_neg hs] at h
  cases h
  exact program_no1 A0 c0 l0 a1 a2 w hr0 hc0 hs
 rw [if_pos hs] at h
 by_cases h2 : 0 ≤ a2 ∧ a2 ≤ 449849
 case neg =>
  rw [if_neg h2] at h
  cases h
  exact program_no2 A0 c0 l0 a1 a2 w hr0 hc0 hs.1 hs.2.1 hs.2.2 h2
 rw [if_pos h2] at h
 have hses := ses_of hs.1
 rcases progI_cases hses a2 with ⟨hi, hge⟩ | ⟨j, hi, hj, hlt, -⟩
 · have hst := hses.start (l0.length - 1) (by have := hses.one; omega)
   have hle := hses.len (l0.length - 1) (by have := hses.one; omega)
   rw [show ((l0.length - 1 : Nat) : Int) = (l0.length : Int) - 1 by have := hses.one; omega] at hst hle
   rw [if_pos (by omega)] at h
   simp only [relOf, Option.some.injEq, Prod.mk.injEq] at h
   obtain ⟨rfl, rfl, rfl, rfl, rfl, rfl, rfl, rfl, rfl, rfl⟩ := h
   exact program_out A0 c0 l0 a1 a2 _ _ _ _ _ _ w hr0 hc0 hs.1 hs.2.1 hs.2.2 h2.1 h2.2 (by omega) hge (msf_plain (by omega) h2.2) (relative_plain (by omega) (by have : lastE l0 = (rd_T53 l0 ((l0.length : Int) - 1)).f2 + (rd_T53 l0 ((l0.length : Int) - 1)).f3 := rfl; omega))
 · rw [if_neg (by omega), hi] at h
   have hst := hses.start j hj
   have hle := hses.len j hj
   by_cases hcmp : a2 < (rd_T53 l0 (j : Int)).f2
   · rw [if_pos hcmp] at h
     simp only [relOf, Option.some.injEq, Prod.mk.injEq] at h
     obtain ⟨rfl, rfl, rfl, rfl, rfl, rfl, rfl, rfl, rfl, rfl⟩ := h
     exact program_gap A0 c0 l0 a1 a2 _ _ _ _ _ _ j w hr0 hc0 hs.1 hs.2.1 hs.2.2 h2.1 h2.2 hi hj hcmp (msf_plain (by omega) h2.2) (relative_plain (by omega) (by omega))
   · rw [if_neg hcmp] at h
     simp only [relOf, Option.some.injEq, Prod.mk.injEq] at h
     obtain ⟨rfl, rfl, rfl, rfl, rfl, rfl, rfl, rfl, rfl, rfl⟩ := h
     exact program_in A0 c0 l0 a1 a2 _ _ _ _ _ _ j w hr0 hc0 hs.1 hs.2.1 hs.2.2 h2.1 h2.2 hi hj (by omega) (msf_plain (by omega) h2.2) (relative_plain (by omega) (by omega))
end Go.Proofs.Ytpmkibggmkibeaa.G
namespace Go.Proofs.Ytpmkibggmkibeaa.G
open Go.RowKit Go.Proofs.YtpmkibggmkibeaaW.PrintWords Go.Proofs.YtpmkibggmkibeaaW.PrintLast Go.Proofs.YtpmkibggmkibeaaW.PrintMore
set_option linter.unusedVariables false
theorem sesGo_mk {l : List (S53)} (hs : Ses l) (d : Nat) : ∀ (i : Nat) (last : Int), i + d = l.length → (0 < d → last ≤ (rd_T53 l (i : Int)).f2) → sesGo l d i last = true := by
 induction d with
 | zero => intro i last _ _; rfl
 | succ d ih =>
  intro i last hi hla
  have hilt : i < l.length := by omega
  have h1 := hs.num i hilt
  have h2 := hs.start i hilt
  have h3 := hs.len i hilt
  have h4 := hla (by omega)
  simp only [sesGo, Bool.and_eq_true]
  refine ⟨?_, ih (i + 1) _ (by omega) (fun hd => ?_)⟩
  · unfold sesOk
    rw [decide_eq_true_eq]
    exact ⟨h1.1, h1.2, fun h => hs.next i h hilt, h4, h2.2, h3.1, h3.2.1, h3.2.2⟩
  · have := hs.behind (i + 1) (by omega) (by omega)
    rwa [show (((i + 1 : Nat) : Int) - 1) = (i : Int) by omega] at this
theorem sesB_mk {l : List (S53)} (hs : Ses l) : sesB l = true := by
 unfold sesB
 have h1 := hs.one
 have h9 := hs.most
 rw [decide_eq_true (by omega), Bool.true_and]
 refine sesGo_mk hs l.length 0 0 (by omega) (fun _ => ?_)
 exact (hs.start 0 (by omega)).1
theorem rd_ent3 (T : List (S53)) (c : Int) (n j : Nat) (h : j < n) : rd_T27 (entL T c n) (((j + 3 : Nat)) : Int) = frameQ c (rd_T53 T (j : Int)).f0 (msfM (rd_T53 T (j : Int)).f2) (msfS (rd_T53 T (j : Int)).f2) (msfF (rd_T53 T (j : Int)).f2) := by
 unfold entL
 simp only [rd_T27, Int.toNat_natCast, List.getD_eq_getElem?_getD]
 rw [List.getElem?_append_right (by simp)]
 simp [h]
theorem rd_tt (l : List (S27)) (num : Nat → Int) (n j : Nat) (h : j < n) : rd_T53 (ttL l num n) (j : Int) = ⟨num j, 0, stL l j, nxL l n j - stL l j, 0, 0, 0⟩ := by
 simp [rd_T53, ttL, List.getD_eq_getElem?_getD, h]
section
variable {t : List (S53)} (hs : Ses t) (c : Int)
include hs
theorem ent_st (j : Nat) (hj : j < t.length) : stL (entL t c t.length) j = (rd_T53 t (j : Int)).f2 ∧ okL (entL t c t.length) j = true ∧ ptL (entL t c t.length) j = (rd_T53 t (j : Int)).f0 := by
 have h2 := hs.start j hj
 have hv := lbaV_msf (n := (rd_T53 t (j : Int)).f2) (by omega) h2.2
 unfold stL okL ptL
 rw [rd_ent3 t c t.length j hj]
 exact ⟨hv.1, hv.2, rfl⟩
theorem last_range : 1 ≤ lastE t ∧ lastE t ≤ 449849 := by
 have h1 := hs.one
 have hst := hs.start (t.length - 1) (by omega)
 have hle := hs.len (t.length - 1) (by omega)
 rw [show ((t.length - 1 : Nat) : Int) = (t.length : Int) - 1 by omega] at hst hle
 unfold lastE
 omega
theorem ent_out : outL (entL t c t.length) = lastE t := by
 have := last_range hs
 exact (lbaV_msf (n := lastE t) (by omega) this.2).1
theorem ent_nx (j : Nat) (hj : j < t.length) : nxL (entL t c t.length) t.length j = (if j + 1 < t.length then (rd_T53 t ((j + 1 : Nat) : Int)).f2 else lastE t) := by
 unfold nxL
 by_cases h : j + 1 < t.length
 · rw [if_pos h, if_pos h, (ent_st hs c (j + 1) h).1]
 · rw [if_neg h, if_neg h, ent_out hs c]
theorem ent_nx_range (j : Nat) (hj : j < t.length) : (rd_T53 t (j : Int)).f2 + 1 ≤ nxL (entL t c t.length) t.length j ∧ nxL (entL t c t.length) t.length j ≤ 449849 := by
 rw [ent_nx hs c j hj]
 have h3 := hs.len j hj
 by_cases h : j + 1 < t.length
 · rw [if_pos h]
   have hb := hs.behind (j + 1) (by omega) h
   rw [show (((j + 1 : Nat) : Int) - 1) = (j : Int) by omega] at hb
   have h4 := hs.start (j + 1) h
   omega
 · rw [if_neg h]
   have := last_range hs
   have e : lastE t = (rd_T53 t (j : Int)).f2 + (rd_T53 t (j : Int)).f3 := by
    unfold lastE
    rw [show (t.length : Int) - 1 = (j : Int) by omega]
   omega
theorem ent_ses : Ses (ttL (entL t c t.length) (ptL (entL t c t.length)) t.length) := by
 have hl := ttL_length (entL t c t.length) (ptL (entL t c t.length)) t.length
 have rdj : ∀ j, j < t.length → rd_T53 (ttL (entL t c t.length) (ptL (entL t c t.length)) t.length) (j : Int) = ⟨(rd_T53 t (j : Int)).f0, 0, (rd_T53 t (j : Int)).f2, nxL (entL t c t.length) t.length j - (rd_T53 t (j : Int)).f2, 0, 0, 0⟩ := fun j hj => by
  rw [rd_tt _ _ _ _ hj, (ent_st hs c j hj).1, (ent_st hs c j hj).2.2]
 refine ⟨by rw [hl]; exact hs.one, by rw [hl]; exact hs.most, fun i hi => ?_, fun i h0 hi => ?_, fun i hi => ?_, fun i h0 hi => ?_, fun i hi => ?_⟩ <;> rw [hl] at hi
 · rw [rdj i hi]; exact hs.num i hi
 · have := hs.next i h0 hi
   rw [show ((i : Int) - 1) = ((i - 1 : Nat) : Int) by omega] at this ⊢
   rw [rdj i hi, rdj (i - 1) (by omega)]
   exact this
 · rw [rdj i hi]; exact hs.start i hi
 · have e := ent_nx hs c (i - 1) (by omega)
   rw [if_pos (by omega), show (i - 1 + 1) = i by omega] at e
   rw [show ((i : Int) - 1) = ((i - 1 : Nat) : Int) by omega, rdj i hi, rdj (i - 1) (by omega), e]
   dsimp only
   omega
 · have h2 := hs.start i hi
   have h5 := ent_nx_range hs c i hi
   rw [rdj i hi]
   dsimp only
   omega
theorem ent_again : entL (ttL (entL t c t.length) (ptL (entL t c t.length)) t.length) c t.length = entL t c t.length := by
 have h1 := hs.one
 have hl := ttL_length (entL t c t.length) (ptL (entL t c t.length)) t.length
 have rdj : ∀ j, j < t.length → rd_T53 (ttL (entL t c t.length) (ptL (entL t c t.length)) t.length) (j : Int) = ⟨(rd_T53 t (j : Int)).f0, 0, (rd_T53 t (j : Int)).f2, nxL (entL t c t.length) t.length j - (rd_T53 t (j : Int)).f2, 0, 0, 0⟩ := fun j hj => by
  rw [rd_tt _ _ _ _ hj, (ent_st hs c j hj).1, (ent_st hs c j hj).2.2]
 have r0 := rdj 0 (by omega)
 rw [show ((0 : Nat) : Int) = (0 : Int) from rfl] at r0
 have rl := rdj (t.length - 1) (by omega)
 rw [show ((t.length - 1 : Nat) : Int) = (t.length : Int) - 1 by omega] at rl
 have en := ent_nx hs c (t.length - 1) (by omega)
 rw [if_neg (by omega)] at en
 rw [en] at rl
 generalize hT : ttL (entL t c t.length) (ptL (entL t c t.length)) t.length = T at *
 unfold entL
 rw [hl, r0, rl]
 dsimp only
 have e1 : (rd_T53 t ((t.length : Int) - 1)).f2 + (lastE t - (rd_T53 t ((t.length : Int) - 1)).f2) = (rd_T53 t ((t.length : Int) - 1)).f2 + (rd_T53 t ((t.length : Int) - 1)).f3 := by
  unfold lastE; omega
 rw [e1]
 congr 1
 apply List.map_congr_left
 intro j hj
 rw [rdj j (List.mem_range.mp hj)]
theorem ent_good (h0 : 0 ≤ c) (h15 : c ≤ 15) : goodC (entL t c t.length) := by
 have h1 := hs.one
 have hl : (entL t c t.length).length = t.length + 3 := entL_length _ _ _
 have e3 : (entL t c t.length).length - 3 = t.length := by omega
 have hct : ctL (entL t c t.length) = c := rfl
 unfold goodC
 rw [e3, hct]
 refine ⟨by omega, fun j hj => (ent_st hs c j (by omega)).2.1, sesB_mk (ent_ses hs c), h0, h15, ent_again hs c⟩
theorem collect_entries (h0 : 0 ≤ c) (h15 : c ≤ 15) : ∃ k, subchannel_Collect.f k (entL t c t.length) = some (spL (entL t c t.length) t.length, lastE t, 0) := by
 have h9 := hs.most
 have hl : (entL t c t.length).length = t.length + 3 := entL_length _ _ _
 obtain ⟨k, hk, -⟩ := collect_plain (entL t c t.length) (by omega)
 have := hk (ent_good hs c h0 h15)
 rw [ent_out hs c, show (entL t c t.length).length - 3 = t.length by omega] at this
 exact ⟨k, this⟩
end
end Go.Proofs.Ytpmkibggmkibeaa.G
namespace Go.Proofs.Ytpmkibggmkibeaa.G
open Go.RowKit Go.Proofs.YtpmkibggmkibeaaW.PrintWords Go.Proofs.YtpmkibggmkibeaaW.PrintLast Go.Proofs.YtpmkibggmkibeaaW.PrintMore
attribute [local go_sem] max2_int min2_int max_two min_two max_three min_three max_four min_four   -- for this text's walks alone
set_option linter.unusedVariables false
set_option linter.unusedSimpArgs false
attribute [local go_sem high] eqA27
def masterdisclaw10_awake.f  : Option (Bool) := (subchannel_Encode.f 4 1 1 0 0 0 0 2 0).bind fun bt169 => ((subchannel_Entries.f (([(⟨1, 0, 0, 300, 0, 0, 0⟩ : S53)] : List (S53))) 4).bind fun bt174 => (if bt169.2 = 0 then (if (bt169.1.size : Int) = 12 then (if 0 ≤ 10 then (if 10 ≤ (bt169.1.size : Int) then (if (bt169.1.extract 0 10).toList = ([65, 1, 1, 0, 0, 0, 0, 0, 2, 0] : List UInt8) then (if bt174.2 = 0 then (if (bt174.1.length : Int) = 4 then (if 2 < (bt174.1.length : Int) then (some (((rd_T27 bt174.1 2).f0) == 4 && (((rd_T27 bt174.1 2).f1) == 0 && (((rd_T27 bt174.1 2).f2) == 162 && ((((rd_T27 bt174.1 2).f3.f0) == 0 && (((rd_T27 bt174.1 2).f3.f1) == 0 && (((rd_T27 bt174.1 2).f3.f2) == 0))) && ((((rd_T27 bt174.1 2).f4.f0) == 0 && (((rd_T27 bt174.1 2).f4.f1) == 6 && (((rd_T27 bt174.1 2).f4.f2) == 0))))))))) else (none)) else (none)) else (none)) else (none)) else (none)) else (none)) else (none)) else (none)))
set_option maxHeartbeats 8000000 in
set_option maxRecDepth 100000 in
theorem masterdisclaw10_awake.calls  (r : Bool) (w : World) (h : masterdisclaw10_awake.f  = some r) :
 Calls Try.prog 10 #[] w fun e w' => e = .returned (.bool r) ∧ Below w.heap.size w w' := by
 have hu25 := Try.underlying25
 have hu27 := Try.underlying27
 have hu53 := Try.underlying53
 have HB := Aside0.mk (Below.refl w.heap.size w)
 have H : ((subchannel_Encode.f 4 1 1 0 0 0 0 2 0).bind fun bt169 => ((subchannel_Entries.f (([(⟨1, 0, 0, 300, 0, 0, 0⟩ : S53)] : List (S53))) 4).bind fun bt174 => (if bt169.2 = 0 then (if (bt169.1.size : Int) = 12 then (if 0 ≤ 10 then (if 10 ≤ (bt169.1.size : Int) then (if (bt169.1.extract 0 10).toList = ([65, 1, 1, 0, 0, 0, 0, 0, 2, 0] : List UInt8) then (if bt174.2 = 0 then (if (bt174.1.length : Int) = 4 then (if 2 < (bt174.1.length : Int) then (some (((rd_T27 bt174.1 2).f0) == 4 && (((rd_T27 bt174.1 2).f1) == 0 && (((rd_T27 bt174.1 2).f2) == 162 && ((((rd_T27 bt174.1 2).f3.f0) == 0 && (((rd_T27 bt174.1 2).f3.f1) == 0 && (((rd_T27 bt174.1 2).f3.f2) == 0))) && ((((rd_T27 bt174.1 2).f4.f0) == 0 && (((rd_T27 bt174.1 2).f4.f1) == 6 && (((rd_T27 bt174.1 2).f4.f2) == 0))))))))) else (none)) else (none)) else (none)) else (none)) else (none)) else (none)) else (none)) else (none)))) = some r := h
 clear h
 replace H := Option.bind_eq_some_iff.mp H
 obtain ⟨⟨t169, t170⟩, A10, H⟩ := H
 replace H : ((subchannel_Entries.f (([(⟨1, 0, 0, 300, 0, 0, 0⟩ : S53)] : List (S53))) 4).bind fun bt174 => (if t170 = 0 then (if (t169.size : Int) = 12 then (if 0 ≤ 10 then (if 10 ≤ (t169.size : Int) then (if (t169.extract 0 10).toList = ([65, 1, 1, 0, 0, 0, 0, 0, 2, 0] : List UInt8) then (if bt174.2 = 0 then (if (bt174.1.length : Int) = 4 then (if 2 < (bt174.1.length : Int) then (some (((rd_T27 bt174.1 2).f0) == 4 && (((rd_T27 bt174.1 2).f1) == 0 && (((rd_T27 bt174.1 2).f2) == 162 && ((((rd_T27 bt174.1 2).f3.f0) == 0 && (((rd_T27 bt174.1 2).f3.f1) == 0 && (((rd_T27 bt174.1 2).f3.f2) == 0))) && ((((rd_T27 bt174.1 2).f4.f0) == 0 && (((rd_T27 bt174.1 2).f4.f1) == 6 && (((rd_T27 bt174.1 2).f4.f2) == 0))))))))) else (none)) else (none)) else (none)) else (none)) else (none)) else (none)) else (none)) else (none))) = some r := H
 have A1 := Aside0.mk A10
 clear A10
 obtain ⟨y171, hy171⟩ : ∃ y_ : List (S53), y_ = (([(⟨1, 0, 0, 300, 0, 0, 0⟩ : S53)] : List (S53))) := ⟨_, rfl⟩
 replace H : ((subchannel_Entries.f y171 4).bind fun bt174 => (if t170 = 0 then (if (t169.size : Int) = 12 then (if 0 ≤ 10 then (if 10 ≤ (t169.size : Int) then (if (t169.extract 0 10).toList = ([65, 1, 1, 0, 0, 0, 0, 0, 2, 0] : List UInt8) then (if bt174.2 = 0 then (if (bt174.1.length : Int) = 4 then (if 2 < (bt174.1.length : Int) then (some (((rd_T27 bt174.1 2).f0) == 4 && (((rd_T27 bt174.1 2).f1) == 0 && (((rd_T27 bt174.1 2).f2) == 162 && ((((rd_T27 bt174.1 2).f3.f0) == 0 && (((rd_T27 bt174.1 2).f3.f1) == 0 && (((rd_T27 bt174.1 2).f3.f2) == 0))) && ((((rd_T27 bt174.1 2).f4.f0) == 0 && (((rd_T27 bt174.1 2).f4.f1) == 6 && (((rd_T27 bt174.1 2).f4.f2) == 0))))))))) else (none)) else (none)) else (none)) else (none)) else (none)) else (none)) else (none)) else (none))) = some r := by first | (rw [hy171]; with_reducible exact H) | (have H2_ := (Option.bind_some _ _).symm.trans H; rw [hy171]; with_reducible exact H2_) | (have H2_ := (Option.bind_some _ _).symm.trans H; with_reducible exact H2_) | with_reducible exact H | (rw [hy171]; exact H) | exact H
 have Ny171 := Aside0.mk hy171
 clear hy171
 replace H := Option.bind_eq_some_iff.mp H
 obtain ⟨⟨t174, t175⟩, A20, H⟩ := H
 replace H : (if t170 = 0 then (if (t169.size : Int) = 12 then (if 0 ≤ 10 then (if 10 ≤ (t169.size : Int) then (if (t169.extract 0 10).toList = ([65, 1, 1, 0, 0, 0, 0, 0, 2, 0] : List UInt8) then (if t175 = 0 then (if (t174.length : Int) = 4 then (if 2 < (t174.length : Int) then (some (((rd_T27 t174 2).f0) == 4 && (((rd_T27 t174 2).f1) == 0 && (((rd_T27 t174 2).f2) == 162 && ((((rd_T27 t174 2).f3.f0) == 0 && (((rd_T27 t174 2).f3.f1) == 0 && (((rd_T27 t174 2).f3.f2) == 0))) && ((((rd_T27 t174 2).f4.f0) == 0 && (((rd_T27 t174 2).f4.f1) == 6 && (((rd_T27 t174 2).f4.f2) == 0))))))))) else (none)) else (none)) else (none)) else (none)) else (none)) else (none)) else (none)) else (none)) = some r := H
 have A2 := Aside0.mk A20
 clear A20
 by_cases c3 : t170 = 0
 · rw [if_pos c3] at H
   have c3b0 : (t170 == 0) = true := beq_iff_eq.mpr c3
   have c3b1 : (t170 != 0) = false := bne_eq_false_iff_eq.mpr c3
   clear c3
   by_cases c4 : (t169.size : Int) = 12
   · rw [if_pos c4] at H
     have c4b0 : ((t169.size : Int) == 12) = true := beq_iff_eq.mpr c4
     have c4b1 : ((t169.size : Int) != 12) = false := bne_eq_false_iff_eq.mpr c4
     clear c4
     by_cases c5 : 0 ≤ 10
     · rw [if_pos c5] at H
       have c5b0 := eq_true c5
       have c5b1 : decide (0 ≤ 10) = true := decide_eq_true c5
       clear c5
       by_cases c6 : 10 ≤ (t169.size : Int)
       · rw [if_pos c6] at H
         have c6b0 := eq_true c6
         have c6b1 : decide (10 ≤ (t169.size : Int)) = true := decide_eq_true c6
         clear c6
         by_cases c7 : (t169.extract 0 10).toList = ([65, 1, 1, 0, 0, 0, 0, 0, 2, 0] : List UInt8)
         · rw [if_pos c7] at H
           have c7b0 : ((t169.extract 0 10).toList == ([65, 1, 1, 0, 0, 0, 0, 0, 2, 0] : List UInt8)) = true := beq_iff_eq.mpr c7
           have c7b1 : ((t169.extract 0 10).toList != ([65, 1, 1, 0, 0, 0, 0, 0, 2, 0] : List UInt8)) = false := bne_eq_false_iff_eq.mpr c7
           clear c7
           by_cases c8 : t175 = 0
           · rw [if_pos c8] at H
             have c8b0 : (t175 == 0) = true := beq_iff_eq.mpr c8
             have c8b1 : (t175 != 0) = false := bne_eq_false_iff_eq.mpr c8
             clear c8
             by_cases c9 : (t174.length : Int) = 4
             · rw [if_pos c9] at H
               have c9b0 : ((t174.length : Int) == 4) = true := beq_iff_eq.mpr c9
               have c9b1 : ((t174.length : Int) != 4) = false := bne_eq_false_iff_eq.mpr c9
               clear c9
               by_cases c10 : 2 < (t174.length : Int)
               · rw [if_pos c10] at H
                 have c10b0 : decide (2 < (t174.length : Int)) = true := decide_eq_true c10
                 have c10b1 : decide (2 < t174.length) = true := decide_eq_true (by omega)
                 clear c10
                 obtain rfl := Option.some.inj H
                 go_enter Try.func10, Try.ntmps10
                 go_wp2_with (first | ((with_reducible refine gate_callee (f := 18) rfl ?_); refine goesL_ (some 8) rfl rfl Try.func18 (by kernel_rfl) rfl #[.agg #[.int .i64 4, .int .i64 1, .int .i64 1, .int .i64 0, .int .i64 0, .int .i64 0, .int .i64 0, .int .i64 2, .int .i64 0]] rfl (by (try simp only [List.map_toArray, List.map_cons, List.map_nil]); first | done | rfl | (simp only [List.length_drop, List.length_take]; rfl)) ?_; (with_reducible refine (subchannel_Encode.calls 4 1 1 0 0 0 0 2 0 t169 t170 _ A1.out).mono ?_); rintro e w11 ⟨rfl, hb⟩; refine ⟨_, rfl, ?_⟩; have n0_ := Aside0.mk (below_step (by repeat (first | (with_reducible first | exact HB.out | apply below_alloc | apply pw_below_drewN | apply below_drew1) | exact HB.out)) hb); clear HB; have HB := n0_; clear n0_; (try clear hb); (try clear hb2); (try clear hk); (try clear hi)) | ((with_reducible refine gate_dst (N := 13) rfl ?_); (try (refine gate_guard (by rfl) ?_; dsimp only)); refine Kd.R_lit k53 _ 53 ?hg (N := 13) ?hd (xs := ([(⟨1, 0, 0, 300, 0, 0, 0⟩ : S53)] : List (S53))) (inner := [.int .i64 1, .int .i64 0, .int .i64 0, .int .i64 300, .int .i64 0, .int .i64 0, .int .i64 0]) (ok := fun _ => True) (okp := fun _ => True) ?hr ?hp (fun _ hk => hk) trivial (Below.refl _ _) (Nat.le_refl _) (by simp) ?_; (case hd => rfl); (case hg => rfl); (case hr => first | (go_simp; done) | (go_simp; rfl)); (case hp => exact (Reps.c7 (show Kd.M k53 _ _ _ (⟨1, 0, 0, 300, 0, 0, 0⟩ : S53) [.int .i64 1, .int .i64 0, .int .i64 0, .int .i64 300, .int .i64 0, .int .i64 0, .int .i64 0] from (k53_mkM _ _ _ (⟨1, 0, 0, 300, 0, 0, 0⟩ : S53) )) (Reps.none _ _))); intro v172 w12 ho13 hb hg_ hnew_; clear hg_ hnew_; (first | rw [← Ny171.out] at ho13 | (simp only [Int.reduceToNat] at ho13; rw [← Ny171.out] at ho13)); have n0_ := Aside0.mk (Kd.R_lower ho13 (below_size (by repeat (first | (with_reducible first | exact HB.out | apply below_alloc | apply pw_below_drewN | apply below_drew1) | exact HB.out)))); have n1_ := Aside0.mk (below_step (by repeat (first | (with_reducible first | exact HB.out | apply below_alloc | apply pw_below_drewN | apply below_drew1) | exact HB.out)) hb); clear HB; have HO173 := n0_; have HB := n1_; clear n0_ n1_; clear hb ho13; obtain ⟨Ao14, co14, eo14⟩ := Kd.R_slice HO173.out; subst eo14) | ((with_reducible refine gate_callee (f := 13) rfl ?_); refine goesL_ (some 14) rfl rfl Try.func13 (by kernel_rfl) rfl #[.slice Ao14 y171.length co14, .int .i64 4] rfl (by (try simp only [List.map_toArray, List.map_cons, List.map_nil]); first | done | rfl | (simp only [List.length_drop, List.length_take]; rfl)) ?_; (with_reducible refine (subchannel_Entries.calls _ _ y171 4 t174 t175 _ ?side1 ?side2 A2.out).mono ?_); (case side1 => repeat (first | exact (Kd.R_reads' HO173.out).2.2 | (with_reducible refine Kd.C_alloc ?_ _) | (with_reducible refine Kd.C_drewN ?_ _) | (with_reducible refine Kd.C_drew ?_))); (case side2 => exact (Kd.R_reads' HO173.out).2.1); rintro e w15 ⟨v176, rfl, ho0, hb⟩; refine ⟨_, rfl, ?_⟩; have n0_ := Aside0.mk (Kd.R_below (by (with_reducible repeat (first | apply Kd.R_alloc | apply Kd.R_drewN | apply Kd.R_drew)); exact HO173.out) hb); have n1_ := Aside0.mk (Kd.R_lower ho0 (below_size (by repeat (first | (with_reducible first | exact HB.out | apply below_alloc | apply pw_below_drewN | apply below_drew1) | exact HB.out)))); have n2_ := Aside0.mk (below_step (by repeat (first | (with_reducible first | exact HB.out | apply below_alloc | apply pw_below_drewN | apply below_drew1) | exact HB.out)) hb); clear HO173; clear HB; have HO173 := n0_; have HO177 := n1_; have HB := n2_; clear n0_ n1_ n2_; (try clear hb); (try clear hb2); (try clear hk); (try clear hi); (try clear ho0); obtain ⟨Ao16, co16, eo16⟩ := Kd.R_slice HO177.out; subst eo16; have p178 : 0 ≤ (2 : Int) := (by omega); have q178 : 2 < (t174.length : Int) := of_decide_eq_true (by first | (with_reducible assumption) | assumption); obtain ⟨ad178, e178, hx178_0, hx178_1, hx178_2, hx178_3, hx178_4, hx178_5, hx178_6, hx178_7, hx178_8⟩ := at_T27 (Kd.R_reads' HO177.out).2.2 2 p178 q178; cases e178; (try simp only [show (2 : Int).toNat = 2 from rfl, Nat.reduceMul, Nat.reduceEqDiff, Go.Addr.add, ↓reduceIte] at hx178_0); (try simp only [show (2 : Int).toNat = 2 from rfl, Nat.reduceMul, Nat.reduceEqDiff, Go.Addr.add, ↓reduceIte] at hx178_1); (try simp only [show (2 : Int).toNat = 2 from rfl, Nat.reduceMul, Nat.reduceEqDiff, Go.Addr.add, ↓reduceIte] at hx178_2); (try simp only [show (2 : Int).toNat = 2 from rfl, Nat.reduceMul, Nat.reduceEqDiff, Go.Addr.add, ↓reduceIte] at hx178_3); (try simp only [show (2 : Int).toNat = 2 from rfl, Nat.reduceMul, Nat.reduceEqDiff, Go.Addr.add, ↓reduceIte] at hx178_4); (try simp only [show (2 : Int).toNat = 2 from rfl, Nat.reduceMul, Nat.reduceEqDiff, Go.Addr.add, ↓reduceIte] at hx178_5); (try simp only [show (2 : Int).toNat = 2 from rfl, Nat.reduceMul, Nat.reduceEqDiff, Go.Addr.add, ↓reduceIte] at hx178_6); (try simp only [show (2 : Int).toNat = 2 from rfl, Nat.reduceMul, Nat.reduceEqDiff, Go.Addr.add, ↓reduceIte] at hx178_7); (try simp only [show (2 : Int).toNat = 2 from rfl, Nat.reduceMul, Nat.reduceEqDiff, Go.Addr.add, ↓reduceIte] at hx178_8); have qi178 : (2 < t174.length) = True := eq_true (by omega); (try rw [show ((2 : Int)).toNat = 2 from rfl] at hx178_0); (try rw [show 2 * 9 = 18 from rfl] at hx178_0); (try rw [show ((2 : Int)).toNat = 2 from rfl] at hx178_1); (try rw [show 2 * 9 = 18 from rfl] at hx178_1); (try rw [show ((2 : Int)).toNat = 2 from rfl] at hx178_2); (try rw [show 2 * 9 = 18 from rfl] at hx178_2); (try rw [show ((2 : Int)).toNat = 2 from rfl] at hx178_3); (try rw [show 2 * 9 = 18 from rfl] at hx178_3); (try rw [show ((2 : Int)).toNat = 2 from rfl] at hx178_4); (try rw [show 2 * 9 = 18 from rfl] at hx178_4); (try rw [show ((2 : Int)).toNat = 2 from rfl] at hx178_5); (try rw [show 2 * 9 = 18 from rfl] at hx178_5); (try rw [show ((2 : Int)).toNat = 2 from rfl] at hx178_6); (try rw [show 2 * 9 = 18 from rfl] at hx178_6); (try rw [show ((2 : Int)).toNat = 2 from rfl] at hx178_7); (try rw [show 2 * 9 = 18 from rfl] at hx178_7); (try rw [show ((2 : Int)).toNat = 2 from rfl] at hx178_8); (try rw [show 2 * 9 = 18 from rfl] at hx178_8); replace p178 := eq_true p178; replace q178 := eq_true q178))
                 go_ret
                 exact ⟨by first | rfl | (simp [errW_none, errW_some] <;> rfl) | (simp [*, errW_none, errW_some] <;> rfl), by repeat (first | (with_reducible first | exact HB.out | apply below_alloc | apply pw_below_drewN | apply below_drew1) | exact HB.out)⟩
               · rw [if_neg c10] at H
                 exact absurd H (by simp)
             · rw [if_neg c9] at H
               exact absurd H (by simp)
           · rw [if_neg c8] at H
             exact absurd H (by simp)
         · rw [if_neg c7] at H
           exact absurd H (by simp)
       · rw [if_neg c6] at H
         exact absurd H (by simp)
     · rw [if_neg c5] at H
       exact absurd H (by simp)
   · rw [if_neg c4] at H
     exact absurd H (by simp)
 · rw [if_neg c3] at H
   exact absurd H (by simp)
end Go.Proofs.Ytpmkibggmkibeaa.G
namespace Go.Proofs.Ytpmkibggmkibeaa.G
open Go.RowKit
set_option maxRecDepth 100000 in
theorem awake_plain : masterdisclaw10_awake.f = some true := by decide +kernel
end Go.Proofs.Ytpmkibggmkibeaa.G
namespace Go.Proofs.Ytpmkibggmkibeaa.G
open Go.RowKit Go.Proofs.YtpmkibggmkibeaaW.PrintWords Go.Proofs.YtpmkibggmkibeaaW.PrintLast Go.Proofs.YtpmkibggmkibeaaW.PrintMore
attribute [local go_sem] max2_int min2_int max_two min_two max_three min_three max_four min_four   -- for this text's walks alone
set_option linter.unusedVariables false
set_option linter.unusedSimpArgs false
attribute [local go_sem high] eqA25 eqA27
mutual
def masterdisclaw10_SubchannelCounts.j0 : Nat → Int → Int → Int → Bool → Int → Int → Int → Int → Int → Int → Int → Int → Int → Int → Int → Int → Int → Int → Int → Int → Int → Int → Option (Bool)
 | 0, _, _, _, _, _, _, _, _, _, _, _, _, _, _, _, _, _, _, _, _, _, _ => none
 | k + 1, x2, x8, x10, x42, x284000, x284001, x284002, x284003, x284004, x284005, x284006, x284007, x284008, x295000, x295001, x295002, x295003, x295004, x295005, x295006, x295007, x295008 => if x42 = true then (if x8 = 0 then (if x10 = 0 then (some true) else (some (x295000 == 0 && (x295001 == 0 && (x295002 == 0 && ((x295003 == 0 && (x295004 == 0 && (x295005 == 0))) && ((x295006 == 0 && (x295007 == 0 && (x295008 == 0)))))))))) else (if (x284000 == 0 && (x284001 == 0 && (x284002 == 0 && ((x284003 == 0 && (x284004 == 0 && (x284005 == 0))) && ((x284006 == 0 && (x284007 == 0 && (x284008 == 0)))))))) = true then (if x10 = 0 then (some true) else (some (x295000 == 0 && (x295001 == 0 && (x295002 == 0 && ((x295003 == 0 && (x295004 == 0 && (x295005 == 0))) && ((x295006 == 0 && (x295007 == 0 && (x295008 == 0)))))))))) else (none))) else ((address_ToLBA.f x284006 x284007 x284008).bind fun bt295 => ((address_Distance.f k x284006 x284007 x284008 x295006 x295007 x295008).bind fun bt297 => ((address_Distance.f k x284003 x284004 x284005 x295003 x295004 x295005).bind fun bt299 => ((subchannel_Encode.f x284000 x284001 x284002 x284003 x284004 x284005 x284006 x284007 x284008).bind fun bt301 => (if bt301.2 = 0 then (if bt295.1 = x2 then (if bt295.2 = 0 then (if bt297.1 = 1 then (if bt297.2 = 0 then (masterdisclaw10_SubchannelCounts.j1 k bt299.1 (bt299.2 != 0) x284000 x284001 x284002 x284003 x284004 x284005 x284006 x284007 x284008 x295000 x295001 x295002 x295003 x295004 x295005 x295006 x295007 x295008) else (masterdisclaw10_SubchannelCounts.j1 k bt299.1 true x284000 x284001 x284002 x284003 x284004 x284005 x284006 x284007 x284008 x295000 x295001 x295002 x295003 x295004 x295005 x295006 x295007 x295008)) else (masterdisclaw10_SubchannelCounts.j1 k bt299.1 true x284000 x284001 x284002 x284003 x284004 x284005 x284006 x284007 x284008 x295000 x295001 x295002 x295003 x295004 x295005 x295006 x295007 x295008)) else (masterdisclaw10_SubchannelCounts.j1 k bt299.1 true x284000 x284001 x284002 x284003 x284004 x284005 x284006 x284007 x284008 x295000 x295001 x295002 x295003 x295004 x295005 x295006 x295007 x295008)) else (masterdisclaw10_SubchannelCounts.j1 k bt299.1 true x284000 x284001 x284002 x284003 x284004 x284005 x284006 x284007 x284008 x295000 x295001 x295002 x295003 x295004 x295005 x295006 x295007 x295008)) else (masterdisclaw10_SubchannelCounts.j1 k bt299.1 true x284000 x284001 x284002 x284003 x284004 x284005 x284006 x284007 x284008 x295000 x295001 x295002 x295003 x295004 x295005 x295006 x295007 x295008))))))
def masterdisclaw10_SubchannelCounts.j1 : Nat → Int → Bool → Int → Int → Int → Int → Int → Int → Int → Int → Int → Int → Int → Int → Int → Int → Int → Int → Int → Int → Option (Bool)
 | 0, _, _, _, _, _, _, _, _, _, _, _, _, _, _, _, _, _, _, _, _ => none
 | k + 1, x13, x108, x284000, x284001, x284002, x284003, x284004, x284005, x284006, x284007, x284008, x295000, x295001, x295002, x295003, x295004, x295005, x295006, x295007, x295008 => if x108 = true then (none) else (if x284001 = x295001 then (if x284002 = x295002 then (if x284002 = 1 then (if x13 = 1 then (some true) else (if x284002 = 0 then (some (x13 == (-1))) else (none))) else (if x284002 = 0 then (some (x13 == (-1))) else (none))) else (if x295002 = 0 then (some true) else (some (x295003 == 0 && (x295004 == 0 && (x295005 == 0)))))) else (if x295002 = 0 then (some true) else (some (x295003 == 0 && (x295004 == 0 && (x295005 == 0))))))
end
def masterdisclaw10_SubchannelCounts.f (k : Nat) (l0 : List (S53)) (a1 : Int) (a2 : Int) : Option (Bool) := (masterdisclaw10_awake.f).bind fun t272 => (if t272 = true then (if (l0.length : Int) > 120 then (some true) else ((subchannel_Program.f l0 a1 a2).bind fun bt273 => ((subchannel_Program.f l0 a1 (wrap64 (a2 + 1))).bind fun bt284 => (if bt273.2.2.2.2.2.2.2.2.2 = 0 then (masterdisclaw10_SubchannelCounts.j0 k a2 bt273.2.2.2.2.2.2.2.2.2 bt284.2.2.2.2.2.2.2.2.2 (bt284.2.2.2.2.2.2.2.2.2 != 0) bt273.1 bt273.2.1 bt273.2.2.1 bt273.2.2.2.1 bt273.2.2.2.2.1 bt273.2.2.2.2.2.1 bt273.2.2.2.2.2.2.1 bt273.2.2.2.2.2.2.2.1 bt273.2.2.2.2.2.2.2.2.1 bt284.1 bt284.2.1 bt284.2.2.1 bt284.2.2.2.1 bt284.2.2.2.2.1 bt284.2.2.2.2.2.1 bt284.2.2.2.2.2.2.1 bt284.2.2.2.2.2.2.2.1 bt284.2.2.2.2.2.2.2.2.1) else (masterdisclaw10_SubchannelCounts.j0 k a2 bt273.2.2.2.2.2.2.2.2.2 bt284.2.2.2.2.2.2.2.2.2 true bt273.1 bt273.2.1 bt273.2.2.1 bt273.2.2.2.1 bt273.2.2.2.2.1 bt273.2.2.2.2.2.1 bt273.2.2.2.2.2.2.1 bt273.2.2.2.2.2.2.2.1 bt273.2.2.2.2.2.2.2.2.1 bt284.1 bt284.2.1 bt284.2.2.1 bt284.2.2.2.1 bt284.2.2.2.2.1 bt284.2.2.2.2.2.1 bt284.2.2.2.2.2.2.1 bt284.2.2.2.2.2.2.2.1 bt284.2.2.2.2.2.2.2.2.1))))) else (none))
theorem masterdisclaw10_SubchannelCounts.mono_l : ∀ k, (∀ y0 y1 y2 y3 y4 y5 y6 y7 y8 y9 y10 y11 y12 y13 y14 y15 y16 y17 y18 y19 y20 y21, LeO (masterdisclaw10_SubchannelCounts.j0 k y0 y1 y2 y3 y4 y5 y6 y7 y8 y9 y10 y11 y12 y13 y14 y15 y16 y17 y18 y19 y20 y21) (masterdisclaw10_SubchannelCounts.j0 (k + 1) y0 y1 y2 y3 y4 y5 y6 y7 y8 y9 y10 y11 y12 y13 y14 y15 y16 y17 y18 y19 y20 y21)) ∧ (∀ y0 y1 y2 y3 y4 y5 y6 y7 y8 y9 y10 y11 y12 y13 y14 y15 y16 y17 y18 y19, LeO (masterdisclaw10_SubchannelCounts.j1 k y0 y1 y2 y3 y4 y5 y6 y7 y8 y9 y10 y11 y12 y13 y14 y15 y16 y17 y18 y19) (masterdisclaw10_SubchannelCounts.j1 (k + 1) y0 y1 y2 y3 y4 y5 y6 y7 y8 y9 y10 y11 y12 y13 y14 y15 y16 y17 y18 y19))
 | 0 => ⟨fun _ _ _ _ _ _ _ _ _ _ _ _ _ _ _ _ _ _ _ _ _ _ r h => by simp [masterdisclaw10_SubchannelCounts.j0] at h, fun _ _ _ _ _ _ _ _ _ _ _ _ _ _ _ _ _ _ _ _ r h => by simp [masterdisclaw10_SubchannelCounts.j1] at h⟩
 | k + 1 => by
  obtain ⟨ih0, ih1⟩ := masterdisclaw10_SubchannelCounts.mono_l k
  refine ⟨?_, ?_⟩
  · intro y0 y1 y2 y3 y4 y5 y6 y7 y8 y9 y10 y11 y12 y13 y14 y15 y16 y17 y18 y19 y20 y21
    unfold masterdisclaw10_SubchannelCounts.j0
    repeat' first
    | (with_reducible exact ih0 _ _ _ _ _ _ _ _ _ _ _ _ _ _ _ _ _ _ _ _ _ _)
    | (with_reducible exact ih1 _ _ _ _ _ _ _ _ _ _ _ _ _ _ _ _ _ _ _ _)
    | (with_reducible exact address_Distance.mono _ _ _ _ _ _ _)
    | (with_reducible exact LeO.refl _)
    | (with_reducible exact LeO.none _)
    | (with_reducible refine LeO.ite ?_ ?_)
    | (with_reducible refine LeO.bind ?_ (fun _ => ?_))
    | exact ih0 _ _ _ _ _ _ _ _ _ _ _ _ _ _ _ _ _ _ _ _ _ _
    | exact ih1 _ _ _ _ _ _ _ _ _ _ _ _ _ _ _ _ _ _ _ _
    | exact address_Distance.mono _ _ _ _ _ _ _
    | exact LeO.none _
    | refine LeO.ite ?_ ?_
    | refine LeO.bind ?_ (fun _ => ?_)
  · intro y0 y1 y2 y3 y4 y5 y6 y7 y8 y9 y10 y11 y12 y13 y14 y15 y16 y17 y18 y19
    unfold masterdisclaw10_SubchannelCounts.j1
    repeat' first
    | (with_reducible exact ih0 _ _ _ _ _ _ _ _ _ _ _ _ _ _ _ _ _ _ _ _ _ _)
    | (with_reducible exact ih1 _ _ _ _ _ _ _ _ _ _ _ _ _ _ _ _ _ _ _ _)
    | (with_reducible exact address_Distance.mono _ _ _ _ _ _ _)
    | (with_reducible exact LeO.refl _)
    | (with_reducible exact LeO.none _)
    | (with_reducible refine LeO.ite ?_ ?_)
    | (with_reducible refine LeO.bind ?_ (fun _ => ?_))
    | exact ih0 _ _ _ _ _ _ _ _ _ _ _ _ _ _ _ _ _ _ _ _ _ _
    | exact ih1 _ _ _ _ _ _ _ _ _ _ _ _ _ _ _ _ _ _ _ _
    | exact address_Distance.mono _ _ _ _ _ _ _
    | exact LeO.none _
    | refine LeO.ite ?_ ?_
    | refine LeO.bind ?_ (fun _ => ?_)
theorem masterdisclaw10_SubchannelCounts.mono : ∀ a0 a1 a2 k, LeO (masterdisclaw10_SubchannelCounts.f k a0 a1 a2) (masterdisclaw10_SubchannelCounts.f (k + 1) a0 a1 a2) := by
 intro a0 a1 a2 k
 obtain ⟨ih0, ih1⟩ := masterdisclaw10_SubchannelCounts.mono_l k
 unfold masterdisclaw10_SubchannelCounts.f
 repeat' first
  | (with_reducible exact ih0 _ _ _ _ _ _ _ _ _ _ _ _ _ _ _ _ _ _ _ _ _ _)
  | (with_reducible exact ih1 _ _ _ _ _ _ _ _ _ _ _ _ _ _ _ _ _ _ _ _)
  | (with_reducible exact address_Distance.mono _ _ _ _ _ _ _)
  | (with_reducible exact LeO.refl _)
  | (with_reducible exact LeO.none _)
  | (with_reducible refine LeO.ite ?_ ?_)
  | (with_reducible refine LeO.bind ?_ (fun _ => ?_))
  | exact ih0 _ _ _ _ _ _ _ _ _ _ _ _ _ _ _ _ _ _ _ _ _ _
  | exact ih1 _ _ _ _ _ _ _ _ _ _ _ _ _ _ _ _ _ _ _ _
  | exact address_Distance.mono _ _ _ _ _ _ _
  | exact LeO.none _
  | refine LeO.ite ?_ ?_
  | refine LeO.bind ?_ (fun _ => ?_)
set_option maxHeartbeats 8000000 in
set_option maxRecDepth 100000 in
theorem masterdisclaw10_SubchannelCounts.calls (k : Nat) (A0 : Option Addr) (c0 : Nat) (l0 : List (S53)) (a1 : Int) (a2 : Int) (r : Bool) (w : World) (hr0 : Kd.C k53 w A0 l0.length l0) (hc0 : l0.length ≤ c0) (h : masterdisclaw10_SubchannelCounts.f k l0 a1 a2 = some r) :
 Calls Try.prog 4 #[.slice A0 l0.length c0, .int .i64 a1, .int .i64 a2] w fun e w' => e = .returned (.bool r) ∧ Below w.heap.size w w' := by
 have hu27 := Try.underlying27
 have hu25 := Try.underlying25
 have HR0 := Aside0.mk hr0
 have HC0 := Aside0.mk hc0
 clear hr0 hc0
 have HB := Aside0.mk (Below.refl w.heap.size w)
 have H : ((masterdisclaw10_awake.f).bind fun t272 => (if t272 = true then (if (l0.length : Int) > 120 then (some true) else ((subchannel_Program.f l0 a1 a2).bind fun bt273 => ((subchannel_Program.f l0 a1 (wrap64 (a2 + 1))).bind fun bt284 => (if bt273.2.2.2.2.2.2.2.2.2 = 0 then (masterdisclaw10_SubchannelCounts.j0 k a2 bt273.2.2.2.2.2.2.2.2.2 bt284.2.2.2.2.2.2.2.2.2 (bt284.2.2.2.2.2.2.2.2.2 != 0) bt273.1 bt273.2.1 bt273.2.2.1 bt273.2.2.2.1 bt273.2.2.2.2.1 bt273.2.2.2.2.2.1 bt273.2.2.2.2.2.2.1 bt273.2.2.2.2.2.2.2.1 bt273.2.2.2.2.2.2.2.2.1 bt284.1 bt284.2.1 bt284.2.2.1 bt284.2.2.2.1 bt284.2.2.2.2.1 bt284.2.2.2.2.2.1 bt284.2.2.2.2.2.2.1 bt284.2.2.2.2.2.2.2.1 bt284.2.2.2.2.2.2.2.2.1) else (masterdisclaw10_SubchannelCounts.j0 k a2 bt273.2.2.2.2.2.2.2.2.2 bt284.2.2.2.2.2.2.2.2.2 true bt273.1 bt273.2.1 bt273.2.2.1 bt273.2.2.2.1 bt273.2.2.2.2.1 bt273.2.2.2.2.2.1 bt273.2.2.2.2.2.2.1 bt273.2.2.2.2.2.2.2.1 bt273.2.2.2.2.2.2.2.2.1 bt284.1 bt284.2.1 bt284.2.2.1 bt284.2.2.2.1 bt284.2.2.2.2.1 bt284.2.2.2.2.2.1 bt284.2.2.2.2.2.2.1 bt284.2.2.2.2.2.2.2.1 bt284.2.2.2.2.2.2.2.2.1))))) else (none))) = some r := h
 clear h
 replace H := Option.bind_eq_some_iff.mp H
 obtain ⟨t272, A40, H⟩ := H
 replace H : (if t272 = true then (if (l0.length : Int) > 120 then (some true) else ((subchannel_Program.f l0 a1 a2).bind fun bt273 => ((subchannel_Program.f l0 a1 (wrap64 (a2 + 1))).bind fun bt284 => (if bt273.2.2.2.2.2.2.2.2.2 = 0 then (masterdisclaw10_SubchannelCounts.j0 k a2 bt273.2.2.2.2.2.2.2.2.2 bt284.2.2.2.2.2.2.2.2.2 (bt284.2.2.2.2.2.2.2.2.2 != 0) bt273.1 bt273.2.1 bt273.2.2.1 bt273.2.2.2.1 bt273.2.2.2.2.1 bt273.2.2.2.2.2.1 bt273.2.2.2.2.2.2.1 bt273.2.2.2.2.2.2.2.1 bt273.2.2.2.2.2.2.2.2.1 bt284.1 bt284.2.1 bt284.2.2.1 bt284.2.2.2.1 bt284.2.2.2.2.1 bt284.2.2.2.2.2.1 bt284.2.2.2.2.2.2.1 bt284.2.2.2.2.2.2.2.1 bt284.2.2.2.2.2.2.2.2.1) else (masterdisclaw10_SubchannelCounts.j0 k a2 bt273.2.2.2.2.2.2.2.2.2 bt284.2.2.2.2.2.2.2.2.2 true bt273.1 bt273.2.1 bt273.2.2.1 bt273.2.2.2.1 bt273.2.2.2.2.1 bt273.2.2.2.2.2.1 bt273.2.2.2.2.2.2.1 bt273.2.2.2.2.2.2.2.1 bt273.2.2.2.2.2.2.2.2.1 bt284.1 bt284.2.1 bt284.2.2.1 bt284.2.2.2.1 bt284.2.2.2.2.1 bt284.2.2.2.2.2.1 bt284.2.2.2.2.2.2.1 bt284.2.2.2.2.2.2.2.1 bt284.2.2.2.2.2.2.2.2.1))))) else (none)) = some r := H
 have A4 := Aside0.mk A40
 clear A40
 by_cases c5 : t272 = true
 · subst c5
   have H1 : (if (l0.length : Int) > 120 then (some true) else ((subchannel_Program.f l0 a1 a2).bind fun bt273 => ((subchannel_Program.f l0 a1 (wrap64 (a2 + 1))).bind fun bt284 => (if bt273.2.2.2.2.2.2.2.2.2 = 0 then (masterdisclaw10_SubchannelCounts.j0 k a2 bt273.2.2.2.2.2.2.2.2.2 bt284.2.2.2.2.2.2.2.2.2 (bt284.2.2.2.2.2.2.2.2.2 != 0) bt273.1 bt273.2.1 bt273.2.2.1 bt273.2.2.2.1 bt273.2.2.2.2.1 bt273.2.2.2.2.2.1 bt273.2.2.2.2.2.2.1 bt273.2.2.2.2.2.2.2.1 bt273.2.2.2.2.2.2.2.2.1 bt284.1 bt284.2.1 bt284.2.2.1 bt284.2.2.2.1 bt284.2.2.2.2.1 bt284.2.2.2.2.2.1 bt284.2.2.2.2.2.2.1 bt284.2.2.2.2.2.2.2.1 bt284.2.2.2.2.2.2.2.2.1) else (masterdisclaw10_SubchannelCounts.j0 k a2 bt273.2.2.2.2.2.2.2.2.2 bt284.2.2.2.2.2.2.2.2.2 true bt273.1 bt273.2.1 bt273.2.2.1 bt273.2.2.2.1 bt273.2.2.2.2.1 bt273.2.2.2.2.2.1 bt273.2.2.2.2.2.2.1 bt273.2.2.2.2.2.2.2.1 bt273.2.2.2.2.2.2.2.2.1 bt284.1 bt284.2.1 bt284.2.2.1 bt284.2.2.2.1 bt284.2.2.2.2.1 bt284.2.2.2.2.2.1 bt284.2.2.2.2.2.2.1 bt284.2.2.2.2.2.2.2.1 bt284.2.2.2.2.2.2.2.2.1))))) = some r := by rw [if_pos rfl] at H; exact H
   clear H
   have H := H1
   clear H1
   by_cases c6 : (l0.length : Int) > 120
   · rw [if_pos c6] at H
     have c6b0 : decide (120 < (l0.length : Int)) = true := decide_eq_true c6
     have c6b1 : decide (120 < l0.length) = true := decide_eq_true (by omega)
     clear c6
     obtain rfl := Option.some.inj H
     go_enter Try.func4, Try.ntmps4
     go_wp2_with (first | ((with_reducible refine gate_callee (f := 10) rfl ?_); refine goesL_ (some 17) rfl rfl Try.func10 (by kernel_rfl) rfl #[] rfl (by (try simp only [List.map_toArray, List.map_cons, List.map_nil]); first | done | rfl | (simp only [List.length_drop, List.length_take]; rfl)) ?_; (with_reducible refine (masterdisclaw10_awake.calls  true _ A4.out).mono ?_); rintro e w7 ⟨rfl, hb⟩; refine ⟨_, rfl, ?_⟩; have n0_ := Aside0.mk (below_step (by repeat (first | (with_reducible first | exact HB.out | apply below_alloc | apply pw_below_drewN | apply below_drew1) | exact HB.out)) hb); clear HB; have HB := n0_; clear n0_; (try clear hb); (try clear hb2); (try clear hk); (try clear hi)))
     go_ret
     exact ⟨by first | rfl | (simp [errW_none, errW_some] <;> rfl) | (simp [*, errW_none, errW_some] <;> rfl), by repeat (first | (with_reducible first | exact HB.out | apply below_alloc | apply pw_below_drewN | apply below_drew1) | exact HB.out)⟩
   · rw [if_neg c6] at H
     have c6b0 : decide (120 < (l0.length : Int)) = false := decide_eq_false c6
     have c6b1 : decide (120 < l0.length) = false := decide_eq_false (by omega)
     clear c6
     replace H := Option.bind_eq_some_iff.mp H
     obtain ⟨⟨t273, t274, t275, t276, t277, t278, t279, t280, t281, t282⟩, A80, H⟩ := H
     replace H : ((subchannel_Program.f l0 a1 (wrap64 (a2 + 1))).bind fun bt284 => (if t282 = 0 then (masterdisclaw10_SubchannelCounts.j0 k a2 t282 bt284.2.2.2.2.2.2.2.2.2 (bt284.2.2.2.2.2.2.2.2.2 != 0) t273 t274 t275 t276 t277 t278 t279 t280 t281 bt284.1 bt284.2.1 bt284.2.2.1 bt284.2.2.2.1 bt284.2.2.2.2.1 bt284.2.2.2.2.2.1 bt284.2.2.2.2.2.2.1 bt284.2.2.2.2.2.2.2.1 bt284.2.2.2.2.2.2.2.2.1) else (masterdisclaw10_SubchannelCounts.j0 k a2 t282 bt284.2.2.2.2.2.2.2.2.2 true t273 t274 t275 t276 t277 t278 t279 t280 t281 bt284.1 bt284.2.1 bt284.2.2.1 bt284.2.2.2.1 bt284.2.2.2.2.1 bt284.2.2.2.2.2.1 bt284.2.2.2.2.2.2.1 bt284.2.2.2.2.2.2.2.1 bt284.2.2.2.2.2.2.2.2.1))) = some r := H
     have A8 := Aside0.mk A80
     clear A80
     replace H := Option.bind_eq_some_iff.mp H
     obtain ⟨⟨t284, t285, t286, t287, t288, t289, t290, t291, t292, t293⟩, A90, H⟩ := H
     replace H : (if t282 = 0 then (masterdisclaw10_SubchannelCounts.j0 k a2 t282 t293 (t293 != 0) t273 t274 t275 t276 t277 t278 t279 t280 t281 t284 t285 t286 t287 t288 t289 t290 t291 t292) else (masterdisclaw10_SubchannelCounts.j0 k a2 t282 t293 true t273 t274 t275 t276 t277 t278 t279 t280 t281 t284 t285 t286 t287 t288 t289 t290 t291 t292)) = some r := H
     have A9 := Aside0.mk A90
     clear A90
     have HC10 := Aside0.mk H
     clear H
     go_enter Try.func4, Try.ntmps4
     go_upto_region 7 with (first | ((with_reducible refine gate_callee (f := 10) rfl ?_); refine goesL_ (some 17) rfl rfl Try.func10 (by kernel_rfl) rfl #[] rfl (by (try simp only [List.map_toArray, List.map_cons, List.map_nil]); first | done | rfl | (simp only [List.length_drop, List.length_take]; rfl)) ?_; (with_reducible refine (masterdisclaw10_awake.calls  true _ A4.out).mono ?_); rintro e w11 ⟨rfl, hb⟩; refine ⟨_, rfl, ?_⟩; have n0_ := Aside0.mk (below_step (by repeat (first | (with_reducible first | exact HB.out | apply below_alloc | apply pw_below_drewN | apply below_drew1) | exact HB.out)) hb); clear HB; have HB := n0_; clear n0_; (try clear hb); (try clear hb2); (try clear hk); (try clear hi)) | ((with_reducible refine gate_callee (f := 11) rfl ?_); refine goesL_ (some 26) rfl rfl Try.func11 (by kernel_rfl) rfl #[.slice A0 l0.length c0, .int .i64 a1, .int .i64 a2] rfl (by (try simp only [List.map_toArray, List.map_cons, List.map_nil]); first | done | rfl | (simp only [List.length_drop, List.length_take]; rfl)) ?_; (with_reducible refine (subchannel_Program.calls _ _ l0 a1 a2 t273 t274 t275 t276 t277 t278 t279 t280 t281 t282 _ ?side1 ?side2 A8.out).mono ?_); (case side1 => repeat (first | exact (Kd.C_below HR0.out HB.out) | (with_reducible refine Kd.C_alloc ?_ _) | (with_reducible refine Kd.C_drewN ?_ _) | (with_reducible refine Kd.C_drew ?_))); (case side2 => exact HC0.out); rintro e w12 ⟨rfl, hb⟩; refine ⟨_, rfl, ?_⟩; have n0_ := Aside0.mk (below_step (by repeat (first | (with_reducible first | exact HB.out | apply below_alloc | apply pw_below_drewN | apply below_drew1) | exact HB.out)) hb); clear HB; have HB := n0_; clear n0_; (try clear hb); (try clear hb2); (try clear hk); (try clear hi)) | ((with_reducible refine gate_dst (N := 7) rfl ?_); refine box_event ?hg (N := 7) ?hd (cs := #[.int .i64 0, .int .i64 0, .int .i64 0, .int .i64 0, .int .i64 0, .int .i64 0, .int .i64 0, .int .i64 0, .int .i64 0]) (t := 27) ?hr ?_; (case hd => rfl); (case hg => rfl); (case hr => first | (go_simp; done) | (go_simp; rfl)); intro gb283 hg w13 hbox hb; have n0_ := Aside0.mk (below_step (by repeat (first | (with_reducible first | exact HB.out | apply below_alloc | apply pw_below_drewN | apply below_drew1) | exact HB.out)) hb); have n1_ := Aside0.mk (hbox); have n2_ := Aside0.mk ((by rw [hg]; exact (below_size (by repeat (first | (with_reducible first | exact HB.out | apply below_alloc | apply pw_below_drewN | apply below_drew1) | exact HB.out))) : w.heap.size ≤ gb283)); have n3_ := Aside0.mk ((by rw [hg]; exact (below_size (by repeat (first | (with_reducible first | exact HB.out | apply below_alloc | apply pw_below_drewN | apply below_drew1) | exact HB.out))) : w.heap.size ≤ gb283)); clear HB; have HB := n0_; have BK283 := n1_; have GW283 := n2_; have GE283 := n3_; clear n0_ n1_ n2_ n3_; clear hb hbox hg; have hcz14_0 : w13.cell? ⟨gb283, 0, none⟩ = some (.int .i64 0) := (blk_cell BK283.out 0).trans rfl; have hcz14_1 : w13.cell? ⟨gb283, 1, none⟩ = some (.int .i64 0) := (blk_cell BK283.out 1).trans rfl; have hcz14_2 : w13.cell? ⟨gb283, 2, none⟩ = some (.int .i64 0) := (blk_cell BK283.out 2).trans rfl; have hcz14_3 : w13.cell? ⟨gb283, 3, none⟩ = some (.int .i64 0) := (blk_cell BK283.out 3).trans rfl; have hcz14_4 : w13.cell? ⟨gb283, 4, none⟩ = some (.int .i64 0) := (blk_cell BK283.out 4).trans rfl; have hcz14_5 : w13.cell? ⟨gb283, 5, none⟩ = some (.int .i64 0) := (blk_cell BK283.out 5).trans rfl; have hcz14_6 : w13.cell? ⟨gb283, 6, none⟩ = some (.int .i64 0) := (blk_cell BK283.out 6).trans rfl; have hcz14_7 : w13.cell? ⟨gb283, 7, none⟩ = some (.int .i64 0) := (blk_cell BK283.out 7).trans rfl; have hcz14_8 : w13.cell? ⟨gb283, 8, none⟩ = some (.int .i64 0) := (blk_cell BK283.out 8).trans rfl; have hfz14_0 := blk_frozen BK283.out 0; have hfz14_1 := blk_frozen BK283.out 1; have hfz14_2 := blk_frozen BK283.out 2; have hfz14_3 := blk_frozen BK283.out 3; have hfz14_4 := blk_frozen BK283.out 4; have hfz14_5 := blk_frozen BK283.out 5; have hfz14_6 := blk_frozen BK283.out 6; have hfz14_7 := blk_frozen BK283.out 7; have hfz14_8 := blk_frozen BK283.out 8) | ((with_reducible refine gate_callee (f := 11) rfl ?_); refine goesL_ (some 34) rfl rfl Try.func11 (by kernel_rfl) rfl #[.slice A0 l0.length c0, .int .i64 a1, .int .i64 (wrap64 (a2 + 1))] rfl (by (try simp only [List.map_toArray, List.map_cons, List.map_nil]); first | done | rfl | (simp only [List.length_drop, List.length_take]; rfl)) ?_; (with_reducible refine (subchannel_Program.calls _ _ l0 a1 (wrap64 (a2 + 1)) t284 t285 t286 t287 t288 t289 t290 t291 t292 t293 _ ?side1 ?side2 A9.out).mono ?_); (case side1 => exact Kd.C_below HR0.out (by repeat (first | (with_reducible first | exact HB.out | apply below_alloc | apply pw_below_drewN | apply below_drew1 | refine below_set ?_ GE283.out) | exact HB.out))); (case side2 => exact HC0.out); rintro e w15 ⟨rfl, hb⟩; refine ⟨_, rfl, ?_⟩; have n0_ := Aside0.mk (blk_below (g := gb283) (o := .cells #[.int .i64 t273, .int .i64 t274, .int .i64 t275, .int .i64 t276, .int .i64 t277, .int .i64 t278, .int .i64 t279, .int .i64 t280, .int .i64 t281] 27 (0, 0)) (by (with_reducible repeat (first | refine blk_drewN ?_ _ | refine blk_drew ?_ | refine blk_alloc ?_ _)); refine blk_put (cs := #[.int .i64 t273, .int .i64 t274, .int .i64 t275, .int .i64 t276, .int .i64 t277, .int .i64 t278, .int .i64 t279, .int .i64 t280, .int .i64 0]) ?_ 8 _ rfl; (with_reducible repeat (first | refine blk_drewN ?_ _ | refine blk_drew ?_ | refine blk_alloc ?_ _)); refine blk_put (cs := #[.int .i64 t273, .int .i64 t274, .int .i64 t275, .int .i64 t276, .int .i64 t277, .int .i64 t278, .int .i64 t279, .int .i64 0, .int .i64 0]) ?_ 7 _ rfl; (with_reducible repeat (first | refine blk_drewN ?_ _ | refine blk_drew ?_ | refine blk_alloc ?_ _)); refine blk_put (cs := #[.int .i64 t273, .int .i64 t274, .int .i64 t275, .int .i64 t276, .int .i64 t277, .int .i64 t278, .int .i64 0, .int .i64 0, .int .i64 0]) ?_ 6 _ rfl; (with_reducible repeat (first | refine blk_drewN ?_ _ | refine blk_drew ?_ | refine blk_alloc ?_ _)); refine blk_put (cs := #[.int .i64 t273, .int .i64 t274, .int .i64 t275, .int .i64 t276, .int .i64 t277, .int .i64 0, .int .i64 0, .int .i64 0, .int .i64 0]) ?_ 5 _ rfl; (with_reducible repeat (first | refine blk_drewN ?_ _ | refine blk_drew ?_ | refine blk_alloc ?_ _)); refine blk_put (cs := #[.int .i64 t273, .int .i64 t274, .int .i64 t275, .int .i64 t276, .int .i64 0, .int .i64 0, .int .i64 0, .int .i64 0, .int .i64 0]) ?_ 4 _ rfl; (with_reducible repeat (first | refine blk_drewN ?_ _ | refine blk_drew ?_ | refine blk_alloc ?_ _)); refine blk_put (cs := #[.int .i64 t273, .int .i64 t274, .int .i64 t275, .int .i64 0, .int .i64 0, .int .i64 0, .int .i64 0, .int .i64 0, .int .i64 0]) ?_ 3 _ rfl; (with_reducible repeat (first | refine blk_drewN ?_ _ | refine blk_drew ?_ | refine blk_alloc ?_ _)); refine blk_put (cs := #[.int .i64 t273, .int .i64 t274, .int .i64 0, .int .i64 0, .int .i64 0, .int .i64 0, .int .i64 0, .int .i64 0, .int .i64 0]) ?_ 2 _ rfl; (with_reducible repeat (first | refine blk_drewN ?_ _ | refine blk_drew ?_ | refine blk_alloc ?_ _)); refine blk_put (cs := #[.int .i64 t273, .int .i64 0, .int .i64 0, .int .i64 0, .int .i64 0, .int .i64 0, .int .i64 0, .int .i64 0, .int .i64 0]) ?_ 1 _ rfl; (with_reducible repeat (first | refine blk_drewN ?_ _ | refine blk_drew ?_ | refine blk_alloc ?_ _)); refine blk_put (cs := #[.int .i64 0, .int .i64 0, .int .i64 0, .int .i64 0, .int .i64 0, .int .i64 0, .int .i64 0, .int .i64 0, .int .i64 0]) ?_ 0 _ rfl; (with_reducible repeat (first | refine blk_drewN ?_ _ | refine blk_drew ?_ | refine blk_alloc ?_ _)); exact BK283.out) hb); have n1_ := Aside0.mk (below_step (by repeat (first | (with_reducible first | exact HB.out | apply below_alloc | apply pw_below_drewN | apply below_drew1 | refine below_set ?_ GE283.out) | exact HB.out)) hb); clear BK283; clear HB; have BK283 := n0_; have HB := n1_; clear n0_ n1_; (try clear hb); (try clear hb2); (try clear hk); (try clear hi)) | ((with_reducible refine gate_dst (N := 9) rfl ?_); refine box_event ?hg (N := 9) ?hd (cs := #[.int .i64 0, .int .i64 0, .int .i64 0, .int .i64 0, .int .i64 0, .int .i64 0, .int .i64 0, .int .i64 0, .int .i64 0]) (t := 27) ?hr ?_; (case hd => rfl); (case hg => rfl); (case hr => first | (go_simp; done) | (go_simp; rfl)); intro gb294 hg w16 hbox hb; have n0_ := Aside0.mk (blk_below (g := gb283) (o := .cells #[.int .i64 t273, .int .i64 t274, .int .i64 t275, .int .i64 t276, .int .i64 t277, .int .i64 t278, .int .i64 t279, .int .i64 t280, .int .i64 t281] 27 (0, 0)) (by (with_reducible repeat (first | refine blk_drewN ?_ _ | refine blk_drew ?_ | refine blk_alloc ?_ _)); exact BK283.out) hb); have n1_ := Aside0.mk (below_step (by repeat (first | (with_reducible first | exact HB.out | apply below_alloc | apply pw_below_drewN | apply below_drew1 | refine below_set ?_ GE283.out) | exact HB.out)) hb); have n2_ := Aside0.mk (hbox); have n3_ := Aside0.mk ((by rw [hg]; exact (below_size (by repeat (first | (with_reducible first | exact HB.out | apply below_alloc | apply pw_below_drewN | apply below_drew1 | refine below_set ?_ GE283.out) | exact HB.out))) : w.heap.size ≤ gb294)); have n4_ := Aside0.mk ((by rw [hg]; exact (below_size (by repeat (first | (with_reducible first | exact HB.out | apply below_alloc | apply pw_below_drewN | apply below_drew1 | refine below_set ?_ GE283.out) | exact HB.out))) : w.heap.size ≤ gb294)); have n5_ := Aside0.mk ((by rw [hg]; exact Nat.ne_of_lt (blk_lt (g := gb283) (o := .cells #[.int .i64 t273, .int .i64 t274, .int .i64 t275, .int .i64 t276, .int .i64 t277, .int .i64 t278, .int .i64 t279, .int .i64 t280, .int .i64 t281] 27 (0, 0)) (by (with_reducible repeat (first | refine blk_drewN ?_ _ | refine blk_drew ?_ | refine blk_alloc ?_ _)); exact BK283.out)) : gb283 ≠ gb294)); have n6_ := Aside0.mk ((by rw [hg]; exact Nat.ne_of_gt (blk_lt (g := gb283) (o := .cells #[.int .i64 t273, .int .i64 t274, .int .i64 t275, .int .i64 t276, .int .i64 t277, .int .i64 t278, .int .i64 t279, .int .i64 t280, .int .i64 t281] 27 (0, 0)) (by (with_reducible repeat (first | refine blk_drewN ?_ _ | refine blk_drew ?_ | refine blk_alloc ?_ _)); exact BK283.out)) : gb294 ≠ gb283)); clear BK283; clear HB; have BK283 := n0_; have HB := n1_; have BK294 := n2_; have GW294 := n3_; have GE294 := n4_; have NB283_294 := n5_; have NB294_283 := n6_; clear n0_ n1_ n2_ n3_ n4_ n5_ n6_; clear hb hbox hg; have hnb17 := NB294_283.out; have hnc17 := NB283_294.out; have hcz18_0 : w16.cell? ⟨gb294, 0, none⟩ = some (.int .i64 0) := (blk_cell BK294.out 0).trans rfl; have hcz18_1 : w16.cell? ⟨gb294, 1, none⟩ = some (.int .i64 0) := (blk_cell BK294.out 1).trans rfl; have hcz18_2 : w16.cell? ⟨gb294, 2, none⟩ = some (.int .i64 0) := (blk_cell BK294.out 2).trans rfl; have hcz18_3 : w16.cell? ⟨gb294, 3, none⟩ = some (.int .i64 0) := (blk_cell BK294.out 3).trans rfl; have hcz18_4 : w16.cell? ⟨gb294, 4, none⟩ = some (.int .i64 0) := (blk_cell BK294.out 4).trans rfl; have hcz18_5 : w16.cell? ⟨gb294, 5, none⟩ = some (.int .i64 0) := (blk_cell BK294.out 5).trans rfl; have hcz18_6 : w16.cell? ⟨gb294, 6, none⟩ = some (.int .i64 0) := (blk_cell BK294.out 6).trans rfl; have hcz18_7 : w16.cell? ⟨gb294, 7, none⟩ = some (.int .i64 0) := (blk_cell BK294.out 7).trans rfl; have hcz18_8 : w16.cell? ⟨gb294, 8, none⟩ = some (.int .i64 0) := (blk_cell BK294.out 8).trans rfl; have hfz18_0 := blk_frozen BK294.out 0; have hfz18_1 := blk_frozen BK294.out 1; have hfz18_2 := blk_frozen BK294.out 2; have hfz18_3 := blk_frozen BK294.out 3; have hfz18_4 := blk_frozen BK294.out 4; have hfz18_5 := blk_frozen BK294.out 5; have hfz18_6 := blk_frozen BK294.out 6; have hfz18_7 := blk_frozen BK294.out 7; have hfz18_8 := blk_frozen BK294.out 8))
     (try simp only [Act.put, List.setIfInBounds_toArray, List.set_cons_zero, List.set_cons_succ])
     go_cut [42] (fun v42 wc => ∃ (kq : Nat) (x42_9 : Bool), v42 = .bool x42_9 ∧ Aside0 (masterdisclaw10_SubchannelCounts.j0 kq a2 t282 t293 x42_9 t273 t274 t275 t276 t277 t278 t279 t280 t281 t284 t285 t286 t287 t288 t289 t290 t291 t292 = some r) ∧ Aside0 (kq ≤ k) ∧ Aside0 (wc.heap[gb283]? = some (.cells #[.int .i64 t273, .int .i64 t274, .int .i64 t275, .int .i64 t276, .int .i64 t277, .int .i64 t278, .int .i64 t279, .int .i64 t280, .int .i64 t281] 27 (0, 0))) ∧ Aside0 (wc.heap[gb294]? = some (.cells #[.int .i64 t284, .int .i64 t285, .int .i64 t286, .int .i64 t287, .int .i64 t288, .int .i64 t289, .int .i64 t290, .int .i64 t291, .int .i64 t292] 27 (0, 0))) ∧ Aside0 (Below w.heap.size w wc))
     case first =>
      have H := HC10.out
      clear HC10
      by_cases c19 : t282 = 0
      · rw [if_pos c19] at H
        have c19b0 : (t282 == 0) = true := beq_iff_eq.mpr c19
        have c19b1 : (t282 != 0) = false := bne_eq_false_iff_eq.mpr c19
        clear c19
        (first | rw [c19b0] | (simp only [i64_w, i32_w]; rw [c19b0]) | skip)
        have H' := Aside0.mk H
        clear H
        go_wp2
        go_meet
        case rel => exact ⟨_, ((t293 != 0)), (by first | rfl | (simp; done) | (simp [*]; done)), H', ⟨by first | omega | exact Nat.le_refl _⟩, ⟨by (with_reducible repeat (first | refine blk_drewN ?_ _ | refine blk_drew ?_ | refine blk_alloc ?_ _)); refine blk_far ?_ NB283_294.out _; (with_reducible repeat (first | refine blk_drewN ?_ _ | refine blk_drew ?_ | refine blk_alloc ?_ _)); refine blk_far ?_ NB283_294.out _; (with_reducible repeat (first | refine blk_drewN ?_ _ | refine blk_drew ?_ | refine blk_alloc ?_ _)); refine blk_far ?_ NB283_294.out _; (with_reducible repeat (first | refine blk_drewN ?_ _ | refine blk_drew ?_ | refine blk_alloc ?_ _)); refine blk_far ?_ NB283_294.out _; (with_reducible repeat (first | refine blk_drewN ?_ _ | refine blk_drew ?_ | refine blk_alloc ?_ _)); refine blk_far ?_ NB283_294.out _; (with_reducible repeat (first | refine blk_drewN ?_ _ | refine blk_drew ?_ | refine blk_alloc ?_ _)); refine blk_far ?_ NB283_294.out _; (with_reducible repeat (first | refine blk_drewN ?_ _ | refine blk_drew ?_ | refine blk_alloc ?_ _)); refine blk_far ?_ NB283_294.out _; (with_reducible repeat (first | refine blk_drewN ?_ _ | refine blk_drew ?_ | refine blk_alloc ?_ _)); refine blk_far ?_ NB283_294.out _; (with_reducible repeat (first | refine blk_drewN ?_ _ | refine blk_drew ?_ | refine blk_alloc ?_ _)); refine blk_far ?_ NB283_294.out _; (with_reducible repeat (first | refine blk_drewN ?_ _ | refine blk_drew ?_ | refine blk_alloc ?_ _)); exact BK283.out⟩, ⟨by (with_reducible repeat (first | refine blk_drewN ?_ _ | refine blk_drew ?_ | refine blk_alloc ?_ _)); refine blk_put (cs := #[.int .i64 t284, .int .i64 t285, .int .i64 t286, .int .i64 t287, .int .i64 t288, .int .i64 t289, .int .i64 t290, .int .i64 t291, .int .i64 0]) ?_ 8 _ rfl; (with_reducible repeat (first | refine blk_drewN ?_ _ | refine blk_drew ?_ | refine blk_alloc ?_ _)); refine blk_put (cs := #[.int .i64 t284, .int .i64 t285, .int .i64 t286, .int .i64 t287, .int .i64 t288, .int .i64 t289, .int .i64 t290, .int .i64 0, .int .i64 0]) ?_ 7 _ rfl; (with_reducible repeat (first | refine blk_drewN ?_ _ | refine blk_drew ?_ | refine blk_alloc ?_ _)); refine blk_put (cs := #[.int .i64 t284, .int .i64 t285, .int .i64 t286, .int .i64 t287, .int .i64 t288, .int .i64 t289, .int .i64 0, .int .i64 0, .int .i64 0]) ?_ 6 _ rfl; (with_reducible repeat (first | refine blk_drewN ?_ _ | refine blk_drew ?_ | refine blk_alloc ?_ _)); refine blk_put (cs := #[.int .i64 t284, .int .i64 t285, .int .i64 t286, .int .i64 t287, .int .i64 t288, .int .i64 0, .int .i64 0, .int .i64 0, .int .i64 0]) ?_ 5 _ rfl; (with_reducible repeat (first | refine blk_drewN ?_ _ | refine blk_drew ?_ | refine blk_alloc ?_ _)); refine blk_put (cs := #[.int .i64 t284, .int .i64 t285, .int .i64 t286, .int .i64 t287, .int .i64 0, .int .i64 0, .int .i64 0, .int .i64 0, .int .i64 0]) ?_ 4 _ rfl; (with_reducible repeat (first | refine blk_drewN ?_ _ | refine blk_drew ?_ | refine blk_alloc ?_ _)); refine blk_put (cs := #[.int .i64 t284, .int .i64 t285, .int .i64 t286, .int .i64 0, .int .i64 0, .int .i64 0, .int .i64 0, .int .i64 0, .int .i64 0]) ?_ 3 _ rfl; (with_reducible repeat (first | refine blk_drewN ?_ _ | refine blk_drew ?_ | refine blk_alloc ?_ _)); refine blk_put (cs := #[.int .i64 t284, .int .i64 t285, .int .i64 0, .int .i64 0, .int .i64 0, .int .i64 0, .int .i64 0, .int .i64 0, .int .i64 0]) ?_ 2 _ rfl; (with_reducible repeat (first | refine blk_drewN ?_ _ | refine blk_drew ?_ | refine blk_alloc ?_ _)); refine blk_put (cs := #[.int .i64 t284, .int .i64 0, .int .i64 0, .int .i64 0, .int .i64 0, .int .i64 0, .int .i64 0, .int .i64 0, .int .i64 0]) ?_ 1 _ rfl; (with_reducible repeat (first | refine blk_drewN ?_ _ | refine blk_drew ?_ | refine blk_alloc ?_ _)); refine blk_put (cs := #[.int .i64 0, .int .i64 0, .int .i64 0, .int .i64 0, .int .i64 0, .int .i64 0, .int .i64 0, .int .i64 0, .int .i64 0]) ?_ 0 _ rfl; (with_reducible repeat (first | refine blk_drewN ?_ _ | refine blk_drew ?_ | refine blk_alloc ?_ _)); exact BK294.out⟩, ⟨by repeat (first | (with_reducible first | exact HB.out | apply below_alloc | apply pw_below_drewN | apply below_drew1 | refine below_set ?_ GE283.out | refine below_set ?_ GE294.out) | exact HB.out)⟩⟩
      · rw [if_neg c19] at H
        have c19b0 : (t282 == 0) = false := beq_eq_false_iff_ne.mpr c19
        have c19b1 : (t282 != 0) = true := bne_iff_ne.mpr c19
        (first | rw [c19b0] | (simp only [i64_w, i32_w]; rw [c19b0]) | skip)
        have H' := Aside0.mk H
        clear H
        go_wp2
        go_meet
        case rel => exact ⟨_, (true), (by first | rfl | (simp; done) | (simp [*]; done)), H', ⟨by first | omega | exact Nat.le_refl _⟩, ⟨by (with_reducible repeat (first | refine blk_drewN ?_ _ | refine blk_drew ?_ | refine blk_alloc ?_ _)); refine blk_far ?_ NB283_294.out _; (with_reducible repeat (first | refine blk_drewN ?_ _ | refine blk_drew ?_ | refine blk_alloc ?_ _)); refine blk_far ?_ NB283_294.out _; (with_reducible repeat (first | refine blk_drewN ?_ _ | refine blk_drew ?_ | refine blk_alloc ?_ _)); refine blk_far ?_ NB283_294.out _; (with_reducible repeat (first | refine blk_drewN ?_ _ | refine blk_drew ?_ | refine blk_alloc ?_ _)); refine blk_far ?_ NB283_294.out _; (with_reducible repeat (first | refine blk_drewN ?_ _ | refine blk_drew ?_ | refine blk_alloc ?_ _)); refine blk_far ?_ NB283_294.out _; (with_reducible repeat (first | refine blk_drewN ?_ _ | refine blk_drew ?_ | refine blk_alloc ?_ _)); refine blk_far ?_ NB283_294.out _; (with_reducible repeat (first | refine blk_drewN ?_ _ | refine blk_drew ?_ | refine blk_alloc ?_ _)); refine blk_far ?_ NB283_294.out _; (with_reducible repeat (first | refine blk_drewN ?_ _ | refine blk_drew ?_ | refine blk_alloc ?_ _)); refine blk_far ?_ NB283_294.out _; (with_reducible repeat (first | refine blk_drewN ?_ _ | refine blk_drew ?_ | refine blk_alloc ?_ _)); refine blk_far ?_ NB283_294.out _; (with_reducible repeat (first | refine blk_drewN ?_ _ | refine blk_drew ?_ | refine blk_alloc ?_ _)); exact BK283.out⟩, ⟨by (with_reducible repeat (first | refine blk_drewN ?_ _ | refine blk_drew ?_ | refine blk_alloc ?_ _)); refine blk_put (cs := #[.int .i64 t284, .int .i64 t285, .int .i64 t286, .int .i64 t287, .int .i64 t288, .int .i64 t289, .int .i64 t290, .int .i64 t291, .int .i64 0]) ?_ 8 _ rfl; (with_reducible repeat (first | refine blk_drewN ?_ _ | refine blk_drew ?_ | refine blk_alloc ?_ _)); refine blk_put (cs := #[.int .i64 t284, .int .i64 t285, .int .i64 t286, .int .i64 t287, .int .i64 t288, .int .i64 t289, .int .i64 t290, .int .i64 0, .int .i64 0]) ?_ 7 _ rfl; (with_reducible repeat (first | refine blk_drewN ?_ _ | refine blk_drew ?_ | refine blk_alloc ?_ _)); refine blk_put (cs := #[.int .i64 t284, .int .i64 t285, .int .i64 t286, .int .i64 t287, .int .i64 t288, .int .i64 t289, .int .i64 0, .int .i64 0, .int .i64 0]) ?_ 6 _ rfl; (with_reducible repeat (first | refine blk_drewN ?_ _ | refine blk_drew ?_ | refine blk_alloc ?_ _)); refine blk_put (cs := #[.int .i64 t284, .int .i64 t285, .int .i64 t286, .int .i64 t287, .int .i64 t288, .int .i64 0, .int .i64 0, .int .i64 0, .int .i64 0]) ?_ 5 _ rfl; (with_reducible repeat (first | refine blk_drewN ?_ _ | refine blk_drew ?_ | refine blk_alloc ?_ _)); refine blk_put (cs := #[.int .i64 t284, .int .i64 t285, .int .i64 t286, .int .i64 t287, .int .i64 0, .int .i64 0, .int .i64 0, .int .i64 0, .int .i64 0]) ?_ 4 _ rfl; (with_reducible repeat (first | refine blk_drewN ?_ _ | refine blk_drew ?_ | refine blk_alloc ?_ _)); refine blk_put (cs := #[.int .i64 t284, .int .i64 t285, .int .i64 t286, .int .i64 0, .int .i64 0, .int .i64 0, .int .i64 0, .int .i64 0, .int .i64 0]) ?_ 3 _ rfl; (with_reducible repeat (first | refine blk_drewN ?_ _ | refine blk_drew ?_ | refine blk_alloc ?_ _)); refine blk_put (cs := #[.int .i64 t284, .int .i64 t285, .int .i64 0, .int .i64 0, .int .i64 0, .int .i64 0, .int .i64 0, .int .i64 0, .int .i64 0]) ?_ 2 _ rfl; (with_reducible repeat (first | refine blk_drewN ?_ _ | refine blk_drew ?_ | refine blk_alloc ?_ _)); refine blk_put (cs := #[.int .i64 t284, .int .i64 0, .int .i64 0, .int .i64 0, .int .i64 0, .int .i64 0, .int .i64 0, .int .i64 0, .int .i64 0]) ?_ 1 _ rfl; (with_reducible repeat (first | refine blk_drewN ?_ _ | refine blk_drew ?_ | refine blk_alloc ?_ _)); refine blk_put (cs := #[.int .i64 0, .int .i64 0, .int .i64 0, .int .i64 0, .int .i64 0, .int .i64 0, .int .i64 0, .int .i64 0, .int .i64 0]) ?_ 0 _ rfl; (with_reducible repeat (first | refine blk_drewN ?_ _ | refine blk_drew ?_ | refine blk_alloc ?_ _)); exact BK294.out⟩, ⟨by repeat (first | (with_reducible first | exact HB.out | apply below_alloc | apply pw_below_drewN | apply below_drew1 | refine below_set ?_ GE283.out | refine below_set ?_ GE294.out) | exact HB.out)⟩⟩
     case rest =>
      clear HC10
      try clear c1
      try clear p2
      try clear c4
      try clear c5
      try clear c6
      try clear c6b0
      try clear c6b1
      try clear p6
      try clear c10
      try clear c11
      try clear c17
      try clear c19
      try clear c19b0
      try clear c19b1
      try clear hcz14_0
      try clear hcz14_1
      try clear hcz14_2
      try clear hcz14_3
      try clear hcz14_4
      try clear hcz14_5
      try clear hcz14_6
      try clear hcz14_7
      try clear hcz14_8
      try clear hcz18_0
      try clear hcz18_1
      try clear hcz18_2
      try clear hcz18_3
      try clear hcz18_4
      try clear hcz18_5
      try clear hcz18_6
      try clear hcz18_7
      try clear hcz18_8
      try clear hfz14_0
      try clear hfz14_1
      try clear hfz14_2
      try clear hfz14_3
      try clear hfz14_4
      try clear hfz14_5
      try clear hfz14_6
      try clear hfz14_7
      try clear hfz14_8
      try clear hfz18_0
      try clear hfz18_1
      try clear hfz18_2
      try clear hfz18_3
      try clear hfz18_4
      try clear hfz18_5
      try clear hfz18_6
      try clear hfz18_7
      try clear hfz18_8
      obtain ⟨kq, x42_9, rfl, HA, HJ9, BK283, BK294, HB⟩ := hcut
      cases kq with
      | zero => exact absurd HA.out (by simp [masterdisclaw10_SubchannelCounts.j0])
      | succ kj9 =>
       have H := HA.out
       clear HA
       simp only [masterdisclaw10_SubchannelCounts.j0] at H
       by_cases c20 : x42_9 = true
       · subst c20
         have H1 : (if t282 = 0 then (if t293 = 0 then (some true) else (some (t284 == 0 && (t285 == 0 && (t286 == 0 && ((t287 == 0 && (t288 == 0 && (t289 == 0))) && ((t290 == 0 && (t291 == 0 && (t292 == 0)))))))))) else (if (t273 == 0 && (t274 == 0 && (t275 == 0 && ((t276 == 0 && (t277 == 0 && (t278 == 0))) && ((t279 == 0 && (t280 == 0 && (t281 == 0)))))))) = true then (if t293 = 0 then (some true) else (some (t284 == 0 && (t285 == 0 && (t286 == 0 && ((t287 == 0 && (t288 == 0 && (t289 == 0))) && ((t290 == 0 && (t291 == 0 && (t292 == 0)))))))))) else (none))) = some r := by rw [if_pos rfl] at H; exact H
         clear H
         have H := H1
         clear H1
         by_cases c21 : t282 = 0
         · rw [if_pos c21] at H
           have c21b0 : (t282 == 0) = true := beq_iff_eq.mpr c21
           have c21b1 : (t282 != 0) = false := bne_eq_false_iff_eq.mpr c21
           clear c21
           by_cases c22 : t293 = 0
           · rw [if_pos c22] at H
             have c22b0 : (t293 == 0) = true := beq_iff_eq.mpr c22
             have c22b1 : (t293 != 0) = false := bne_eq_false_iff_eq.mpr c22
             clear c22
             obtain rfl := Option.some.inj H
             go_wp2
             go_ret
             exact ⟨by first | rfl | (simp [errW_none, errW_some] <;> rfl) | (simp [*, errW_none, errW_some] <;> rfl), by repeat (first | (with_reducible first | exact HB.out | apply below_alloc | apply pw_below_drewN | apply below_drew1 | refine below_set ?_ GE283.out | refine below_set ?_ GE294.out) | exact HB.out)⟩
           · rw [if_neg c22] at H
             have c22b0 : (t293 == 0) = false := beq_eq_false_iff_ne.mpr c22
             have c22b1 : (t293 != 0) = true := bne_iff_ne.mpr c22
             obtain rfl := Option.some.inj H
             have hnb23 := NB294_283.out
             have hnc23 := NB283_294.out
             have hcz24_0 : wc.cell? ⟨gb294, 0, none⟩ = some (.int .i64 t284) := (blk_cell BK294.out 0).trans rfl
             have hcz24_1 : wc.cell? ⟨gb294, 1, none⟩ = some (.int .i64 t285) := (blk_cell BK294.out 1).trans rfl
             have hcz24_2 : wc.cell? ⟨gb294, 2, none⟩ = some (.int .i64 t286) := (blk_cell BK294.out 2).trans rfl
             have hcz24_3 : wc.cell? ⟨gb294, 3, none⟩ = some (.int .i64 t287) := (blk_cell BK294.out 3).trans rfl
             have hcz24_4 : wc.cell? ⟨gb294, 4, none⟩ = some (.int .i64 t288) := (blk_cell BK294.out 4).trans rfl
             have hcz24_5 : wc.cell? ⟨gb294, 5, none⟩ = some (.int .i64 t289) := (blk_cell BK294.out 5).trans rfl
             have hcz24_6 : wc.cell? ⟨gb294, 6, none⟩ = some (.int .i64 t290) := (blk_cell BK294.out 6).trans rfl
             have hcz24_7 : wc.cell? ⟨gb294, 7, none⟩ = some (.int .i64 t291) := (blk_cell BK294.out 7).trans rfl
             have hcz24_8 : wc.cell? ⟨gb294, 8, none⟩ = some (.int .i64 t292) := (blk_cell BK294.out 8).trans rfl
             have hfz24_0 := blk_frozen BK294.out 0
             have hfz24_1 := blk_frozen BK294.out 1
             have hfz24_2 := blk_frozen BK294.out 2
             have hfz24_3 := blk_frozen BK294.out 3
             have hfz24_4 := blk_frozen BK294.out 4
             have hfz24_5 := blk_frozen BK294.out 5
             have hfz24_6 := blk_frozen BK294.out 6
             have hfz24_7 := blk_frozen BK294.out 7
             have hfz24_8 := blk_frozen BK294.out 8
             go_wp2
             go_ret
             exact ⟨by first | rfl | (simp [errW_none, errW_some] <;> rfl) | (simp [*, errW_none, errW_some] <;> rfl), by repeat (first | (with_reducible first | exact HB.out | apply below_alloc | apply pw_below_drewN | apply below_drew1 | refine below_set ?_ GE283.out | refine below_set ?_ GE294.out) | exact HB.out)⟩
         · rw [if_neg c21] at H
           have c21b0 : (t282 == 0) = false := beq_eq_false_iff_ne.mpr c21
           have c21b1 : (t282 != 0) = true := bne_iff_ne.mpr c21
           by_cases c25 : (t273 == 0 && (t274 == 0 && (t275 == 0 && ((t276 == 0 && (t277 == 0 && (t278 == 0))) && ((t279 == 0 && (t280 == 0 && (t281 == 0)))))))) = true
           · rw [if_pos c25] at H
             have c25b0 : (t273 == 0 && (t274 == 0 && (t275 == 0 && ((t276 == 0 && (t277 == 0 && (t278 == 0))) && ((t279 == 0 && (t280 == 0 && (t281 == 0)))))))) = true := c25
             (try (have c25b1 : decide (t273 = 0 && (t274 == 0 && (t275 == 0 && ((t276 == 0 && (t277 == 0 && (t278 == 0))) && ((t279 == 0 && (t280 == 0 && (t281 == 0)))))))) = true := by simpa using c25))
             (try (have c25b2 : (t273 == 0 && (t274 == 0 && (t275 == 0 && ((t276 == 0 && (t277 == 0 && (t278 == 0))) && ((t279 == 0 && (t280 == 0 && (t281 == 0)))))))) = true := by simpa using c25))
             clear c25
             by_cases c26 : t293 = 0
             · rw [if_pos c26] at H
               have c26b0 : (t293 == 0) = true := beq_iff_eq.mpr c26
               have c26b1 : (t293 != 0) = false := bne_eq_false_iff_eq.mpr c26
               clear c26
               obtain rfl := Option.some.inj H
               have hnb27 := NB283_294.out
               have hnc27 := NB294_283.out
               have hcz28_0 : wc.cell? ⟨gb283, 0, none⟩ = some (.int .i64 t273) := (blk_cell BK283.out 0).trans rfl
               have hcz28_1 : wc.cell? ⟨gb283, 1, none⟩ = some (.int .i64 t274) := (blk_cell BK283.out 1).trans rfl
               have hcz28_2 : wc.cell? ⟨gb283, 2, none⟩ = some (.int .i64 t275) := (blk_cell BK283.out 2).trans rfl
               have hcz28_3 : wc.cell? ⟨gb283, 3, none⟩ = some (.int .i64 t276) := (blk_cell BK283.out 3).trans rfl
               have hcz28_4 : wc.cell? ⟨gb283, 4, none⟩ = some (.int .i64 t277) := (blk_cell BK283.out 4).trans rfl
               have hcz28_5 : wc.cell? ⟨gb283, 5, none⟩ = some (.int .i64 t278) := (blk_cell BK283.out 5).trans rfl
               have hcz28_6 : wc.cell? ⟨gb283, 6, none⟩ = some (.int .i64 t279) := (blk_cell BK283.out 6).trans rfl
               have hcz28_7 : wc.cell? ⟨gb283, 7, none⟩ = some (.int .i64 t280) := (blk_cell BK283.out 7).trans rfl
               have hcz28_8 : wc.cell? ⟨gb283, 8, none⟩ = some (.int .i64 t281) := (blk_cell BK283.out 8).trans rfl
               have hfz28_0 := blk_frozen BK283.out 0
               have hfz28_1 := blk_frozen BK283.out 1
               have hfz28_2 := blk_frozen BK283.out 2
               have hfz28_3 := blk_frozen BK283.out 3
               have hfz28_4 := blk_frozen BK283.out 4
               have hfz28_5 := blk_frozen BK283.out 5
               have hfz28_6 := blk_frozen BK283.out 6
               have hfz28_7 := blk_frozen BK283.out 7
               have hfz28_8 := blk_frozen BK283.out 8
               go_wp2
               go_ret
               exact ⟨by first | rfl | (simp [errW_none, errW_some] <;> rfl) | (simp [*, errW_none, errW_some] <;> rfl), by repeat (first | (with_reducible first | exact HB.out | apply below_alloc | apply pw_below_drewN | apply below_drew1 | refine below_set ?_ GE283.out | refine below_set ?_ GE294.out) | exact HB.out)⟩
             · rw [if_neg c26] at H
               have c26b0 : (t293 == 0) = false := beq_eq_false_iff_ne.mpr c26
               have c26b1 : (t293 != 0) = true := bne_iff_ne.mpr c26
               obtain rfl := Option.some.inj H
               have hnb29 := NB283_294.out
               have hnc29 := NB294_283.out
               have hcz30_0 : wc.cell? ⟨gb283, 0, none⟩ = some (.int .i64 t273) := (blk_cell BK283.out 0).trans rfl
               have hcz30_1 : wc.cell? ⟨gb283, 1, none⟩ = some (.int .i64 t274) := (blk_cell BK283.out 1).trans rfl
               have hcz30_2 : wc.cell? ⟨gb283, 2, none⟩ = some (.int .i64 t275) := (blk_cell BK283.out 2).trans rfl
               have hcz30_3 : wc.cell? ⟨gb283, 3, none⟩ = some (.int .i64 t276) := (blk_cell BK283.out 3).trans rfl
               have hcz30_4 : wc.cell? ⟨gb283, 4, none⟩ = some (.int .i64 t277) := (blk_cell BK283.out 4).trans rfl
               have hcz30_5 : wc.cell? ⟨gb283, 5, none⟩ = some (.int .i64 t278) := (blk_cell BK283.out 5).trans rfl
               have hcz30_6 : wc.cell? ⟨gb283, 6, none⟩ = some (.int .i64 t279) := (blk_cell BK283.out 6).trans rfl
               have hcz30_7 : wc.cell? ⟨gb283, 7, none⟩ = some (.int .i64 t280) := (blk_cell BK283.out 7).trans rfl
               have hcz30_8 : wc.cell? ⟨gb283, 8, none⟩ = some (.int .i64 t281) := (blk_cell BK283.out 8).trans rfl
               have hfz30_0 := blk_frozen BK283.out 0
               have hfz30_1 := blk_frozen BK283.out 1
               have hfz30_2 := blk_frozen BK283.out 2
               have hfz30_3 := blk_frozen BK283.out 3
               have hfz30_4 := blk_frozen BK283.out 4
               have hfz30_5 := blk_frozen BK283.out 5
               have hfz30_6 := blk_frozen BK283.out 6
               have hfz30_7 := blk_frozen BK283.out 7
               have hfz30_8 := blk_frozen BK283.out 8
               have hcz31_0 : wc.cell? ⟨gb294, 0, none⟩ = some (.int .i64 t284) := (blk_cell BK294.out 0).trans rfl
               have hcz31_1 : wc.cell? ⟨gb294, 1, none⟩ = some (.int .i64 t285) := (blk_cell BK294.out 1).trans rfl
               have hcz31_2 : wc.cell? ⟨gb294, 2, none⟩ = some (.int .i64 t286) := (blk_cell BK294.out 2).trans rfl
               have hcz31_3 : wc.cell? ⟨gb294, 3, none⟩ = some (.int .i64 t287) := (blk_cell BK294.out 3).trans rfl
               have hcz31_4 : wc.cell? ⟨gb294, 4, none⟩ = some (.int .i64 t288) := (blk_cell BK294.out 4).trans rfl
               have hcz31_5 : wc.cell? ⟨gb294, 5, none⟩ = some (.int .i64 t289) := (blk_cell BK294.out 5).trans rfl
               have hcz31_6 : wc.cell? ⟨gb294, 6, none⟩ = some (.int .i64 t290) := (blk_cell BK294.out 6).trans rfl
               have hcz31_7 : wc.cell? ⟨gb294, 7, none⟩ = some (.int .i64 t291) := (blk_cell BK294.out 7).trans rfl
               have hcz31_8 : wc.cell? ⟨gb294, 8, none⟩ = some (.int .i64 t292) := (blk_cell BK294.out 8).trans rfl
               have hfz31_0 := blk_frozen BK294.out 0
               have hfz31_1 := blk_frozen BK294.out 1
               have hfz31_2 := blk_frozen BK294.out 2
               have hfz31_3 := blk_frozen BK294.out 3
               have hfz31_4 := blk_frozen BK294.out 4
               have hfz31_5 := blk_frozen BK294.out 5
               have hfz31_6 := blk_frozen BK294.out 6
               have hfz31_7 := blk_frozen BK294.out 7
               have hfz31_8 := blk_frozen BK294.out 8
               go_wp2
               go_ret
               exact ⟨by first | rfl | (simp [errW_none, errW_some] <;> rfl) | (simp [*, errW_none, errW_some] <;> rfl), by repeat (first | (with_reducible first | exact HB.out | apply below_alloc | apply pw_below_drewN | apply below_drew1 | refine below_set ?_ GE283.out | refine below_set ?_ GE294.out) | exact HB.out)⟩
           · rw [if_neg c25] at H
             exact absurd H (by simp)
       · replace c20 := Bool.eq_false_iff.mpr c20
         subst c20
         have H1 : ((address_ToLBA.f t279 t280 t281).bind fun bt295 => ((address_Distance.f kj9 t279 t280 t281 t290 t291 t292).bind fun bt297 => ((address_Distance.f kj9 t276 t277 t278 t287 t288 t289).bind fun bt299 => ((subchannel_Encode.f t273 t274 t275 t276 t277 t278 t279 t280 t281).bind fun bt301 => (if bt301.2 = 0 then (if bt295.1 = a2 then (if bt295.2 = 0 then (if bt297.1 = 1 then (if bt297.2 = 0 then (masterdisclaw10_SubchannelCounts.j1 kj9 bt299.1 (bt299.2 != 0) t273 t274 t275 t276 t277 t278 t279 t280 t281 t284 t285 t286 t287 t288 t289 t290 t291 t292) else (masterdisclaw10_SubchannelCounts.j1 kj9 bt299.1 true t273 t274 t275 t276 t277 t278 t279 t280 t281 t284 t285 t286 t287 t288 t289 t290 t291 t292)) else (masterdisclaw10_SubchannelCounts.j1 kj9 bt299.1 true t273 t274 t275 t276 t277 t278 t279 t280 t281 t284 t285 t286 t287 t288 t289 t290 t291 t292)) else (masterdisclaw10_SubchannelCounts.j1 kj9 bt299.1 true t273 t274 t275 t276 t277 t278 t279 t280 t281 t284 t285 t286 t287 t288 t289 t290 t291 t292)) else (masterdisclaw10_SubchannelCounts.j1 kj9 bt299.1 true t273 t274 t275 t276 t277 t278 t279 t280 t281 t284 t285 t286 t287 t288 t289 t290 t291 t292)) else (masterdisclaw10_SubchannelCounts.j1 kj9 bt299.1 true t273 t274 t275 t276 t277 t278 t279 t280 t281 t284 t285 t286 t287 t288 t289 t290 t291 t292)))))) = some r := by rw [if_neg (show ¬ (false = true) by decide)] at H; exact H
         clear H
         have H := H1
         clear H1
         replace H := Option.bind_eq_some_iff.mp H
         obtain ⟨⟨t295, t296⟩, A320, H⟩ := H
         replace H : ((address_Distance.f kj9 t279 t280 t281 t290 t291 t292).bind fun bt297 => ((address_Distance.f kj9 t276 t277 t278 t287 t288 t289).bind fun bt299 => ((subchannel_Encode.f t273 t274 t275 t276 t277 t278 t279 t280 t281).bind fun bt301 => (if bt301.2 = 0 then (if t295 = a2 then (if t296 = 0 then (if bt297.1 = 1 then (if bt297.2 = 0 then (masterdisclaw10_SubchannelCounts.j1 kj9 bt299.1 (bt299.2 != 0) t273 t274 t275 t276 t277 t278 t279 t280 t281 t284 t285 t286 t287 t288 t289 t290 t291 t292) else (masterdisclaw10_SubchannelCounts.j1 kj9 bt299.1 true t273 t274 t275 t276 t277 t278 t279 t280 t281 t284 t285 t286 t287 t288 t289 t290 t291 t292)) else (masterdisclaw10_SubchannelCounts.j1 kj9 bt299.1 true t273 t274 t275 t276 t277 t278 t279 t280 t281 t284 t285 t286 t287 t288 t289 t290 t291 t292)) else (masterdisclaw10_SubchannelCounts.j1 kj9 bt299.1 true t273 t274 t275 t276 t277 t278 t279 t280 t281 t284 t285 t286 t287 t288 t289 t290 t291 t292)) else (masterdisclaw10_SubchannelCounts.j1 kj9 bt299.1 true t273 t274 t275 t276 t277 t278 t279 t280 t281 t284 t285 t286 t287 t288 t289 t290 t291 t292)) else (masterdisclaw10_SubchannelCounts.j1 kj9 bt299.1 true t273 t274 t275 t276 t277 t278 t279 t280 t281 t284 t285 t286 t287 t288 t289 t290 t291 t292))))) = some r := H
         have A32 := Aside0.mk A320
         clear A320
         replace H := Option.bind_eq_some_iff.mp H
         obtain ⟨⟨t297, t298⟩, A330, H⟩ := H
         replace H : ((address_Distance.f kj9 t276 t277 t278 t287 t288 t289).bind fun bt299 => ((subchannel_Encode.f t273 t274 t275 t276 t277 t278 t279 t280 t281).bind fun bt301 => (if bt301.2 = 0 then (if t295 = a2 then (if t296 = 0 then (if t297 = 1 then (if t298 = 0 then (masterdisclaw10_SubchannelCounts.j1 kj9 bt299.1 (bt299.2 != 0) t273 t274 t275 t276 t277 t278 t279 t280 t281 t284 t285 t286 t287 t288 t289 t290 t291 t292) else (masterdisclaw10_SubchannelCounts.j1 kj9 bt299.1 true t273 t274 t275 t276 t277 t278 t279 t280 t281 t284 t285 t286 t287 t288 t289 t290 t291 t292)) else (masterdisclaw10_SubchannelCounts.j1 kj9 bt299.1 true t273 t274 t275 t276 t277 t278 t279 t280 t281 t284 t285 t286 t287 t288 t289 t290 t291 t292)) else (masterdisclaw10_SubchannelCounts.j1 kj9 bt299.1 true t273 t274 t275 t276 t277 t278 t279 t280 t281 t284 t285 t286 t287 t288 t289 t290 t291 t292)) else (masterdisclaw10_SubchannelCounts.j1 kj9 bt299.1 true t273 t274 t275 t276 t277 t278 t279 t280 t281 t284 t285 t286 t287 t288 t289 t290 t291 t292)) else (masterdisclaw10_SubchannelCounts.j1 kj9 bt299.1 true t273 t274 t275 t276 t277 t278 t279 t280 t281 t284 t285 t286 t287 t288 t289 t290 t291 t292)))) = some r := H
         have A33 := Aside0.mk A330
         clear A330
         replace H := Option.bind_eq_some_iff.mp H
         obtain ⟨⟨t299, t300⟩, A340, H⟩ := H
         replace H : ((subchannel_Encode.f t273 t274 t275 t276 t277 t278 t279 t280 t281).bind fun bt301 => (if bt301.2 = 0 then (if t295 = a2 then (if t296 = 0 then (if t297 = 1 then (if t298 = 0 then (masterdisclaw10_SubchannelCounts.j1 kj9 t299 (t300 != 0) t273 t274 t275 t276 t277 t278 t279 t280 t281 t284 t285 t286 t287 t288 t289 t290 t291 t292) else (masterdisclaw10_SubchannelCounts.j1 kj9 t299 true t273 t274 t275 t276 t277 t278 t279 t280 t281 t284 t285 t286 t287 t288 t289 t290 t291 t292)) else (masterdisclaw10_SubchannelCounts.j1 kj9 t299 true t273 t274 t275 t276 t277 t278 t279 t280 t281 t284 t285 t286 t287 t288 t289 t290 t291 t292)) else (masterdisclaw10_SubchannelCounts.j1 kj9 t299 true t273 t274 t275 t276 t277 t278 t279 t280 t281 t284 t285 t286 t287 t288 t289 t290 t291 t292)) else (masterdisclaw10_SubchannelCounts.j1 kj9 t299 true t273 t274 t275 t276 t277 t278 t279 t280 t281 t284 t285 t286 t287 t288 t289 t290 t291 t292)) else (masterdisclaw10_SubchannelCounts.j1 kj9 t299 true t273 t274 t275 t276 t277 t278 t279 t280 t281 t284 t285 t286 t287 t288 t289 t290 t291 t292))) = some r := H
         have A34 := Aside0.mk A340
         clear A340
         replace H := Option.bind_eq_some_iff.mp H
         obtain ⟨⟨t301, t302⟩, A350, H⟩ := H
         replace H : (if t302 = 0 then (if t295 = a2 then (if t296 = 0 then (if t297 = 1 then (if t298 = 0 then (masterdisclaw10_SubchannelCounts.j1 kj9 t299 (t300 != 0) t273 t274 t275 t276 t277 t278 t279 t280 t281 t284 t285 t286 t287 t288 t289 t290 t291 t292) else (masterdisclaw10_SubchannelCounts.j1 kj9 t299 true t273 t274 t275 t276 t277 t278 t279 t280 t281 t284 t285 t286 t287 t288 t289 t290 t291 t292)) else (masterdisclaw10_SubchannelCounts.j1 kj9 t299 true t273 t274 t275 t276 t277 t278 t279 t280 t281 t284 t285 t286 t287 t288 t289 t290 t291 t292)) else (masterdisclaw10_SubchannelCounts.j1 kj9 t299 true t273 t274 t275 t276 t277 t278 t279 t280 t281 t284 t285 t286 t287 t288 t289 t290 t291 t292)) else (masterdisclaw10_SubchannelCounts.j1 kj9 t299 true t273 t274 t275 t276 t277 t278 t279 t280 t281 t284 t285 t286 t287 t288 t289 t290 t291 t292)) else (masterdisclaw10_SubchannelCounts.j1 kj9 t299 true t273 t274 t275 t276 t277 t278 t279 t280 t281 t284 t285 t286 t287 t288 t289 t290 t291 t292)) = some r := H
         have A35 := Aside0.mk A350
         clear A350
         have HC36 := Aside0.mk H
         clear H
         have hnb37 := NB283_294.out
         have hnc37 := NB294_283.out
         have hcz38_0 : wc.cell? ⟨gb283, 0, none⟩ = some (.int .i64 t273) := (blk_cell BK283.out 0).trans rfl
         have hcz38_1 : wc.cell? ⟨gb283, 1, none⟩ = some (.int .i64 t274) := (blk_cell BK283.out 1).trans rfl
         have hcz38_2 : wc.cell? ⟨gb283, 2, none⟩ = some (.int .i64 t275) := (blk_cell BK283.out 2).trans rfl
         have hcz38_3 : wc.cell? ⟨gb283, 3, none⟩ = some (.int .i64 t276) := (blk_cell BK283.out 3).trans rfl
         have hcz38_4 : wc.cell? ⟨gb283, 4, none⟩ = some (.int .i64 t277) := (blk_cell BK283.out 4).trans rfl
         have hcz38_5 : wc.cell? ⟨gb283, 5, none⟩ = some (.int .i64 t278) := (blk_cell BK283.out 5).trans rfl
         have hcz38_6 : wc.cell? ⟨gb283, 6, none⟩ = some (.int .i64 t279) := (blk_cell BK283.out 6).trans rfl
         have hcz38_7 : wc.cell? ⟨gb283, 7, none⟩ = some (.int .i64 t280) := (blk_cell BK283.out 7).trans rfl
         have hcz38_8 : wc.cell? ⟨gb283, 8, none⟩ = some (.int .i64 t281) := (blk_cell BK283.out 8).trans rfl
         have hfz38_0 := blk_frozen BK283.out 0
         have hfz38_1 := blk_frozen BK283.out 1
         have hfz38_2 := blk_frozen BK283.out 2
         have hfz38_3 := blk_frozen BK283.out 3
         have hfz38_4 := blk_frozen BK283.out 4
         have hfz38_5 := blk_frozen BK283.out 5
         have hfz38_6 := blk_frozen BK283.out 6
         have hfz38_7 := blk_frozen BK283.out 7
         have hfz38_8 := blk_frozen BK283.out 8
         go_upto_region 13 with (first | ((with_reducible refine gate_callee (f := 16) rfl ?_); refine goesL_ (some 62) rfl rfl Try.func16 (by kernel_rfl) rfl #[.agg #[.int .i64 t279, .int .i64 t280, .int .i64 t281]] rfl (by (try simp only [List.map_toArray, List.map_cons, List.map_nil]); first | done | rfl | (simp only [List.length_drop, List.length_take]; rfl)) ?_; (with_reducible refine (address_ToLBA.calls t279 t280 t281 t295 t296 _ A32.out).mono ?_); rintro e w39 ⟨rfl, hb⟩; refine ⟨_, rfl, ?_⟩; have n0_ := Aside0.mk (blk_below (g := gb283) (o := .cells #[.int .i64 t273, .int .i64 t274, .int .i64 t275, .int .i64 t276, .int .i64 t277, .int .i64 t278, .int .i64 t279, .int .i64 t280, .int .i64 t281] 27 (0, 0)) (by (with_reducible repeat (first | refine blk_drewN ?_ _ | refine blk_drew ?_ | refine blk_alloc ?_ _)); exact BK283.out) hb); have n1_ := Aside0.mk (blk_below (g := gb294) (o := .cells #[.int .i64 t284, .int .i64 t285, .int .i64 t286, .int .i64 t287, .int .i64 t288, .int .i64 t289, .int .i64 t290, .int .i64 t291, .int .i64 t292] 27 (0, 0)) (by (with_reducible repeat (first | refine blk_drewN ?_ _ | refine blk_drew ?_ | refine blk_alloc ?_ _)); exact BK294.out) hb); have n2_ := Aside0.mk (below_step (by repeat (first | (with_reducible first | exact HB.out | apply below_alloc | apply pw_below_drewN | apply below_drew1 | refine below_set ?_ GE283.out | refine below_set ?_ GE294.out) | exact HB.out)) hb); clear BK283; clear BK294; clear HB; have BK283 := n0_; have BK294 := n1_; have HB := n2_; clear n0_ n1_ n2_; (try clear hb); (try clear hb2); (try clear hk); (try clear hi); have hcz40_0 : w39.cell? ⟨gb283, 0, none⟩ = some (.int .i64 t273) := (blk_cell BK283.out 0).trans rfl; have hcz40_1 : w39.cell? ⟨gb283, 1, none⟩ = some (.int .i64 t274) := (blk_cell BK283.out 1).trans rfl; have hcz40_2 : w39.cell? ⟨gb283, 2, none⟩ = some (.int .i64 t275) := (blk_cell BK283.out 2).trans rfl; have hcz40_3 : w39.cell? ⟨gb283, 3, none⟩ = some (.int .i64 t276) := (blk_cell BK283.out 3).trans rfl; have hcz40_4 : w39.cell? ⟨gb283, 4, none⟩ = some (.int .i64 t277) := (blk_cell BK283.out 4).trans rfl; have hcz40_5 : w39.cell? ⟨gb283, 5, none⟩ = some (.int .i64 t278) := (blk_cell BK283.out 5).trans rfl; have hcz40_6 : w39.cell? ⟨gb283, 6, none⟩ = some (.int .i64 t279) := (blk_cell BK283.out 6).trans rfl; have hcz40_7 : w39.cell? ⟨gb283, 7, none⟩ = some (.int .i64 t280) := (blk_cell BK283.out 7).trans rfl; have hcz40_8 : w39.cell? ⟨gb283, 8, none⟩ = some (.int .i64 t281) := (blk_cell BK283.out 8).trans rfl; have hfz40_0 := blk_frozen BK283.out 0; have hfz40_1 := blk_frozen BK283.out 1; have hfz40_2 := blk_frozen BK283.out 2; have hfz40_3 := blk_frozen BK283.out 3; have hfz40_4 := blk_frozen BK283.out 4; have hfz40_5 := blk_frozen BK283.out 5; have hfz40_6 := blk_frozen BK283.out 6; have hfz40_7 := blk_frozen BK283.out 7; have hfz40_8 := blk_frozen BK283.out 8; have hcz41_0 : w39.cell? ⟨gb294, 0, none⟩ = some (.int .i64 t284) := (blk_cell BK294.out 0).trans rfl; have hcz41_1 : w39.cell? ⟨gb294, 1, none⟩ = some (.int .i64 t285) := (blk_cell BK294.out 1).trans rfl; have hcz41_2 : w39.cell? ⟨gb294, 2, none⟩ = some (.int .i64 t286) := (blk_cell BK294.out 2).trans rfl; have hcz41_3 : w39.cell? ⟨gb294, 3, none⟩ = some (.int .i64 t287) := (blk_cell BK294.out 3).trans rfl; have hcz41_4 : w39.cell? ⟨gb294, 4, none⟩ = some (.int .i64 t288) := (blk_cell BK294.out 4).trans rfl; have hcz41_5 : w39.cell? ⟨gb294, 5, none⟩ = some (.int .i64 t289) := (blk_cell BK294.out 5).trans rfl; have hcz41_6 : w39.cell? ⟨gb294, 6, none⟩ = some (.int .i64 t290) := (blk_cell BK294.out 6).trans rfl; have hcz41_7 : w39.cell? ⟨gb294, 7, none⟩ = some (.int .i64 t291) := (blk_cell BK294.out 7).trans rfl; have hcz41_8 : w39.cell? ⟨gb294, 8, none⟩ = some (.int .i64 t292) := (blk_cell BK294.out 8).trans rfl; have hfz41_0 := blk_frozen BK294.out 0; have hfz41_1 := blk_frozen BK294.out 1; have hfz41_2 := blk_frozen BK294.out 2; have hfz41_3 := blk_frozen BK294.out 3; have hfz41_4 := blk_frozen BK294.out 4; have hfz41_5 := blk_frozen BK294.out 5; have hfz41_6 := blk_frozen BK294.out 6; have hfz41_7 := blk_frozen BK294.out 7; have hfz41_8 := blk_frozen BK294.out 8) | ((with_reducible refine gate_callee (f := 17) rfl ?_); refine goesL_ (some 70) rfl rfl Try.func17 (by kernel_rfl) rfl #[.agg #[.int .i64 t279, .int .i64 t280, .int .i64 t281], .agg #[.int .i64 t290, .int .i64 t291, .int .i64 t292]] rfl (by (try simp only [List.map_toArray, List.map_cons, List.map_nil]); first | done | rfl | (simp only [List.length_drop, List.length_take]; rfl)) ?_; (with_reducible refine (address_Distance.calls kj9 t279 t280 t281 t290 t291 t292 t297 t298 _ A33.out).mono ?_); rintro e w42 ⟨rfl, hb⟩; refine ⟨_, rfl, ?_⟩; have n0_ := Aside0.mk (blk_below (g := gb283) (o := .cells #[.int .i64 t273, .int .i64 t274, .int .i64 t275, .int .i64 t276, .int .i64 t277, .int .i64 t278, .int .i64 t279, .int .i64 t280, .int .i64 t281] 27 (0, 0)) (by (with_reducible repeat (first | refine blk_drewN ?_ _ | refine blk_drew ?_ | refine blk_alloc ?_ _)); exact BK283.out) hb); have n1_ := Aside0.mk (blk_below (g := gb294) (o := .cells #[.int .i64 t284, .int .i64 t285, .int .i64 t286, .int .i64 t287, .int .i64 t288, .int .i64 t289, .int .i64 t290, .int .i64 t291, .int .i64 t292] 27 (0, 0)) (by (with_reducible repeat (first | refine blk_drewN ?_ _ | refine blk_drew ?_ | refine blk_alloc ?_ _)); exact BK294.out) hb); have n2_ := Aside0.mk (below_step (by repeat (first | (with_reducible first | exact HB.out | apply below_alloc | apply pw_below_drewN | apply below_drew1 | refine below_set ?_ GE283.out | refine below_set ?_ GE294.out) | exact HB.out)) hb); clear BK283; clear BK294; clear HB; have BK283 := n0_; have BK294 := n1_; have HB := n2_; clear n0_ n1_ n2_; (try clear hb); (try clear hb2); (try clear hk); (try clear hi); have hcz43_0 : w42.cell? ⟨gb283, 0, none⟩ = some (.int .i64 t273) := (blk_cell BK283.out 0).trans rfl; have hcz43_1 : w42.cell? ⟨gb283, 1, none⟩ = some (.int .i64 t274) := (blk_cell BK283.out 1).trans rfl; have hcz43_2 : w42.cell? ⟨gb283, 2, none⟩ = some (.int .i64 t275) := (blk_cell BK283.out 2).trans rfl; have hcz43_3 : w42.cell? ⟨gb283, 3, none⟩ = some (.int .i64 t276) := (blk_cell BK283.out 3).trans rfl; have hcz43_4 : w42.cell? ⟨gb283, 4, none⟩ = some (.int .i64 t277) := (blk_cell BK283.out 4).trans rfl; have hcz43_5 : w42.cell? ⟨gb283, 5, none⟩ = some (.int .i64 t278) := (blk_cell BK283.out 5).trans rfl; have hcz43_6 : w42.cell? ⟨gb283, 6, none⟩ = some (.int .i64 t279) := (blk_cell BK283.out 6).trans rfl; have hcz43_7 : w42.cell? ⟨gb283, 7, none⟩ = some (.int .i64 t280) := (blk_cell BK283.out 7).trans rfl; have hcz43_8 : w42.cell? ⟨gb283, 8, none⟩ = some (.int .i64 t281) := (blk_cell BK283.out 8).trans rfl; have hfz43_0 := blk_frozen BK283.out 0; have hfz43_1 := blk_frozen BK283.out 1; have hfz43_2 := blk_frozen BK283.out 2; have hfz43_3 := blk_frozen BK283.out 3; have hfz43_4 := blk_frozen BK283.out 4; have hfz43_5 := blk_frozen BK283.out 5; have hfz43_6 := blk_frozen BK283.out 6; have hfz43_7 := blk_frozen BK283.out 7; have hfz43_8 := blk_frozen BK283.out 8; have hcz44_0 : w42.cell? ⟨gb294, 0, none⟩ = some (.int .i64 t284) := (blk_cell BK294.out 0).trans rfl; have hcz44_1 : w42.cell? ⟨gb294, 1, none⟩ = some (.int .i64 t285) := (blk_cell BK294.out 1).trans rfl; have hcz44_2 : w42.cell? ⟨gb294, 2, none⟩ = some (.int .i64 t286) := (blk_cell BK294.out 2).trans rfl; have hcz44_3 : w42.cell? ⟨gb294, 3, none⟩ = some (.int .i64 t287) := (blk_cell BK294.out 3).trans rfl; have hcz44_4 : w42.cell? ⟨gb294, 4, none⟩ = some (.int .i64 t288) := (blk_cell BK294.out 4).trans rfl; have hcz44_5 : w42.cell? ⟨gb294, 5, none⟩ = some (.int .i64 t289) := (blk_cell BK294.out 5).trans rfl; have hcz44_6 : w42.cell? ⟨gb294, 6, none⟩ = some (.int .i64 t290) := (blk_cell BK294.out 6).trans rfl; have hcz44_7 : w42.cell? ⟨gb294, 7, none⟩ = some (.int .i64 t291) := (blk_cell BK294.out 7).trans rfl; have hcz44_8 : w42.cell? ⟨gb294, 8, none⟩ = some (.int .i64 t292) := (blk_cell BK294.out 8).trans rfl; have hfz44_0 := blk_frozen BK294.out 0; have hfz44_1 := blk_frozen BK294.out 1; have hfz44_2 := blk_frozen BK294.out 2; have hfz44_3 := blk_frozen BK294.out 3; have hfz44_4 := blk_frozen BK294.out 4; have hfz44_5 := blk_frozen BK294.out 5; have hfz44_6 := blk_frozen BK294.out 6; have hfz44_7 := blk_frozen BK294.out 7; have hfz44_8 := blk_frozen BK294.out 8) | ((with_reducible refine gate_callee (f := 17) rfl ?_); refine goesL_ (some 78) rfl rfl Try.func17 (by kernel_rfl) rfl #[.agg #[.int .i64 t276, .int .i64 t277, .int .i64 t278], .agg #[.int .i64 t287, .int .i64 t288, .int .i64 t289]] rfl (by (try simp only [List.map_toArray, List.map_cons, List.map_nil]); first | done | rfl | (simp only [List.length_drop, List.length_take]; rfl)) ?_; (with_reducible refine (address_Distance.calls kj9 t276 t277 t278 t287 t288 t289 t299 t300 _ A34.out).mono ?_); rintro e w45 ⟨rfl, hb⟩; refine ⟨_, rfl, ?_⟩; have n0_ := Aside0.mk (blk_below (g := gb283) (o := .cells #[.int .i64 t273, .int .i64 t274, .int .i64 t275, .int .i64 t276, .int .i64 t277, .int .i64 t278, .int .i64 t279, .int .i64 t280, .int .i64 t281] 27 (0, 0)) (by (with_reducible repeat (first | refine blk_drewN ?_ _ | refine blk_drew ?_ | refine blk_alloc ?_ _)); exact BK283.out) hb); have n1_ := Aside0.mk (blk_below (g := gb294) (o := .cells #[.int .i64 t284, .int .i64 t285, .int .i64 t286, .int .i64 t287, .int .i64 t288, .int .i64 t289, .int .i64 t290, .int .i64 t291, .int .i64 t292] 27 (0, 0)) (by (with_reducible repeat (first | refine blk_drewN ?_ _ | refine blk_drew ?_ | refine blk_alloc ?_ _)); exact BK294.out) hb); have n2_ := Aside0.mk (below_step (by repeat (first | (with_reducible first | exact HB.out | apply below_alloc | apply pw_below_drewN | apply below_drew1 | refine below_set ?_ GE283.out | refine below_set ?_ GE294.out) | exact HB.out)) hb); clear BK283; clear BK294; clear HB; have BK283 := n0_; have BK294 := n1_; have HB := n2_; clear n0_ n1_ n2_; (try clear hb); (try clear hb2); (try clear hk); (try clear hi); have hcz46_0 : w45.cell? ⟨gb283, 0, none⟩ = some (.int .i64 t273) := (blk_cell BK283.out 0).trans rfl; have hcz46_1 : w45.cell? ⟨gb283, 1, none⟩ = some (.int .i64 t274) := (blk_cell BK283.out 1).trans rfl; have hcz46_2 : w45.cell? ⟨gb283, 2, none⟩ = some (.int .i64 t275) := (blk_cell BK283.out 2).trans rfl; have hcz46_3 : w45.cell? ⟨gb283, 3, none⟩ = some (.int .i64 t276) := (blk_cell BK283.out 3).trans rfl; have hcz46_4 : w45.cell? ⟨gb283, 4, none⟩ = some (.int .i64 t277) := (blk_cell BK283.out 4).trans rfl; have hcz46_5 : w45.cell? ⟨gb283, 5, none⟩ = some (.int .i64 t278) := (blk_cell BK283.out 5).trans rfl; have hcz46_6 : w45.cell? ⟨gb283, 6, none⟩ = some (.int .i64 t279) := (blk_cell BK283.out 6).trans rfl; have hcz46_7 : w45.cell? ⟨gb283, 7, none⟩ = some (.int .i64 t280) := (blk_cell BK283.out 7).trans rfl; have hcz46_8 : w45.cell? ⟨gb283, 8, none⟩ = some (.int .i64 t281) := (blk_cell BK283.out 8).trans rfl; have hfz46_0 := blk_frozen BK283.out 0; have hfz46_1 := blk_frozen BK283.out 1; have hfz46_2 := blk_frozen BK283.out 2; have hfz46_3 := blk_frozen BK283.out 3; have hfz46_4 := blk_frozen BK283.out 4; have hfz46_5 := blk_frozen BK283.out 5; have hfz46_6 := blk_frozen BK283.out 6; have hfz46_7 := blk_frozen BK283.out 7; have hfz46_8 := blk_frozen BK283.out 8) | ((with_reducible refine gate_callee (f := 18) rfl ?_); refine goesL_ (some 83) rfl rfl Try.func18 (by kernel_rfl) rfl #[.agg #[.int .i64 t273, .int .i64 t274, .int .i64 t275, .int .i64 t276, .int .i64 t277, .int .i64 t278, .int .i64 t279, .int .i64 t280, .int .i64 t281]] rfl (by (try simp only [List.map_toArray, List.map_cons, List.map_nil]); first | done | rfl | (simp only [List.length_drop, List.length_take]; rfl)) ?_; (with_reducible refine (subchannel_Encode.calls t273 t274 t275 t276 t277 t278 t279 t280 t281 t301 t302 _ A35.out).mono ?_); rintro e w47 ⟨rfl, hb⟩; refine ⟨_, rfl, ?_⟩; have n0_ := Aside0.mk (blk_below (g := gb283) (o := .cells #[.int .i64 t273, .int .i64 t274, .int .i64 t275, .int .i64 t276, .int .i64 t277, .int .i64 t278, .int .i64 t279, .int .i64 t280, .int .i64 t281] 27 (0, 0)) (by (with_reducible repeat (first | refine blk_drewN ?_ _ | refine blk_drew ?_ | refine blk_alloc ?_ _)); exact BK283.out) hb); have n1_ := Aside0.mk (blk_below (g := gb294) (o := .cells #[.int .i64 t284, .int .i64 t285, .int .i64 t286, .int .i64 t287, .int .i64 t288, .int .i64 t289, .int .i64 t290, .int .i64 t291, .int .i64 t292] 27 (0, 0)) (by (with_reducible repeat (first | refine blk_drewN ?_ _ | refine blk_drew ?_ | refine blk_alloc ?_ _)); exact BK294.out) hb); have n2_ := Aside0.mk (below_step (by repeat (first | (with_reducible first | exact HB.out | apply below_alloc | apply pw_below_drewN | apply below_drew1 | refine below_set ?_ GE283.out | refine below_set ?_ GE294.out) | exact HB.out)) hb); clear BK283; clear BK294; clear HB; have BK283 := n0_; have BK294 := n1_; have HB := n2_; clear n0_ n1_ n2_; (try clear hb); (try clear hb2); (try clear hk); (try clear hi)))
         (try simp only [Act.put, List.setIfInBounds_toArray, List.set_cons_zero, List.set_cons_succ])
         go_cut [108] (fun v108 wc => ∃ (kq : Nat) (x108_35 : Bool), v108 = .bool x108_35 ∧ Aside0 (masterdisclaw10_SubchannelCounts.j1 kq t299 x108_35 t273 t274 t275 t276 t277 t278 t279 t280 t281 t284 t285 t286 t287 t288 t289 t290 t291 t292 = some r) ∧ Aside0 (kq ≤ kj9) ∧ Aside0 (wc.heap[gb283]? = some (.cells #[.int .i64 t273, .int .i64 t274, .int .i64 t275, .int .i64 t276, .int .i64 t277, .int .i64 t278, .int .i64 t279, .int .i64 t280, .int .i64 t281] 27 (0, 0))) ∧ Aside0 (wc.heap[gb294]? = some (.cells #[.int .i64 t284, .int .i64 t285, .int .i64 t286, .int .i64 t287, .int .i64 t288, .int .i64 t289, .int .i64 t290, .int .i64 t291, .int .i64 t292] 27 (0, 0))) ∧ Aside0 (Below w.heap.size w wc))
         case first =>
          have H := HC36.out
          clear HC36
          by_cases c48 : t302 = 0
          · rw [if_pos c48] at H
            have c48b0 : (t302 == 0) = true := beq_iff_eq.mpr c48
            have c48b1 : (t302 != 0) = false := bne_eq_false_iff_eq.mpr c48
            clear c48
            (first | rw [c48b0] | (simp only [i64_w, i32_w]; rw [c48b0]) | skip)
            by_cases c49 : t295 = a2
            · rw [if_pos c49] at H
              have c49b0 : (t295 == a2) = true := beq_iff_eq.mpr c49
              have c49b1 : (t295 != a2) = false := bne_eq_false_iff_eq.mpr c49
              clear c49
              by_cases c50 : t296 = 0
              · rw [if_pos c50] at H
                have c50b0 : (t296 == 0) = true := beq_iff_eq.mpr c50
                have c50b1 : (t296 != 0) = false := bne_eq_false_iff_eq.mpr c50
                clear c50
                by_cases c51 : t297 = 1
                · rw [if_pos c51] at H
                  have c51b0 : (t297 == 1) = true := beq_iff_eq.mpr c51
                  have c51b1 : (t297 != 1) = false := bne_eq_false_iff_eq.mpr c51
                  clear c51
                  by_cases c52 : t298 = 0
                  · rw [if_pos c52] at H
                    have c52b0 : (t298 == 0) = true := beq_iff_eq.mpr c52
                    have c52b1 : (t298 != 0) = false := bne_eq_false_iff_eq.mpr c52
                    clear c52
                    have H' := Aside0.mk H
                    clear H
                    go_wp2
                    go_meet
                    case rel => exact ⟨_, ((t300 != 0)), (by first | rfl | (simp; done) | (simp [*]; done)), H', ⟨by have := HJ9.out; first | omega | exact Nat.le_refl _⟩, ⟨by (with_reducible repeat (first | refine blk_drewN ?_ _ | refine blk_drew ?_ | refine blk_alloc ?_ _)); exact BK283.out⟩, ⟨by (with_reducible repeat (first | refine blk_drewN ?_ _ | refine blk_drew ?_ | refine blk_alloc ?_ _)); exact BK294.out⟩, ⟨by repeat (first | (with_reducible first | exact HB.out | apply below_alloc | apply pw_below_drewN | apply below_drew1 | refine below_set ?_ GE283.out | refine below_set ?_ GE294.out) | exact HB.out)⟩⟩
                  · rw [if_neg c52] at H
                    have c52b0 : (t298 == 0) = false := beq_eq_false_iff_ne.mpr c52
                    have c52b1 : (t298 != 0) = true := bne_iff_ne.mpr c52
                    have H' := Aside0.mk H
                    clear H
                    go_wp2
                    go_meet
                    case rel => exact ⟨_, (true), (by first | rfl | (simp; done) | (simp [*]; done)), H', ⟨by have := HJ9.out; first | omega | exact Nat.le_refl _⟩, ⟨by (with_reducible repeat (first | refine blk_drewN ?_ _ | refine blk_drew ?_ | refine blk_alloc ?_ _)); exact BK283.out⟩, ⟨by (with_reducible repeat (first | refine blk_drewN ?_ _ | refine blk_drew ?_ | refine blk_alloc ?_ _)); exact BK294.out⟩, ⟨by repeat (first | (with_reducible first | exact HB.out | apply below_alloc | apply pw_below_drewN | apply below_drew1 | refine below_set ?_ GE283.out | refine below_set ?_ GE294.out) | exact HB.out)⟩⟩
                · rw [if_neg c51] at H
                  have c51b0 : (t297 == 1) = false := beq_eq_false_iff_ne.mpr c51
                  have c51b1 : (t297 != 1) = true := bne_iff_ne.mpr c51
                  have H' := Aside0.mk H
                  clear H
                  go_wp2
                  go_meet
                  case rel => exact ⟨_, (true), (by first | rfl | (simp; done) | (simp [*]; done)), H', ⟨by have := HJ9.out; first | omega | exact Nat.le_refl _⟩, ⟨by (with_reducible repeat (first | refine blk_drewN ?_ _ | refine blk_drew ?_ | refine blk_alloc ?_ _)); exact BK283.out⟩, ⟨by (with_reducible repeat (first | refine blk_drewN ?_ _ | refine blk_drew ?_ | refine blk_alloc ?_ _)); exact BK294.out⟩, ⟨by repeat (first | (with_reducible first | exact HB.out | apply below_alloc | apply pw_below_drewN | apply below_drew1 | refine below_set ?_ GE283.out | refine below_set ?_ GE294.out) | exact HB.out)⟩⟩
              · rw [if_neg c50] at H
                have c50b0 : (t296 == 0) = false := beq_eq_false_iff_ne.mpr c50
                have c50b1 : (t296 != 0) = true := bne_iff_ne.mpr c50
                have H' := Aside0.mk H
                clear H
                go_wp2
                go_meet
                case rel => exact ⟨_, (true), (by first | rfl | (simp; done) | (simp [*]; done)), H', ⟨by have := HJ9.out; first | omega | exact Nat.le_refl _⟩, ⟨by (with_reducible repeat (first | refine blk_drewN ?_ _ | refine blk_drew ?_ | refine blk_alloc ?_ _)); exact BK283.out⟩, ⟨by (with_reducible repeat (first | refine blk_drewN ?_ _ | refine blk_drew ?_ | refine blk_alloc ?_ _)); exact BK294.out⟩, ⟨by repeat (first | (with_reducible first | exact HB.out | apply below_alloc | apply pw_below_drewN | apply below_drew1 | refine below_set ?_ GE283.out | refine below_set ?_ GE294.out) | exact HB.out)⟩⟩
            · rw [if_neg c49] at H
              have c49b0 : (t295 == a2) = false := beq_eq_false_iff_ne.mpr c49
              have c49b1 : (t295 != a2) = true := bne_iff_ne.mpr c49
              have H' := Aside0.mk H
              clear H
              go_wp2
              go_meet
              case rel => exact ⟨_, (true), (by first | rfl | (simp; done) | (simp [*]; done)), H', ⟨by have := HJ9.out; first | omega | exact Nat.le_refl _⟩, ⟨by (with_reducible repeat (first | refine blk_drewN ?_ _ | refine blk_drew ?_ | refine blk_alloc ?_ _)); exact BK283.out⟩, ⟨by (with_reducible repeat (first | refine blk_drewN ?_ _ | refine blk_drew ?_ | refine blk_alloc ?_ _)); exact BK294.out⟩, ⟨by repeat (first | (with_reducible first | exact HB.out | apply below_alloc | apply pw_below_drewN | apply below_drew1 | refine below_set ?_ GE283.out | refine below_set ?_ GE294.out) | exact HB.out)⟩⟩
          · rw [if_neg c48] at H
            have c48b0 : (t302 == 0) = false := beq_eq_false_iff_ne.mpr c48
            have c48b1 : (t302 != 0) = true := bne_iff_ne.mpr c48
            (first | rw [c48b0] | (simp only [i64_w, i32_w]; rw [c48b0]) | skip)
            have H' := Aside0.mk H
            clear H
            go_wp2
            go_meet
            case rel => exact ⟨_, (true), (by first | rfl | (simp; done) | (simp [*]; done)), H', ⟨by have := HJ9.out; first | omega | exact Nat.le_refl _⟩, ⟨by (with_reducible repeat (first | refine blk_drewN ?_ _ | refine blk_drew ?_ | refine blk_alloc ?_ _)); exact BK283.out⟩, ⟨by (with_reducible repeat (first | refine blk_drewN ?_ _ | refine blk_drew ?_ | refine blk_alloc ?_ _)); exact BK294.out⟩, ⟨by repeat (first | (with_reducible first | exact HB.out | apply below_alloc | apply pw_below_drewN | apply below_drew1 | refine below_set ?_ GE283.out | refine below_set ?_ GE294.out) | exact HB.out)⟩⟩
         case rest =>
          clear HC36
          try clear c1
          try clear c2
          try clear p2
          try clear c3
          try clear c4
          try clear c5
          try clear c6
          try clear c6b0
          try clear c6b1
          try clear p6
          try clear c10
          try clear c11
          try clear c16
          try clear c17
          try clear c18
          try clear c19
          try clear c19b0
          try clear c19b1
          try clear c20
          try clear c21
          try clear c21b0
          try clear c21b1
          try clear c22
          try clear c22b0
          try clear c22b1
          try clear c23
          try clear c25
          try clear c25b0
          try clear c25b1
          try clear c25b2
          try clear c26
          try clear c26b0
          try clear c26b1
          try clear c27
          try clear c29
          try clear c37
          try clear c48
          try clear c48b0
          try clear c48b1
          try clear c49
          try clear c49b0
          try clear c49b1
          try clear c50
          try clear c50b0
          try clear c50b1
          try clear c51
          try clear c51b0
          try clear c51b1
          try clear c52
          try clear c52b0
          try clear c52b1
          try clear hcz14_0
          try clear hcz14_1
          try clear hcz14_2
          try clear hcz14_3
          try clear hcz14_4
          try clear hcz14_5
          try clear hcz14_6
          try clear hcz14_7
          try clear hcz14_8
          try clear hcz18_0
          try clear hcz18_1
          try clear hcz18_2
          try clear hcz18_3
          try clear hcz18_4
          try clear hcz18_5
          try clear hcz18_6
          try clear hcz18_7
          try clear hcz18_8
          try clear hcz24_0
          try clear hcz24_1
          try clear hcz24_2
          try clear hcz24_3
          try clear hcz24_4
          try clear hcz24_5
          try clear hcz24_6
          try clear hcz24_7
          try clear hcz24_8
          try clear hcz28_0
          try clear hcz28_1
          try clear hcz28_2
          try clear hcz28_3
          try clear hcz28_4
          try clear hcz28_5
          try clear hcz28_6
          try clear hcz28_7
          try clear hcz28_8
          try clear hcz30_0
          try clear hcz30_1
          try clear hcz30_2
          try clear hcz30_3
          try clear hcz30_4
          try clear hcz30_5
          try clear hcz30_6
          try clear hcz30_7
          try clear hcz30_8
          try clear hcz31_0
          try clear hcz31_1
          try clear hcz31_2
          try clear hcz31_3
          try clear hcz31_4
          try clear hcz31_5
          try clear hcz31_6
          try clear hcz31_7
          try clear hcz31_8
          try clear hcz38_0
          try clear hcz38_1
          try clear hcz38_2
          try clear hcz38_3
          try clear hcz38_4
          try clear hcz38_5
          try clear hcz38_6
          try clear hcz38_7
          try clear hcz38_8
          try clear hcz40_0
          try clear hcz40_1
          try clear hcz40_2
          try clear hcz40_3
          try clear hcz40_4
          try clear hcz40_5
          try clear hcz40_6
          try clear hcz40_7
          try clear hcz40_8
          try clear hcz41_0
          try clear hcz41_1
          try clear hcz41_2
          try clear hcz41_3
          try clear hcz41_4
          try clear hcz41_5
          try clear hcz41_6
          try clear hcz41_7
          try clear hcz41_8
          try clear hcz43_0
          try clear hcz43_1
          try clear hcz43_2
          try clear hcz43_3
          try clear hcz43_4
          try clear hcz43_5
          try clear hcz43_6
          try clear hcz43_7
          try clear hcz43_8
          try clear hcz44_0
          try clear hcz44_1
          try clear hcz44_2
          try clear hcz44_3
          try clear hcz44_4
          try clear hcz44_5
          try clear hcz44_6
          try clear hcz44_7
          try clear hcz44_8
          try clear hcz46_0
          try clear hcz46_1
          try clear hcz46_2
          try clear hcz46_3
          try clear hcz46_4
          try clear hcz46_5
          try clear hcz46_6
          try clear hcz46_7
          try clear hcz46_8
          try clear hfz14_0
          try clear hfz14_1
          try clear hfz14_2
          try clear hfz14_3
          try clear hfz14_4
          try clear hfz14_5
          try clear hfz14_6
          try clear hfz14_7
          try clear hfz14_8
          try clear hfz18_0
          try clear hfz18_1
          try clear hfz18_2
          try clear hfz18_3
          try clear hfz18_4
          try clear hfz18_5
          try clear hfz18_6
          try clear hfz18_7
          try clear hfz18_8
          try clear hfz24_0
          try clear hfz24_1
          try clear hfz24_2
          try clear hfz24_3
          try clear hfz24_4
          try clear hfz24_5
          try clear hfz24_6
          try clear hfz24_7
          try clear hfz24_8
          try clear hfz28_0
          try clear hfz28_1
          try clear hfz28_2
          try clear hfz28_3
          try clear hfz28_4
          try clear hfz28_5
          try clear hfz28_6
          try clear hfz28_7
          try clear hfz28_8
          try clear hfz30_0
          try clear hfz30_1
          try clear hfz30_2
          try clear hfz30_3
          try clear hfz30_4
          try clear hfz30_5
          try clear hfz30_6
          try clear hfz30_7
          try clear hfz30_8
          try clear hfz31_0
          try clear hfz31_1
          try clear hfz31_2
          try clear hfz31_3
          try clear hfz31_4
          try clear hfz31_5
          try clear hfz31_6
          try clear hfz31_7
          try clear hfz31_8
          try clear hfz38_0
          try clear hfz38_1
          try clear hfz38_2
          try clear hfz38_3
          try clear hfz38_4
          try clear hfz38_5
          try clear hfz38_6
          try clear hfz38_7
          try clear hfz38_8
          try clear hfz40_0
          try clear hfz40_1
          try clear hfz40_2
          try clear hfz40_3
          try clear hfz40_4
          try clear hfz40_5
          try clear hfz40_6
          try clear hfz40_7
          try clear hfz40_8
          try clear hfz41_0
          try clear hfz41_1
          try clear hfz41_2
          try clear hfz41_3
          try clear hfz41_4
          try clear hfz41_5
          try clear hfz41_6
          try clear hfz41_7
          try clear hfz41_8
          try clear hfz43_0
          try clear hfz43_1
          try clear hfz43_2
          try clear hfz43_3
          try clear hfz43_4
          try clear hfz43_5
          try clear hfz43_6
          try clear hfz43_7
          try clear hfz43_8
          try clear hfz44_0
          try clear hfz44_1
          try clear hfz44_2
          try clear hfz44_3
          try clear hfz44_4
          try clear hfz44_5
          try clear hfz44_6
          try clear hfz44_7
          try clear hfz44_8
          try clear hfz46_0
          try clear hfz46_1
          try clear hfz46_2
          try clear hfz46_3
          try clear hfz46_4
          try clear hfz46_5
          try clear hfz46_6
          try clear hfz46_7
          try clear hfz46_8
          try clear p2
          try clear p6
          obtain ⟨kq, x108_35, rfl, HA, HJ35, BK283, BK294, HB⟩ := hcut
          cases kq with
          | zero => exact absurd HA.out (by simp [masterdisclaw10_SubchannelCounts.j1])
          | succ kj35 =>
           have H := HA.out
           clear HA
           simp only [masterdisclaw10_SubchannelCounts.j1] at H
           by_cases c53 : x108_35 = true
           · subst c53
             have H1 : (none) = some r := by rw [if_pos rfl] at H; exact H
             clear H
             have H := H1
             clear H1
             exact absurd H (by simp)
           · replace c53 := Bool.eq_false_iff.mpr c53
             subst c53
             have H1 : (if t274 = t285 then (if t275 = t286 then (if t275 = 1 then (if t299 = 1 then (some true) else (if t275 = 0 then (some (t299 == (-1))) else (none))) else (if t275 = 0 then (some (t299 == (-1))) else (none))) else (if t286 = 0 then (some true) else (some (t287 == 0 && (t288 == 0 && (t289 == 0)))))) else (if t286 = 0 then (some true) else (some (t287 == 0 && (t288 == 0 && (t289 == 0)))))) = some r := by rw [if_neg (show ¬ (false = true) by decide)] at H; exact H
             clear H
             have H := H1
             clear H1
             by_cases c54 : t274 = t285
             · rw [if_pos c54] at H
               have c54b0 : (t274 == t285) = true := beq_iff_eq.mpr c54
               have c54b1 : (t274 != t285) = false := bne_eq_false_iff_eq.mpr c54
               clear c54
               by_cases c55 : t275 = t286
               · rw [if_pos c55] at H
                 have c55b0 : (t275 == t286) = true := beq_iff_eq.mpr c55
                 have c55b1 : (t275 != t286) = false := bne_eq_false_iff_eq.mpr c55
                 clear c55
                 by_cases c56 : t275 = 1
                 · rw [if_pos c56] at H
                   have c56b0 : (t275 == 1) = true := beq_iff_eq.mpr c56
                   have c56b1 : (t275 != 1) = false := bne_eq_false_iff_eq.mpr c56
                   clear c56
                   by_cases c57 : t299 = 1
                   · rw [if_pos c57] at H
                     have c57b0 : (t299 == 1) = true := beq_iff_eq.mpr c57
                     have c57b1 : (t299 != 1) = false := bne_eq_false_iff_eq.mpr c57
                     clear c57
                     obtain rfl := Option.some.inj H
                     have hnb58 := NB283_294.out
                     have hnc58 := NB294_283.out
                     have hcz59_0 : wc.cell? ⟨gb283, 0, none⟩ = some (.int .i64 t273) := (blk_cell BK283.out 0).trans rfl
                     have hcz59_1 : wc.cell? ⟨gb283, 1, none⟩ = some (.int .i64 t274) := (blk_cell BK283.out 1).trans rfl
                     have hcz59_2 : wc.cell? ⟨gb283, 2, none⟩ = some (.int .i64 t275) := (blk_cell BK283.out 2).trans rfl
                     have hcz59_3 : wc.cell? ⟨gb283, 3, none⟩ = some (.int .i64 t276) := (blk_cell BK283.out 3).trans rfl
                     have hcz59_4 : wc.cell? ⟨gb283, 4, none⟩ = some (.int .i64 t277) := (blk_cell BK283.out 4).trans rfl
                     have hcz59_5 : wc.cell? ⟨gb283, 5, none⟩ = some (.int .i64 t278) := (blk_cell BK283.out 5).trans rfl
                     have hcz59_6 : wc.cell? ⟨gb283, 6, none⟩ = some (.int .i64 t279) := (blk_cell BK283.out 6).trans rfl
                     have hcz59_7 : wc.cell? ⟨gb283, 7, none⟩ = some (.int .i64 t280) := (blk_cell BK283.out 7).trans rfl
                     have hcz59_8 : wc.cell? ⟨gb283, 8, none⟩ = some (.int .i64 t281) := (blk_cell BK283.out 8).trans rfl
                     have hfz59_0 := blk_frozen BK283.out 0
                     have hfz59_1 := blk_frozen BK283.out 1
                     have hfz59_2 := blk_frozen BK283.out 2
                     have hfz59_3 := blk_frozen BK283.out 3
                     have hfz59_4 := blk_frozen BK283.out 4
                     have hfz59_5 := blk_frozen BK283.out 5
                     have hfz59_6 := blk_frozen BK283.out 6
                     have hfz59_7 := blk_frozen BK283.out 7
                     have hfz59_8 := blk_frozen BK283.out 8
                     have hcz60_0 : wc.cell? ⟨gb294, 0, none⟩ = some (.int .i64 t284) := (blk_cell BK294.out 0).trans rfl
                     have hcz60_1 : wc.cell? ⟨gb294, 1, none⟩ = some (.int .i64 t285) := (blk_cell BK294.out 1).trans rfl
                     have hcz60_2 : wc.cell? ⟨gb294, 2, none⟩ = some (.int .i64 t286) := (blk_cell BK294.out 2).trans rfl
                     have hcz60_3 : wc.cell? ⟨gb294, 3, none⟩ = some (.int .i64 t287) := (blk_cell BK294.out 3).trans rfl
                     have hcz60_4 : wc.cell? ⟨gb294, 4, none⟩ = some (.int .i64 t288) := (blk_cell BK294.out 4).trans rfl
                     have hcz60_5 : wc.cell? ⟨gb294, 5, none⟩ = some (.int .i64 t289) := (blk_cell BK294.out 5).trans rfl
                     have hcz60_6 : wc.cell? ⟨gb294, 6, none⟩ = some (.int .i64 t290) := (blk_cell BK294.out 6).trans rfl
                     have hcz60_7 : wc.cell? ⟨gb294, 7, none⟩ = some (.int .i64 t291) := (blk_cell BK294.out 7).trans rfl
                     have hcz60_8 : wc.cell? ⟨gb294, 8, none⟩ = some (.int .i64 t292) := (blk_cell BK294.out 8).trans rfl
                     have hfz60_0 := blk_frozen BK294.out 0
                     have hfz60_1 := blk_frozen BK294.out 1
                     have hfz60_2 := blk_frozen BK294.out 2
                     have hfz60_3 := blk_frozen BK294.out 3
                     have hfz60_4 := blk_frozen BK294.out 4
                     have hfz60_5 := blk_frozen BK294.out 5
                     have hfz60_6 := blk_frozen BK294.out 6
                     have hfz60_7 := blk_frozen BK294.out 7
                     have hfz60_8 := blk_frozen BK294.out 8
                     go_wp2
                     go_ret
                     exact ⟨by first | rfl | (simp [errW_none, errW_some] <;> rfl) | (simp [*, errW_none, errW_some] <;> rfl), by repeat (first | (with_reducible first | exact HB.out | apply below_alloc | apply pw_below_drewN | apply below_drew1 | refine below_set ?_ GE283.out | refine below_set ?_ GE294.out) | exact HB.out)⟩
                   · rw [if_neg c57] at H
                     have c57b0 : (t299 == 1) = false := beq_eq_false_iff_ne.mpr c57
                     have c57b1 : (t299 != 1) = true := bne_iff_ne.mpr c57
                     by_cases c61 : t275 = 0
                     · rw [if_pos c61] at H
                       have c61b0 : (t275 == 0) = true := beq_iff_eq.mpr c61
                       have c61b1 : (t275 != 0) = false := bne_eq_false_iff_eq.mpr c61
                       clear c61
                       obtain rfl := Option.some.inj H
                       have hnb62 := NB283_294.out
                       have hnc62 := NB294_283.out
                       have hcz63_0 : wc.cell? ⟨gb283, 0, none⟩ = some (.int .i64 t273) := (blk_cell BK283.out 0).trans rfl
                       have hcz63_1 : wc.cell? ⟨gb283, 1, none⟩ = some (.int .i64 t274) := (blk_cell BK283.out 1).trans rfl
                       have hcz63_2 : wc.cell? ⟨gb283, 2, none⟩ = some (.int .i64 t275) := (blk_cell BK283.out 2).trans rfl
                       have hcz63_3 : wc.cell? ⟨gb283, 3, none⟩ = some (.int .i64 t276) := (blk_cell BK283.out 3).trans rfl
                       have hcz63_4 : wc.cell? ⟨gb283, 4, none⟩ = some (.int .i64 t277) := (blk_cell BK283.out 4).trans rfl
                       have hcz63_5 : wc.cell? ⟨gb283, 5, none⟩ = some (.int .i64 t278) := (blk_cell BK283.out 5).trans rfl
                       have hcz63_6 : wc.cell? ⟨gb283, 6, none⟩ = some (.int .i64 t279) := (blk_cell BK283.out 6).trans rfl
                       have hcz63_7 : wc.cell? ⟨gb283, 7, none⟩ = some (.int .i64 t280) := (blk_cell BK283.out 7).trans rfl
                       have hcz63_8 : wc.cell? ⟨gb283, 8, none⟩ = some (.int .i64 t281) := (blk_cell BK283.out 8).trans rfl
                       have hfz63_0 := blk_frozen BK283.out 0
                       have hfz63_1 := blk_frozen BK283.out 1
                       have hfz63_2 := blk_frozen BK283.out 2
                       have hfz63_3 := blk_frozen BK283.out 3
                       have hfz63_4 := blk_frozen BK283.out 4
                       have hfz63_5 := blk_frozen BK283.out 5
                       have hfz63_6 := blk_frozen BK283.out 6
                       have hfz63_7 := blk_frozen BK283.out 7
                       have hfz63_8 := blk_frozen BK283.out 8
                       have hcz64_0 : wc.cell? ⟨gb294, 0, none⟩ = some (.int .i64 t284) := (blk_cell BK294.out 0).trans rfl
                       have hcz64_1 : wc.cell? ⟨gb294, 1, none⟩ = some (.int .i64 t285) := (blk_cell BK294.out 1).trans rfl
                       have hcz64_2 : wc.cell? ⟨gb294, 2, none⟩ = some (.int .i64 t286) := (blk_cell BK294.out 2).trans rfl
                       have hcz64_3 : wc.cell? ⟨gb294, 3, none⟩ = some (.int .i64 t287) := (blk_cell BK294.out 3).trans rfl
                       have hcz64_4 : wc.cell? ⟨gb294, 4, none⟩ = some (.int .i64 t288) := (blk_cell BK294.out 4).trans rfl
                       have hcz64_5 : wc.cell? ⟨gb294, 5, none⟩ = some (.int .i64 t289) := (blk_cell BK294.out 5).trans rfl
                       have hcz64_6 : wc.cell? ⟨gb294, 6, none⟩ = some (.int .i64 t290) := (blk_cell BK294.out 6).trans rfl
                       have hcz64_7 : wc.cell? ⟨gb294, 7, none⟩ = some (.int .i64 t291) := (blk_cell BK294.out 7).trans rfl
                       have hcz64_8 : wc.cell? ⟨gb294, 8, none⟩ = some (.int .i64 t292) := (blk_cell BK294.out 8).trans rfl
                       have hfz64_0 := blk_frozen BK294.out 0
                       have hfz64_1 := blk_frozen BK294.out 1
                       have hfz64_2 := blk_frozen BK294.out 2
                       have hfz64_3 := blk_frozen BK294.out 3
                       have hfz64_4 := blk_frozen BK294.out 4
                       have hfz64_5 := blk_frozen BK294.out 5
                       have hfz64_6 := blk_frozen BK294.out 6
                       have hfz64_7 := blk_frozen BK294.out 7
                       have hfz64_8 := blk_frozen BK294.out 8
                       go_wp2
                       go_ret
                       exact ⟨by first | rfl | (simp [errW_none, errW_some] <;> rfl) | (simp [*, errW_none, errW_some] <;> rfl), by repeat (first | (with_reducible first | exact HB.out | apply below_alloc | apply pw_below_drewN | apply below_drew1 | refine below_set ?_ GE283.out | refine below_set ?_ GE294.out) | exact HB.out)⟩
                     · rw [if_neg c61] at H
                       exact absurd H (by simp)
                 · rw [if_neg c56] at H
                   have c56b0 : (t275 == 1) = false := beq_eq_false_iff_ne.mpr c56
                   have c56b1 : (t275 != 1) = true := bne_iff_ne.mpr c56
                   by_cases c65 : t275 = 0
                   · rw [if_pos c65] at H
                     have c65b0 : (t275 == 0) = true := beq_iff_eq.mpr c65
                     have c65b1 : (t275 != 0) = false := bne_eq_false_iff_eq.mpr c65
                     clear c65
                     obtain rfl := Option.some.inj H
                     have hnb66 := NB283_294.out
                     have hnc66 := NB294_283.out
                     have hcz67_0 : wc.cell? ⟨gb283, 0, none⟩ = some (.int .i64 t273) := (blk_cell BK283.out 0).trans rfl
                     have hcz67_1 : wc.cell? ⟨gb283, 1, none⟩ = some (.int .i64 t274) := (blk_cell BK283.out 1).trans rfl
                     have hcz67_2 : wc.cell? ⟨gb283, 2, none⟩ = some (.int .i64 t275) := (blk_cell BK283.out 2).trans rfl
                     have hcz67_3 : wc.cell? ⟨gb283, 3, none⟩ = some (.int .i64 t276) := (blk_cell BK283.out 3).trans rfl
                     have hcz67_4 : wc.cell? ⟨gb283, 4, none⟩ = some (.int .i64 t277) := (blk_cell BK283.out 4).trans rfl
                     have hcz67_5 : wc.cell? ⟨gb283, 5, none⟩ = some (.int .i64 t278) := (blk_cell BK283.out 5).trans rfl
                     have hcz67_6 : wc.cell? ⟨gb283, 6, none⟩ = some (.int .i64 t279) := (blk_cell BK283.out 6).trans rfl
                     have hcz67_7 : wc.cell? ⟨gb283, 7, none⟩ = some (.int .i64 t280) := (blk_cell BK283.out 7).trans rfl
                     have hcz67_8 : wc.cell? ⟨gb283, 8, none⟩ = some (.int .i64 t281) := (blk_cell BK283.out 8).trans rfl
                     have hfz67_0 := blk_frozen BK283.out 0
                     have hfz67_1 := blk_frozen BK283.out 1
                     have hfz67_2 := blk_frozen BK283.out 2
                     have hfz67_3 := blk_frozen BK283.out 3
                     have hfz67_4 := blk_frozen BK283.out 4
                     have hfz67_5 := blk_frozen BK283.out 5
                     have hfz67_6 := blk_frozen BK283.out 6
                     have hfz67_7 := blk_frozen BK283.out 7
                     have hfz67_8 := blk_frozen BK283.out 8
                     have hcz68_0 : wc.cell? ⟨gb294, 0, none⟩ = some (.int .i64 t284) := (blk_cell BK294.out 0).trans rfl
                     have hcz68_1 : wc.cell? ⟨gb294, 1, none⟩ = some (.int .i64 t285) := (blk_cell BK294.out 1).trans rfl
                     have hcz68_2 : wc.cell? ⟨gb294, 2, none⟩ = some (.int .i64 t286) := (blk_cell BK294.out 2).trans rfl
                     have hcz68_3 : wc.cell? ⟨gb294, 3, none⟩ = some (.int .i64 t287) := (blk_cell BK294.out 3).trans rfl
                     have hcz68_4 : wc.cell? ⟨gb294, 4, none⟩ = some (.int .i64 t288) := (blk_cell BK294.out 4).trans rfl
                     have hcz68_5 : wc.cell? ⟨gb294, 5, none⟩ = some (.int .i64 t289) := (blk_cell BK294.out 5).trans rfl
                     have hcz68_6 : wc.cell? ⟨gb294, 6, none⟩ = some (.int .i64 t290) := (blk_cell BK294.out 6).trans rfl
                     have hcz68_7 : wc.cell? ⟨gb294, 7, none⟩ = some (.int .i64 t291) := (blk_cell BK294.out 7).trans rfl
                     have hcz68_8 : wc.cell? ⟨gb294, 8, none⟩ = some (.int .i64 t292) := (blk_cell BK294.out 8).trans rfl
                     have hfz68_0 := blk_frozen BK294.out 0
                     have hfz68_1 := blk_frozen BK294.out 1
                     have hfz68_2 := blk_frozen BK294.out 2
                     have hfz68_3 := blk_frozen BK294.out 3
                     have hfz68_4 := blk_frozen BK294.out 4
                     have hfz68_5 := blk_frozen BK294.out 5
                     have hfz68_6 := blk_frozen BK294.out 6
                     have hfz68_7 := blk_frozen BK294.out 7
                     have hfz68_8 := blk_frozen BK294.out 8
                     go_wp2
                     go_ret
                     exact ⟨by first | rfl | (simp [errW_none, errW_some] <;> rfl) | (simp [*, errW_none, errW_some] <;> rfl), by repeat (first | (with_reducible first | exact HB.out | apply below_alloc | apply pw_below_drewN | apply below_drew1 | refine below_set ?_ GE283.out | refine below_set ?_ GE294.out) | exact HB.out)⟩
                   · rw [if_neg c65] at H
                     exact absurd H (by simp)
               · rw [if_neg c55] at H
                 have c55b0 : (t275 == t286) = false := beq_eq_false_iff_ne.mpr c55
                 have c55b1 : (t275 != t286) = true := bne_iff_ne.mpr c55
                 by_cases c69 : t286 = 0
                 · rw [if_pos c69] at H
                   have c69b0 : (t286 == 0) = true := beq_iff_eq.mpr c69
                   have c69b1 : (t286 != 0) = false := bne_eq_false_iff_eq.mpr c69
                   clear c69
                   obtain rfl := Option.some.inj H
                   have hnb70 := NB283_294.out
                   have hnc70 := NB294_283.out
                   have hcz71_0 : wc.cell? ⟨gb283, 0, none⟩ = some (.int .i64 t273) := (blk_cell BK283.out 0).trans rfl
                   have hcz71_1 : wc.cell? ⟨gb283, 1, none⟩ = some (.int .i64 t274) := (blk_cell BK283.out 1).trans rfl
                   have hcz71_2 : wc.cell? ⟨gb283, 2, none⟩ = some (.int .i64 t275) := (blk_cell BK283.out 2).trans rfl
                   have hcz71_3 : wc.cell? ⟨gb283, 3, none⟩ = some (.int .i64 t276) := (blk_cell BK283.out 3).trans rfl
                   have hcz71_4 : wc.cell? ⟨gb283, 4, none⟩ = some (.int .i64 t277) := (blk_cell BK283.out 4).trans rfl
                   have hcz71_5 : wc.cell? ⟨gb283, 5, none⟩ = some (.int .i64 t278) := (blk_cell BK283.out 5).trans rfl
                   have hcz71_6 : wc.cell? ⟨gb283, 6, none⟩ = some (.int .i64 t279) := (blk_cell BK283.out 6).trans rfl
                   have hcz71_7 : wc.cell? ⟨gb283, 7, none⟩ = some (.int .i64 t280) := (blk_cell BK283.out 7).trans rfl
                   have hcz71_8 : wc.cell? ⟨gb283, 8, none⟩ = some (.int .i64 t281) := (blk_cell BK283.out 8).trans rfl
                   have hfz71_0 := blk_frozen BK283.out 0
                   have hfz71_1 := blk_frozen BK283.out 1
                   have hfz71_2 := blk_frozen BK283.out 2
                   have hfz71_3 := blk_frozen BK283.out 3
                   have hfz71_4 := blk_frozen BK283.out 4
                   have hfz71_5 := blk_frozen BK283.out 5
                   have hfz71_6 := blk_frozen BK283.out 6
                   have hfz71_7 := blk_frozen BK283.out 7
                   have hfz71_8 := blk_frozen BK283.out 8
                   have hcz72_0 : wc.cell? ⟨gb294, 0, none⟩ = some (.int .i64 t284) := (blk_cell BK294.out 0).trans rfl
                   have hcz72_1 : wc.cell? ⟨gb294, 1, none⟩ = some (.int .i64 t285) := (blk_cell BK294.out 1).trans rfl
                   have hcz72_2 : wc.cell? ⟨gb294, 2, none⟩ = some (.int .i64 t286) := (blk_cell BK294.out 2).trans rfl
                   have hcz72_3 : wc.cell? ⟨gb294, 3, none⟩ = some (.int .i64 t287) := (blk_cell BK294.out 3).trans rfl
                   have hcz72_4 : wc.cell? ⟨gb294, 4, none⟩ = some (.int .i64 t288) := (blk_cell BK294.out 4).trans rfl
                   have hcz72_5 : wc.cell? ⟨gb294, 5, none⟩ = some (.int .i64 t289) := (blk_cell BK294.out 5).trans rfl
                   have hcz72_6 : wc.cell? ⟨gb294, 6, none⟩ = some (.int .i64 t290) := (blk_cell BK294.out 6).trans rfl
                   have hcz72_7 : wc.cell? ⟨gb294, 7, none⟩ = some (.int .i64 t291) := (blk_cell BK294.out 7).trans rfl
                   have hcz72_8 : wc.cell? ⟨gb294, 8, none⟩ = some (.int .i64 t292) := (blk_cell BK294.out 8).trans rfl
                   have hfz72_0 := blk_frozen BK294.out 0
                   have hfz72_1 := blk_frozen BK294.out 1
                   have hfz72_2 := blk_frozen BK294.out 2
                   have hfz72_3 := blk_frozen BK294.out 3
                   have hfz72_4 := blk_frozen BK294.out 4
                   have hfz72_5 := blk_frozen BK294.out 5
                   have hfz72_6 := blk_frozen BK294.out 6
                   have hfz72_7 := blk_frozen BK294.out 7
                   have hfz72_8 := blk_frozen BK294.out 8
                   go_wp2
                   go_ret
                   exact ⟨by first | rfl | (simp [errW_none, errW_some] <;> rfl) | (simp [*, errW_none, errW_some] <;> rfl), by repeat (first | (with_reducible first | exact HB.out | apply below_alloc | apply pw_below_drewN | apply below_drew1 | refine below_set ?_ GE283.out | refine below_set ?_ GE294.out) | exact HB.out)⟩
                 · rw [if_neg c69] at H
                   have c69b0 : (t286 == 0) = false := beq_eq_false_iff_ne.mpr c69
                   have c69b1 : (t286 != 0) = true := bne_iff_ne.mpr c69
                   obtain rfl := Option.some.inj H
                   have hnb73 := NB283_294.out
                   have hnc73 := NB294_283.out
                   have hcz74_0 : wc.cell? ⟨gb283, 0, none⟩ = some (.int .i64 t273) := (blk_cell BK283.out 0).trans rfl
                   have hcz74_1 : wc.cell? ⟨gb283, 1, none⟩ = some (.int .i64 t274) := (blk_cell BK283.out 1).trans rfl
                   have hcz74_2 : wc.cell? ⟨gb283, 2, none⟩ = some (.int .i64 t275) := (blk_cell BK283.out 2).trans rfl
                   have hcz74_3 : wc.cell? ⟨gb283, 3, none⟩ = some (.int .i64 t276) := (blk_cell BK283.out 3).trans rfl
                   have hcz74_4 : wc.cell? ⟨gb283, 4, none⟩ = some (.int .i64 t277) := (blk_cell BK283.out 4).trans rfl
                   have hcz74_5 : wc.cell? ⟨gb283, 5, none⟩ = some (.int .i64 t278) := (blk_cell BK283.out 5).trans rfl
                   have hcz74_6 : wc.cell? ⟨gb283, 6, none⟩ = some (.int .i64 t279) := (blk_cell BK283.out 6).trans rfl
                   have hcz74_7 : wc.cell? ⟨gb283, 7, none⟩ = some (.int .i64 t280) := (blk_cell BK283.out 7).trans rfl
                   have hcz74_8 : wc.cell? ⟨gb283, 8, none⟩ = some (.int .i64 t281) := (blk_cell BK283.out 8).trans rfl
                   have hfz74_0 := blk_frozen BK283.out 0
                   have hfz74_1 := blk_frozen BK283.out 1
                   have hfz74_2 := blk_frozen BK283.out 2
                   have hfz74_3 := blk_frozen BK283.out 3
                   have hfz74_4 := blk_frozen BK283.out 4
                   have hfz74_5 := blk_frozen BK283.out 5
                   have hfz74_6 := blk_frozen BK283.out 6
                   have hfz74_7 := blk_frozen BK283.out 7
                   have hfz74_8 := blk_frozen BK283.out 8
                   have hcz75_0 : wc.cell? ⟨gb294, 0, none⟩ = some (.int .i64 t284) := (blk_cell BK294.out 0).trans rfl
                   have hcz75_1 : wc.cell? ⟨gb294, 1, none⟩ = some (.int .i64 t285) := (blk_cell BK294.out 1).trans rfl
                   have hcz75_2 : wc.cell? ⟨gb294, 2, none⟩ = some (.int .i64 t286) := (blk_cell BK294.out 2).trans rfl
                   have hcz75_3 : wc.cell? ⟨gb294, 3, none⟩ = some (.int .i64 t287) := (blk_cell BK294.out 3).trans rfl
                   have hcz75_4 : wc.cell? ⟨gb294, 4, none⟩ = some (.int .i64 t288) := (blk_cell BK294.out 4).trans rfl
                   have hcz75_5 : wc.cell? ⟨gb294, 5, none⟩ = some (.int .i64 t289) := (blk_cell BK294.out 5).trans rfl
                   have hcz75_6 : wc.cell? ⟨gb294, 6, none⟩ = some (.int .i64 t290) := (blk_cell BK294.out 6).trans rfl
                   have hcz75_7 : wc.cell? ⟨gb294, 7, none⟩ = some (.int .i64 t291) := (blk_cell BK294.out 7).trans rfl
                   have hcz75_8 : wc.cell? ⟨gb294, 8, none⟩ = some (.int .i64 t292) := (blk_cell BK294.out 8).trans rfl
                   have hfz75_0 := blk_frozen BK294.out 0
                   have hfz75_1 := blk_frozen BK294.out 1
                   have hfz75_2 := blk_frozen BK294.out 2
                   have hfz75_3 := blk_frozen BK294.out 3
                   have hfz75_4 := blk_frozen BK294.out 4
                   have hfz75_5 := blk_frozen BK294.out 5
                   have hfz75_6 := blk_frozen BK294.out 6
                   have hfz75_7 := blk_frozen BK294.out 7
                   have hfz75_8 := blk_frozen BK294.out 8
                   go_wp2
                   go_ret
                   exact ⟨by first | rfl | (simp [errW_none, errW_some] <;> rfl) | (simp [*, errW_none, errW_some] <;> rfl), by repeat (first | (with_reducible first | exact HB.out | apply below_alloc | apply pw_below_drewN | apply below_drew1 | refine below_set ?_ GE283.out | refine below_set ?_ GE294.out) | exact HB.out)⟩
             · rw [if_neg c54] at H
               have c54b0 : (t274 == t285) = false := beq_eq_false_iff_ne.mpr c54
               have c54b1 : (t274 != t285) = true := bne_iff_ne.mpr c54
               by_cases c76 : t286 = 0
               · rw [if_pos c76] at H
                 have c76b0 : (t286 == 0) = true := beq_iff_eq.mpr c76
                 have c76b1 : (t286 != 0) = false := bne_eq_false_iff_eq.mpr c76
                 clear c76
                 obtain rfl := Option.some.inj H
                 have hnb77 := NB283_294.out
                 have hnc77 := NB294_283.out
                 have hcz78_0 : wc.cell? ⟨gb283, 0, none⟩ = some (.int .i64 t273) := (blk_cell BK283.out 0).trans rfl
                 have hcz78_1 : wc.cell? ⟨gb283, 1, none⟩ = some (.int .i64 t274) := (blk_cell BK283.out 1).trans rfl
                 have hcz78_2 : wc.cell? ⟨gb283, 2, none⟩ = some (.int .i64 t275) := (blk_cell BK283.out 2).trans rfl
                 have hcz78_3 : wc.cell? ⟨gb283, 3, none⟩ = some (.int .i64 t276) := (blk_cell BK283.out 3).trans rfl
                 have hcz78_4 : wc.cell? ⟨gb283, 4, none⟩ = some (.int .i64 t277) := (blk_cell BK283.out 4).trans rfl
                 have hcz78_5 : wc.cell? ⟨gb283, 5, none⟩ = some (.int .i64 t278) := (blk_cell BK283.out 5).trans rfl
                 have hcz78_6 : wc.cell? ⟨gb283, 6, none⟩ = some (.int .i64 t279) := (blk_cell BK283.out 6).trans rfl
                 have hcz78_7 : wc.cell? ⟨gb283, 7, none⟩ = some (.int .i64 t280) := (blk_cell BK283.out 7).trans rfl
                 have hcz78_8 : wc.cell? ⟨gb283, 8, none⟩ = some (.int .i64 t281) := (blk_cell BK283.out 8).trans rfl
                 have hfz78_0 := blk_frozen BK283.out 0
                 have hfz78_1 := blk_frozen BK283.out 1
                 have hfz78_2 := blk_frozen BK283.out 2
                 have hfz78_3 := blk_frozen BK283.out 3
                 have hfz78_4 := blk_frozen BK283.out 4
                 have hfz78_5 := blk_frozen BK283.out 5
                 have hfz78_6 := blk_frozen BK283.out 6
                 have hfz78_7 := blk_frozen BK283.out 7
                 have hfz78_8 := blk_frozen BK283.out 8
                 have hcz79_0 : wc.cell? ⟨gb294, 0, none⟩ = some (.int .i64 t284) := (blk_cell BK294.out 0).trans rfl
                 have hcz79_1 : wc.cell? ⟨gb294, 1, none⟩ = some (.int .i64 t285) := (blk_cell BK294.out 1).trans rfl
                 have hcz79_2 : wc.cell? ⟨gb294, 2, none⟩ = some (.int .i64 t286) := (blk_cell BK294.out 2).trans rfl
                 have hcz79_3 : wc.cell? ⟨gb294, 3, none⟩ = some (.int .i64 t287) := (blk_cell BK294.out 3).trans rfl
                 have hcz79_4 : wc.cell? ⟨gb294, 4, none⟩ = some (.int .i64 t288) := (blk_cell BK294.out 4).trans rfl
                 have hcz79_5 : wc.cell? ⟨gb294, 5, none⟩ = some (.int .i64 t289) := (blk_cell BK294.out 5).trans rfl
                 have hcz79_6 : wc.cell? ⟨gb294, 6, none⟩ = some (.int .i64 t290) := (blk_cell BK294.out 6).trans rfl
                 have hcz79_7 : wc.cell? ⟨gb294, 7, none⟩ = some (.int .i64 t291) := (blk_cell BK294.out 7).trans rfl
                 have hcz79_8 : wc.cell? ⟨gb294, 8, none⟩ = some (.int .i64 t292) := (blk_cell BK294.out 8).trans rfl
                 have hfz79_0 := blk_frozen BK294.out 0
                 have hfz79_1 := blk_frozen BK294.out 1
                 have hfz79_2 := blk_frozen BK294.out 2
                 have hfz79_3 := blk_frozen BK294.out 3
                 have hfz79_4 := blk_frozen BK294.out 4
                 have hfz79_5 := blk_frozen BK294.out 5
                 have hfz79_6 := blk_frozen BK294.out 6
                 have hfz79_7 := blk_frozen BK294.out 7
                 have hfz79_8 := blk_frozen BK294.out 8
                 go_wp2
                 go_ret
                 exact ⟨by first | rfl | (simp [errW_none, errW_some] <;> rfl) | (simp [*, errW_none, errW_some] <;> rfl), by repeat (first | (with_reducible first | exact HB.out | apply below_alloc | apply pw_below_drewN | apply below_drew1 | refine below_set ?_ GE283.out | refine below_set ?_ GE294.out) | exact HB.out)⟩
               · rw [if_neg c76] at H
                 have c76b0 : (t286 == 0) = false := beq_eq_false_iff_ne.mpr c76
                 have c76b1 : (t286 != 0) = true := bne_iff_ne.mpr c76
                 obtain rfl := Option.some.inj H
                 have hnb80 := NB283_294.out
                 have hnc80 := NB294_283.out
                 have hcz81_0 : wc.cell? ⟨gb283, 0, none⟩ = some (.int .i64 t273) := (blk_cell BK283.out 0).trans rfl
                 have hcz81_1 : wc.cell? ⟨gb283, 1, none⟩ = some (.int .i64 t274) := (blk_cell BK283.out 1).trans rfl
                 have hcz81_2 : wc.cell? ⟨gb283, 2, none⟩ = some (.int .i64 t275) := (blk_cell BK283.out 2).trans rfl
                 have hcz81_3 : wc.cell? ⟨gb283, 3, none⟩ = some (.int .i64 t276) := (blk_cell BK283.out 3).trans rfl
                 have hcz81_4 : wc.cell? ⟨gb283, 4, none⟩ = some (.int .i64 t277) := (blk_cell BK283.out 4).trans rfl
                 have hcz81_5 : wc.cell? ⟨gb283, 5, none⟩ = some (.int .i64 t278) := (blk_cell BK283.out 5).trans rfl
                 have hcz81_6 : wc.cell? ⟨gb283, 6, none⟩ = some (.int .i64 t279) := (blk_cell BK283.out 6).trans rfl
                 have hcz81_7 : wc.cell? ⟨gb283, 7, none⟩ = some (.int .i64 t280) := (blk_cell BK283.out 7).trans rfl
                 have hcz81_8 : wc.cell? ⟨gb283, 8, none⟩ = some (.int .i64 t281) := (blk_cell BK283.out 8).trans rfl
                 have hfz81_0 := blk_frozen BK283.out 0
                 have hfz81_1 := blk_frozen BK283.out 1
                 have hfz81_2 := blk_frozen BK283.out 2
                 have hfz81_3 := blk_frozen BK283.out 3
                 have hfz81_4 := blk_frozen BK283.out 4
                 have hfz81_5 := blk_frozen BK283.out 5
                 have hfz81_6 := blk_frozen BK283.out 6
                 have hfz81_7 := blk_frozen BK283.out 7
                 have hfz81_8 := blk_frozen BK283.out 8
                 have hcz82_0 : wc.cell? ⟨gb294, 0, none⟩ = some (.int .i64 t284) := (blk_cell BK294.out 0).trans rfl
                 have hcz82_1 : wc.cell? ⟨gb294, 1, none⟩ = some (.int .i64 t285) := (blk_cell BK294.out 1).trans rfl
                 have hcz82_2 : wc.cell? ⟨gb294, 2, none⟩ = some (.int .i64 t286) := (blk_cell BK294.out 2).trans rfl
                 have hcz82_3 : wc.cell? ⟨gb294, 3, none⟩ = some (.int .i64 t287) := (blk_cell BK294.out 3).trans rfl
                 have hcz82_4 : wc.cell? ⟨gb294, 4, none⟩ = some (.int .i64 t288) := (blk_cell BK294.out 4).trans rfl
                 have hcz82_5 : wc.cell? ⟨gb294, 5, none⟩ = some (.int .i64 t289) := (blk_cell BK294.out 5).trans rfl
                 have hcz82_6 : wc.cell? ⟨gb294, 6, none⟩ = some (.int .i64 t290) := (blk_cell BK294.out 6).trans rfl
                 have hcz82_7 : wc.cell? ⟨gb294, 7, none⟩ = some (.int .i64 t291) := (blk_cell BK294.out 7).trans rfl
                 have hcz82_8 : wc.cell? ⟨gb294, 8, none⟩ = some (.int .i64 t292) := (blk_cell BK294.out 8).trans rfl
                 have hfz82_0 := blk_frozen BK294.out 0
                 have hfz82_1 := blk_frozen BK294.out 1
                 have hfz82_2 := blk_frozen BK294.out 2
                 have hfz82_3 := blk_frozen BK294.out 3
                 have hfz82_4 := blk_frozen BK294.out 4
                 have hfz82_5 := blk_frozen BK294.out 5
                 have hfz82_6 := blk_frozen BK294.out 6
                 have hfz82_7 := blk_frozen BK294.out 7
                 have hfz82_8 := blk_frozen BK294.out 8
                 go_wp2
                 go_ret
                 exact ⟨by first | rfl | (simp [errW_none, errW_some] <;> rfl) | (simp [*, errW_none, errW_some] <;> rfl), by repeat (first | (with_reducible first | exact HB.out | apply below_alloc | apply pw_below_drewN | apply below_drew1 | refine below_set ?_ GE283.out | refine below_set ?_ GE294.out) | exact HB.out)⟩
 · replace c5 := Bool.eq_false_iff.mpr c5
   subst c5
   have H1 : (none) = some r := by rw [if_neg (show ¬ (false = true) by decide)] at H; exact H
   clear H
   have H := H1
   clear H1
   exact absurd H (by simp)
end Go.Proofs.Ytpmkibggmkibeaa.G
namespace Go.Proofs.Ytpmkibggmkibeaa.G
open Go.RowKit Go.Proofs.YtpmkibggmkibeaaW.PrintWords Go.Proofs.YtpmkibggmkibeaaW.PrintLast Go.Proofs.YtpmkibggmkibeaaW.PrintMore
set_option linter.unusedVariables false
theorem counts_pair {c a2 t1 p1 n1 t2 p2 n2 : Int} (hc0 : 0 ≤ c) (hc : c ≤ 15) (h0 : 0 ≤ a2) (h1 : a2 + 1 ≤ 449849) (ht : 0 ≤ t1 ∧ t1 ≤ 99 ∨ t1 = 170) (hp : 0 ≤ p1 ∧ p1 ≤ 1) (hn1 : 0 ≤ n1 ∧ n1 ≤ 449849) (hn2 : 0 ≤ n2 ∧ n2 ≤ 449849)
 (h : if t1 = t2 ∧ p1 = p2 then (p1 = 1 ∧ n2 - n1 = 1 ∨ p1 = 0 ∧ n2 - n1 = -1) else (p2 = 0 ∨ n2 = 0)) :
 masterdisclaw10_SubchannelCounts.j0 3 a2 0 0 false c t1 p1 (msfM (n1 - 150)) (msfS (n1 - 150)) (msfF (n1 - 150)) (msfM a2) (msfS a2) (msfF a2) c t2 p2 (msfM (n2 - 150)) (msfS (n2 - 150)) (msfF (n2 - 150)) (msfM (a2 + 1)) (msfS (a2 + 1)) (msfF (a2 + 1)) = some true := by
 obtain ⟨s, he, -⟩ := encode_ok (c := c) (t := t1) (p := p1) (by omega) (by omega) (by omega) (by omega) (valid_track hc0 hc ht hp.1 (by omega) (msf_valid (n := n1 - 150) (by omega) (by omega)) (msf_valid (n := a2) (by omega) (by omega))) (msf_valid (n := n1 - 150) (by omega) (by omega)) (msf_valid (n := a2) (by omega) (by omega))
 simp only [masterdisclaw10_SubchannelCounts.j0]
 rw [if_neg (by decide), toLBA_msf (by omega) (by omega), distance_msf (by omega) (by omega) (by omega) (by omega), distance_msf (by omega) (by omega) (by omega) (by omega)]
 simp only [Option.bind_some]
 rw [he]
 simp only [Option.bind_some]
 rw [if_pos trivial, if_pos trivial, if_pos trivial, if_pos (by omega), if_pos trivial]
 simp only [masterdisclaw10_SubchannelCounts.j1]
 rw [if_neg (by decide)]
 by_cases e1 : t1 = t2
 · rw [if_pos e1]
   by_cases e2 : p1 = p2
   · rw [if_pos e2]
     rw [if_pos ⟨e1, e2⟩] at h
     rcases h with ⟨h3, h4⟩ | ⟨h3, h4⟩
     · rw [if_pos h3, if_pos (by omega)]
     · rw [if_neg (by omega), if_pos h3]
       rw [show n2 - 150 - (n1 - 150) = -1 by omega]
       rfl
   · rw [if_neg e2]
     rw [if_neg (fun q => e2 q.2)] at h
     by_cases e3 : p2 = 0
     · rw [if_pos e3]
     · rw [if_neg e3]
       have : n2 = 0 := by omega
       subst this
       rfl
 · rw [if_neg e1]
   rw [if_neg (fun q => e1 q.1)] at h
   by_cases e3 : p2 = 0
   · rw [if_pos e3]
   · rw [if_neg e3]
     have : n2 = 0 := by omega
     subst this
     rfl
theorem ends_rise {l : List (S53)} (hs : Ses l) (i : Nat) : ∀ j, i ≤ j → j < l.length → (rd_T53 l (i : Int)).f2 + (rd_T53 l (i : Int)).f3 ≤ (rd_T53 l (j : Int)).f2 + (rd_T53 l (j : Int)).f3 := by
 intro j
 induction j with
 | zero =>
  intro h1 h2
  have : i = 0 := by omega
  subst this
  exact Int.le_refl _
 | succ j ih =>
  intro h1 h2
  by_cases e : i = j + 1
  · subst e; exact Int.le_refl _
  · have a := ih (by omega) (by omega)
    have b := hs.behind (j + 1) (by omega) h2
    have c := hs.len (j + 1) h2
    rw [show (((j + 1 : Nat) : Int) - 1) = (j : Int) by omega] at b
    omega
theorem progI_at {l : List (S53)} (hs : Ses l) (lba : Int) (j : Nat) (hj : j < l.length) (h1 : lba < (rd_T53 l (j : Int)).f2 + (rd_T53 l (j : Int)).f3) (h2 : ∀ k : Nat, k < j → (rd_T53 l (k : Int)).f2 + (rd_T53 l (k : Int)).f3 ≤ lba) : progI l lba = (j : Int) := by
 rcases progI_cases hs lba with ⟨hi, hge⟩ | ⟨i, hi, hil, hlt, hbe⟩
 · exfalso
   have := ends_rise hs j (l.length - 1) (by omega) (by have := hs.one; omega)
   rw [show ((l.length - 1 : Nat) : Int) = (l.length : Int) - 1 by have := hs.one; omega] at this
   unfold lastE at hge
   omega
 · have : i = j := by
    rcases Nat.lt_trichotomy i j with h | h | h
    · have := h2 i h; omega
    · exact h
    · have := hbe j h; omega
   rw [hi, this]
theorem progI_out {l : List (S53)} (hs : Ses l) (lba : Int) (h : lastE l ≤ lba) : progI l lba = -1 := by
 rcases progI_cases hs lba with ⟨hi, hge⟩ | ⟨i, hi, hil, hlt, hbe⟩
 · exact hi
 · exfalso
   have := ends_rise hs i (l.length - 1) (by omega) (by have := hs.one; omega)
   rw [show ((l.length - 1 : Nat) : Int) = (l.length : Int) - 1 by have := hs.one; omega] at this
   unfold lastE at h
   omega
theorem lastE_le {l : List (S53)} (hs : Ses l) : 1 ≤ lastE l ∧ lastE l ≤ 449849 := by
 have h1 := hs.one
 have hst := hs.start (l.length - 1) (by omega)
 have hle := hs.len (l.length - 1) (by omega)
 rw [show ((l.length - 1 : Nat) : Int) = (l.length : Int) - 1 by omega] at hst hle
 unfold lastE
 omega
def progT (l : List (S53)) (lba : Int) : Int × Int × Int :=
 if progI l lba < 0 then (170, 1, lba - lastE l)
 else if lba < (rd_T53 l (progI l lba)).f2 then ((rd_T53 l (progI l lba)).f0, 0, (rd_T53 l (progI l lba)).f2 - lba)
 else ((rd_T53 l (progI l lba)).f0, 1, lba - (rd_T53 l (progI l lba)).f2)
theorem program_in_eq {l : List (S53)} {a1 a2 : Int} (h : sesB l = true ∧ 0 ≤ a1 ∧ a1 ≤ 15) (h2 : 0 ≤ a2 ∧ a2 ≤ 449849) : subchannel_Program.f l a1 a2 = some (relOf a1 (progT l a2).1 (progT l a2).2.1 (progT l a2).2.2 (msfM a2) (msfS a2) (msfF a2)) := by
 unfold subchannel_Program.f progT
 rw [if_pos h, if_pos h2]
 by_cases c1 : progI l a2 < 0
 · rw [if_pos c1, if_pos c1]
 · rw [if_neg c1, if_neg c1]
   by_cases c2 : a2 < (rd_T53 l (progI l a2)).f2
   · rw [if_pos c2, if_pos c2]
   · rw [if_neg c2, if_neg c2]
theorem progT_out {l : List (S53)} (hs : Ses l) {a : Int} (h : lastE l ≤ a) : progT l a = (170, 1, a - lastE l) := by
 unfold progT
 rw [progI_out hs a h, if_pos (by decide)]
theorem progT_gap {l : List (S53)} {a : Int} {j : Nat} (hi : progI l a = (j : Int)) (h : a < (rd_T53 l (j : Int)).f2) : progT l a = ((rd_T53 l (j : Int)).f0, 0, (rd_T53 l (j : Int)).f2 - a) := by
 unfold progT
 rw [hi, if_neg (by omega), if_pos h]
theorem progT_track {l : List (S53)} {a : Int} {j : Nat} (hi : progI l a = (j : Int)) (h : (rd_T53 l (j : Int)).f2 ≤ a) : progT l a = ((rd_T53 l (j : Int)).f0, 1, a - (rd_T53 l (j : Int)).f2) := by
 unfold progT
 rw [hi, if_neg (by omega), if_neg (by omega)]
theorem counts_next {l : List (S53)} (hs : Ses l) {a : Int} (h0 : 0 ≤ a) (h1 : a + 1 ≤ 449849) :
 (0 ≤ (progT l a).1 ∧ (progT l a).1 ≤ 99 ∨ (progT l a).1 = 170) ∧ (0 ≤ (progT l a).2.1 ∧ (progT l a).2.1 ≤ 1) ∧ (0 ≤ (progT l a).2.2 ∧ (progT l a).2.2 ≤ 449849) ∧ (0 ≤ (progT l (a + 1)).2.2 ∧ (progT l (a + 1)).2.2 ≤ 449849) ∧
  (if (progT l a).1 = (progT l (a + 1)).1 ∧ (progT l a).2.1 = (progT l (a + 1)).2.1 then ((progT l a).2.1 = 1 ∧ (progT l (a + 1)).2.2 - (progT l a).2.2 = 1 ∨ (progT l a).2.1 = 0 ∧ (progT l (a + 1)).2.2 - (progT l a).2.2 = -1) else ((progT l (a + 1)).2.1 = 0 ∨ (progT l (a + 1)).2.2 = 0)) := by
 have hL := lastE_le hs
 rcases progI_cases hs a with ⟨hi, hge⟩ | ⟨j, hi, hj, hlt, hbe⟩
 · rw [progT_out hs hge, progT_out hs (a := a + 1) (by omega)]
   dsimp only
   refine ⟨Or.inr rfl, by omega, by omega, by omega, ?_⟩
   rw [if_pos ⟨rfl, rfl⟩]
   exact Or.inl ⟨rfl, by omega⟩
 · have hn := hs.num j hj
   have hst := hs.start j hj
   have hle := hs.len j hj
   by_cases hg : a < (rd_T53 l (j : Int)).f2
   · have hi2 : progI l (a + 1) = (j : Int) := progI_at hs (a + 1) j hj (by omega) (fun k hk => by have := hbe k hk; omega)
     rw [progT_gap hi hg]
     by_cases hg2 : a + 1 < (rd_T53 l (j : Int)).f2
     · rw [progT_gap hi2 hg2]
       dsimp only
       refine ⟨Or.inl (by omega), by omega, by omega, by omega, ?_⟩
       rw [if_pos ⟨rfl, rfl⟩]
       exact Or.inr ⟨rfl, by omega⟩
     · rw [progT_track hi2 (by omega)]
       dsimp only
       refine ⟨Or.inl (by omega), by omega, by omega, by omega, ?_⟩
       rw [if_neg (fun q => by have := q.2; omega)]
       exact Or.inr (by omega)
   · rw [progT_track hi (by omega)]
     by_cases he : a + 1 < (rd_T53 l (j : Int)).f2 + (rd_T53 l (j : Int)).f3
     · have hi2 : progI l (a + 1) = (j : Int) := progI_at hs (a + 1) j hj he (fun k hk => by have := hbe k hk; omega)
       rw [progT_track hi2 (by omega)]
       dsimp only
       refine ⟨Or.inl (by omega), by omega, by omega, by omega, ?_⟩
       rw [if_pos ⟨rfl, rfl⟩]
       exact Or.inl ⟨rfl, by omega⟩
     · by_cases hj2 : j + 1 < l.length
       · have hb := hs.behind (j + 1) (by omega) hj2
         have hx := hs.next (j + 1) (by omega) hj2
         have hst2 := hs.start (j + 1) hj2
         have hle2 := hs.len (j + 1) hj2
         rw [show (((j + 1 : Nat) : Int) - 1) = (j : Int) by omega] at hb hx
         have hi2 : progI l (a + 1) = ((j + 1 : Nat) : Int) := progI_at hs (a + 1) (j + 1) hj2 (by omega) (fun k hk => by
          by_cases e : k = j
          · subst e; omega
          · have := hbe k (by omega); omega)
         by_cases hg2 : a + 1 < (rd_T53 l ((j + 1 : Nat) : Int)).f2
         · rw [progT_gap hi2 hg2]
           dsimp only
           refine ⟨Or.inl (by omega), by omega, by omega, by omega, ?_⟩
           rw [if_neg (fun q => by have := q.2; omega)]
           exact Or.inl rfl
         · rw [progT_track hi2 (by omega)]
           dsimp only
           refine ⟨Or.inl (by omega), by omega, by omega, by omega, ?_⟩
           rw [if_neg (fun q => by have := q.1; omega)]
           exact Or.inr (by omega)
       · have ee : lastE l = (rd_T53 l (j : Int)).f2 + (rd_T53 l (j : Int)).f3 := by
          unfold lastE
          rw [show (l.length : Int) - 1 = (j : Int) by omega]
         rw [progT_out hs (a := a + 1) (by omega)]
         dsimp only
         refine ⟨Or.inl (by omega), by omega, by omega, by omega, ?_⟩
         rw [if_neg (fun q => by have := q.1; omega)]
         exact Or.inr (by omega)
theorem pure_SubchannelCounts (l : List (S53)) (a1 a2 : Int) : ∃ k, masterdisclaw10_SubchannelCounts.f k l a1 a2 = some true := by
 refine ⟨3, ?_⟩
 unfold masterdisclaw10_SubchannelCounts.f
 rw [awake_plain]
 simp only [Option.bind_some]
 rw [if_pos trivial]
 by_cases hl : (l.length : Int) > 120
 · rw [if_pos hl]
 rw [if_neg hl]
 by_cases h : sesB l = true ∧ 0 ≤ a1 ∧ a1 ≤ 15
 case neg =>
  have e : ∀ x, subchannel_Program.f l a1 x = some (0, 0, 0, 0, 0, 0, 0, 0, 0, 1) := fun x => by unfold subchannel_Program.f; rw [if_neg h]
  rw [e, e]
  rfl
 have hz : ∀ x, ¬ (0 ≤ x ∧ x ≤ 449849) → subchannel_Program.f l a1 x = some (0, 0, 0, 0, 0, 0, 0, 0, 0, 2) := fun x hx => by unfold subchannel_Program.f; rw [if_pos h, if_neg hx]
 have hs := ses_of h.1
 by_cases h2 : 0 ≤ a2 ∧ a2 ≤ 449849
 case neg =>
  rw [hz a2 h2]
  by_cases h3 : 0 ≤ wrap64 (a2 + 1) ∧ wrap64 (a2 + 1) ≤ 449849
  · rw [program_in_eq h h3]
    rfl
  · rw [hz _ h3]
    rfl
 rw [show wrap64 (a2 + 1) = a2 + 1 by unfold wrap64; omega, program_in_eq h h2]
 by_cases h3 : 0 ≤ a2 + 1 ∧ a2 + 1 ≤ 449849
 case neg =>
  rw [hz _ h3]
  rfl
 rw [program_in_eq h h3]
 obtain ⟨ht, hp, hn1, hn2, hh⟩ := counts_next hs (a := a2) h2.1 h3.2
 simp only [Option.bind_some, relOf]
 rw [if_pos trivial]
 exact counts_pair h.2.1 h.2.2 h2.1 h3.2 ht hp hn1 hn2 hh
end Go.Proofs.Ytpmkibggmkibeaa.G
