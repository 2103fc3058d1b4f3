/- SubchannelTables: Collect returns the Starts that Entries was given, and the end of the last track; every frame names a track of the session or the lead-out; no condition. -/
import Derived.Below
import Derived.Carry
import Derived.ChangeOld
import Derived.Lib.SmallJoins
import Derived.OpenShut
import Derived.ProofKit
import Derived.ShutString
import Derived.SizedLaws
import Derived.WalkKit
import Derived.Test.YtpmkibggmkibeaaKd6
import Derived.Test.YtpmkibggmkibeaaRows
namespace Go.Proofs.Ytpmkibggmkibeaa.subchannelTables
open Go.ChangeShapes Go.WideShapes Go.ChangeAt Go.RowKit Go.Joins
open Go.ChangeMaps (open_string shut_string)
set_option linter.unusedVariables false
theorem own : ownKnob Try.prog.godebug = none := by kernel_rfl
theorem laidOut : laidOutB Try.prog = true := by kernel_rfl
set_option maxHeartbeats 2000000 in
set_option maxRecDepth 100000 in
theorem lifted (os : Os) (started : os.Started) (H : Type) (enc : TypeId × Value → H) :
 ReturnsInHanded {} Try.checked os 9 .any (Rows.subchannelTablesSpec.pre6 enc Try.prog Try.f9 Rows.subchannelTablesRow.domain false) (Rows.subchannelTablesSpec.post enc Try.prog Try.f9 false true false false) := by
 refine returnsInHanded_of_change_sized (C := Try.checked) own started (by kernel_rfl) Try.func9
  (ChangeSpec.witness6 (enc := enc) (C := Try.checked) false ⟨#[], #[.slice none 0 0, .int .i64 0, .int .i64 0], []⟩ 8 (by kernel_rfl) (by kernel_rfl) (by kernel_rfl) (by kernel_rfl)) ?_
 intro W base args ds gs before hval0 hW hcnd hsz0 _
 have hval : ∀ (j : Nat) t v, Try.f9.params[j]? = some t → args[j]? = some v → Value.okWide Try.prog W .any base t v := hval0
 have hW' := hW
 obtain ⟨p, q, hA0, hV, rfl, hfz, hnd⟩ := hW
 have hA : DataW.TrodAll enc Try.prog W 0 (fun _ => true) true Try.f9.params.toList args.toList ds p := hA0
 rw [Try.params9] at hA hval
 obtain ⟨v0, vs0, d0, ds0, p0, q0, hargs, rfl, rfl, h0, r0⟩ := trodAll_cons hA
 obtain ⟨v1, vs1, d1, ds1, p1, q1, rfl, rfl, rfl, h1, r1⟩ := trodAll_cons r0
 obtain ⟨v2, vs2, d2, ds2, p2, q2, rfl, rfl, rfl, h2, r2⟩ := trodAll_cons r1
 obtain ⟨rfl, rfl, rfl⟩ := trodAll_nil r2
 obtain rfl : args = #[v0, v1, v2] := by cases args; simp_all
 obtain ⟨rfl, rfl⟩ := trodVars_none hV
 have lt0 : ∀ x ∈ p0, x.block < W.heap.size := by obtain ⟨m, hm⟩ := h0; exact DataW.trod_lt m _ _ _ hm
 have k0 := h0
 obtain ⟨A00, len0, cap0, rfl⟩ := okWide_slice Try.underlying22 (hval 0 22 v0 rfl rfl)
 obtain ⟨m0, hm0⟩ := h0
 obtain ⟨A0, c0, l0, hu0, hc0, hl0, hr0⟩ := G.open_tracks hm0
 injection hu0 with e1 e2 e3
 subst e1 e2 e3
 obtain ⟨a1, rfl, rfl, rfl, w1⟩ := open_int Try.underlying3 (hval 1 3 v1 rfl rfl) h1
 obtain ⟨a2, rfl, rfl, rfl, w2⟩ := open_int Try.underlying3 (hval 2 3 v2 rfl rfl) h2
 clear hA0 hval0 hsz0
 obtain ⟨k, hk⟩ := G.pure_SubchannelTables l0 a1 a2
 refine (G.masterdisclaw10_SubchannelTables.calls k _ _ l0 a1 a2 true W hr0 hc0 hk).mono fun e W' ⟨he, bel⟩ => ?_
 subst he
 exact ⟨_, rfl, _, _, _, [], _, [], hW', trodAll_mk1 (shut_bool Try.underlying4 _), (trodAll_cons_mk (Below.trod laidOut (by kernel_rfl) (of_decide_eq_true (by kernel_rfl)) k0 bel lt0) (trodAll_cons_mk (shut_int Try.underlying3 w1) (trodAll_cons_mk (shut_int Try.underlying3 w2) trodAll_mk0))), rfl, bel.frame _, fun h => by cases h⟩
theorem over : Rows.subchannelTablesRow.holds Try.pinned (OpenSpec.ofChange Rows.subchannelTablesSpec) :=
 OpenClaim.holds_of_wide 9 Try.f9 rfl rfl rfl rfl rfl rfl rfl ⟨rfl, rfl, rfl, rfl, rfl⟩ rfl rfl rfl rfl rfl (by kernel_rfl) Try.func9 (by kernel_rfl)
  (of_decide_eq_true (by kernel_rfl)) (by unfold Func.isWrapper; first | (rw [if_pos (by decide +kernel)]; kernel_rfl) | (rw [if_neg (by decide +kernel)]; exact ⟨rfl, rfl⟩))
  (fun os started H enc _ => lifted os started H enc)
theorem proved : Rows.SubchannelTablesSaid := over
#print axioms proved
end Go.Proofs.Ytpmkibggmkibeaa.subchannelTables
namespace Go.Proofs.Ytpmkibggmkibeaa
theorem subchannelTables_holds : Rows.SubchannelTablesSaid := subchannelTables.proved
end Go.Proofs.Ytpmkibggmkibeaa
