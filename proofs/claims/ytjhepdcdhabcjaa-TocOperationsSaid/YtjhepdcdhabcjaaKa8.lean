/- TocOperations: Valid and the four operations of package toc return what the reference returns, for any capacity, table and act; no condition. -/
import Derived.Below
import Derived.Carry
import Derived.ChangeOld
import Derived.Lib.SmallJoins
import Derived.OpenShut
import Derived.ProofKit
import Derived.ShutString
import Derived.SizedLaws
import Derived.WalkKit
import Derived.Test.YtjhepdcdhabcjaaKa7
import Derived.Test.YtjhepdcdhabcjaaRows
namespace Go.Proofs.Ytjhepdcdhabcjaa.tocOperations
open Go.ChangeShapes Go.WideShapes Go.ChangeAt Go.RowKit Go.Joins
open Go.ChangeMaps (open_string shut_string)
set_option linter.unusedVariables false
theorem own : ownKnob Try.prog.godebug = none := by kernel_rfl
theorem laidOut : laidOutB Try.prog = true := by kernel_rfl
set_option maxRecDepth 100000 in
theorem lifted (os : Os) (started : os.Started) (H : Type) (enc : TypeId × Value → H) :
 ReturnsInHanded {} Try.checked os 3 .any (Rows.tocOperationsSpec.pre6 enc Try.prog Try.f3 Rows.tocOperationsRow.domain false) (Rows.tocOperationsSpec.post enc Try.prog Try.f3 false true false false) := by
 refine returnsInHanded_of_change_sized (C := Try.checked) own started (by kernel_rfl) Try.func3
  (ChangeSpec.witness6 (enc := enc) (C := Try.checked) false ⟨#[], #[.int .i64 0, .agg #[.int .i64 0, .bool false, .slice none 0 0], .agg #[.int .i64 0, .int .i64 0, .int .i64 0, .bool false]], []⟩ 8 (by kernel_rfl) (by kernel_rfl) (by kernel_rfl) (by kernel_rfl)) ?_
 intro W base args ds gs before hval0 hW hcnd hsz0 _
 have hval : ∀ (j : Nat) t v, Try.f3.params[j]? = some t → args[j]? = some v → Value.okWide Try.prog W .any base t v := hval0
 have hW' := hW
 obtain ⟨p, q, hA0, hV, rfl, hfz, hnd⟩ := hW
 have hA : DataW.TrodAll enc Try.prog W 0 (fun _ => true) true Try.f3.params.toList args.toList ds p := hA0
 rw [Try.params3] at hA hval
 obtain ⟨v0, vs0, d0, ds0, p0, q0, hargs, rfl, rfl, h0, r0⟩ := trodAll_cons hA
 obtain ⟨v1, vs1, d1, ds1, p1, q1, rfl, rfl, rfl, h1, r1⟩ := trodAll_cons r0
 obtain ⟨v2, vs2, d2, ds2, p2, q2, rfl, rfl, rfl, h2, r2⟩ := trodAll_cons r1
 obtain ⟨rfl, rfl, rfl⟩ := trodAll_nil r2
 obtain rfl : args = #[v0, v1, v2] := by cases args; simp_all
 obtain ⟨rfl, rfl⟩ := trodVars_none hV
 obtain ⟨a0, rfl, rfl, rfl, w0⟩ := open_int Try.underlying3 (hval 0 3 v0 rfl rfl) h0
 have lt1 : ∀ x ∈ p1, x.block < W.heap.size := by obtain ⟨m, hm⟩ := h1; exact DataW.trod_lt m _ _ _ hm
 have lt2 : ∀ x ∈ p2, x.block < W.heap.size := by obtain ⟨m, hm⟩ := h2; exact DataW.trod_lt m _ _ _ hm
 have k1 := h1
 have k2 := h2
 obtain ⟨c0, c1, c2, y0, y1, y2, n1, rfl, rfl, rfl, g0, g1, g2⟩ := open_agg3 Try.underlying24 (by kernel_rfl) (by kernel_rfl) (hval 1 24 v1 rfl rfl) h1
 obtain ⟨cl, e0, -, -⟩ := DataW.trod_int Try.underlying3 g0
 obtain ⟨fin, e1, -⟩ := DataW.trod_bool Try.underlying4 g1
 obtain ⟨A, c, l, rfl, hc, hl, hr⟩ := G.open_tracks g2
 obtain rfl : c0 = .int .i64 cl := by injection e0
 obtain rfl : c1 = .bool fin := by injection e1
 obtain ⟨b0, b1, b2, b3, z0, z1, z2, z3, n2, rfl, rfl, rfl, m0, m1, m2, m3⟩ := open_agg4 Try.underlying26 (by kernel_rfl) (by kernel_rfl) (hval 2 26 v2 rfl rfl) h2
 obtain ⟨kind, e2, -, -⟩ := DataW.trod_int Try.underlying3 m0
 obtain ⟨a, e3, -, -⟩ := DataW.trod_int Try.underlying3 m1
 obtain ⟨b, e4, -, -⟩ := DataW.trod_int Try.underlying3 m2
 obtain ⟨fz, e5, -⟩ := DataW.trod_bool Try.underlying4 m3
 obtain rfl : b0 = .int .i64 kind := by injection e2
 obtain rfl : b1 = .int .i64 a := by injection e3
 obtain rfl : b2 = .int .i64 b := by injection e4
 obtain rfl : b3 = .bool fz := by injection e5
 clear hA0 hval0 hsz0
 obtain ⟨k, hk⟩ := G.pure_TocOperations a0 cl fin l kind a b fz hl
 refine (G.masterdisclaw14_TocOperations.calls k a0 cl fin A c l kind a b fz true W hr hc hk).mono fun e W' ⟨he, bel⟩ => ?_
 subst he
 exact ⟨_, rfl, _, _, _, [], _, [], hW', trodAll_mk1 (shut_bool Try.underlying4 _), (trodAll_cons_mk (shut_int Try.underlying3 w0) (trodAll_cons_mk (Below.trod laidOut (by kernel_rfl) (of_decide_eq_true (by kernel_rfl)) k1 bel lt1) (trodAll_cons_mk (Below.trod laidOut (by kernel_rfl) (of_decide_eq_true (by kernel_rfl)) k2 bel lt2) trodAll_mk0))), rfl, bel.frame _, fun h => by cases h⟩
theorem over : Rows.tocOperationsRow.holds Try.pinned (OpenSpec.ofChange Rows.tocOperationsSpec) :=
 OpenClaim.holds_of_wide 3 Try.f3 rfl rfl rfl rfl rfl rfl rfl ⟨rfl, rfl, rfl, rfl, rfl⟩ rfl rfl rfl rfl rfl (by kernel_rfl) Try.func3 (by kernel_rfl)
  (of_decide_eq_true (by kernel_rfl)) (by unfold Func.isWrapper; first | (rw [if_pos (by decide +kernel)]; kernel_rfl) | (rw [if_neg (by decide +kernel)]; exact ⟨rfl, rfl⟩))
  (fun os started H enc _ => lifted os started H enc)
theorem proved : Rows.TocOperationsSaid := over
#print axioms proved
end Go.Proofs.Ytjhepdcdhabcjaa.tocOperations
namespace Go.Proofs.Ytjhepdcdhabcjaa
theorem tocOperations_holds : Rows.TocOperationsSaid := tocOperations.proved
end Go.Proofs.Ytjhepdcdhabcjaa
