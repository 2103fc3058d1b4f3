/- EndianWrites' Lean function answers true at all numbers of type int; no other condition. -/
import Derived.Test.YtbkakfaeeodmmaaXlaw01EndianWrites
import Derived.Test.YtbkakfaeeodmmaaPEn
namespace Go.Proofs.Ytbkakfaeeodmmaa.Pure
open Go.RowKit Go.Proofs.Ytbkakfaeeodmmaa.G Go.Proofs.YtbkakfaeeodmmaaW.PrintWords Go.Proofs.YtbkakfaeeodmmaaW.PrintLast

theorem EndianWrites : masterdisclaw01_EndianWrites.Pure := by
  intro n size hn hs
  have hn' : i64B n = true := by
    rw [i64B_iff]
    simpa [Lit.wf, IntKind.min, IntKind.max, IntKind.signed, IntKind.bits] using hn
  refine ⟨100, ?_⟩
  unfold masterdisclaw01_EndianWrites.f
  rw [awake1, Little_val hn', ref_Little 100 n size (by omega) hn', Big_val hn', ref_Big 100 n size (by omega) hn', Both_val hn', ref_Both 100 n size (by omega) hn']
  simp

end Go.Proofs.Ytbkakfaeeodmmaa.Pure
