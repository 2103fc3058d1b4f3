/- EndianReads' Lean function answers true at all strings, offsets and sizes; no other condition. -/
import Derived.Test.YtbkakfaeeodmmaaXlaw01EndianReads
import Derived.Test.YtbkakfaeeodmmaaPEr
namespace Go.Proofs.Ytbkakfaeeodmmaa.Pure
open Go.RowKit Go.Proofs.Ytbkakfaeeodmmaa.G Go.Proofs.YtbkakfaeeodmmaaW.PrintWords Go.Proofs.YtbkakfaeeodmmaaW.PrintLast

theorem EndianReads : masterdisclaw01_EndianReads.Pure := by
  intro s a size hs ha hz
  have ha' : i64B a = true := wf_i64B ha
  refine ⟨100, ?_⟩
  unfold masterdisclaw01_EndianReads.f
  rw [awake1]
  simp only [Option.bind_some]
  rw [if_pos trivial]
  by_cases h : (s.size : Int) > 40
  · rw [if_pos h]
  · have h' : s.size ≤ 100000 := by omega
    rw [if_neg h, ReadLittle_val h', ref_ReadLittle 100 s a size h' ha' (by omega), ReadBig_val h', ref_ReadBig 100 s a size h' ha' (by omega), ReadBoth_val h' a size ha', ref_ReadBoth 100 s a size h' ha' (by omega)]
    simp

end Go.Proofs.Ytbkakfaeeodmmaa.Pure
