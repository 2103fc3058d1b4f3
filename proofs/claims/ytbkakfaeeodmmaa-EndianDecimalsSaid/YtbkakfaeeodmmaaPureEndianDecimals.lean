/- EndianDecimals' Lean function answers true at all numbers and bytes; no other condition. -/
import Derived.Test.YtbkakfaeeodmmaaXlaw01EndianDecimals
import Derived.Test.YtbkakfaeeodmmaaPEn
namespace Go.Proofs.Ytbkakfaeeodmmaa.Pure
open Go.RowKit Go.Proofs.Ytbkakfaeeodmmaa.G Go.Proofs.YtbkakfaeeodmmaaW.PrintWords Go.Proofs.YtbkakfaeeodmmaaW.PrintLast

theorem BCD_fin : ∀ m : Fin 100, endian_BCD.f (m.val : Int) = masterdiscref01_BCD.f (m.val : Int) ∧ (endian_BCD.f (m.val : Int)).map (·.2) = some 0 ∧ (endian_BCD.f (m.val : Int)).bind (fun p => endian_FromBCD.f p.1) = some ((m.val : Int), 0) := by decide +kernel
theorem From_fin : ∀ b : Fin 256, endian_FromBCD.f (b.val : Int) = masterdiscref01_FromBCD.f (b.val : Int) ∧ (endian_FromBCD.f (b.val : Int)).bind (fun p => if p.2 = 0 then endian_BCD.f p.1 else some ((b.val : Int), 0)) = some ((b.val : Int), 0) := by decide +kernel
theorem BCD_out (n : Int) (h : n < 0 ∨ 99 < n) : endian_BCD.f n = some (0, 2) ∧ masterdiscref01_BCD.f n = some (0, 2) := by
  unfold endian_BCD.f masterdiscref01_BCD.f
  by_cases h0 : n < 0
  · rw [if_pos h0, if_pos h0]; exact ⟨rfl, rfl⟩
  · have h1 : n > 99 := by omega
    rw [if_neg h0, if_neg h0, if_pos h1, if_pos h1]; exact ⟨rfl, rfl⟩
theorem BCD_all (n : Int) : ∃ x e, endian_BCD.f n = some (x, e) ∧ masterdiscref01_BCD.f n = some (x, e) ∧ (e = 0 → endian_FromBCD.f x = some (n, 0)) := by
  by_cases h : n < 0 ∨ 99 < n
  · obtain ⟨h1, h2⟩ := BCD_out n h
    exact ⟨0, 2, h1, h2, fun h => by cases h⟩
  · obtain ⟨m, rfl⟩ := Int.eq_ofNat_of_zero_le (show 0 ≤ n by omega)
    obtain ⟨h1, h2, h3⟩ := BCD_fin ⟨m, by omega⟩
    dsimp only at h1 h2 h3
    cases hb : endian_BCD.f (m : Int) with
    | none => rw [hb] at h2; cases h2
    | some p =>
      obtain ⟨x, e⟩ := p
      rw [hb] at h1 h3
      exact ⟨x, e, rfl, h1.symm, fun _ => h3⟩
theorem From_all (b : Int) (h0 : 0 ≤ b) (h1 : b ≤ 255) : ∃ x e, endian_FromBCD.f b = some (x, e) ∧ masterdiscref01_FromBCD.f b = some (x, e) ∧ (e = 0 → endian_BCD.f x = some (b, 0)) := by
  obtain ⟨m, rfl⟩ := Int.eq_ofNat_of_zero_le h0
  obtain ⟨h2, h3⟩ := From_fin ⟨m, by omega⟩
  dsimp only at h2 h3
  cases hb : endian_FromBCD.f (m : Int) with
  | none => rw [hb] at h3; cases h3
  | some p =>
    obtain ⟨x, e⟩ := p
    rw [hb] at h2 h3
    refine ⟨x, e, rfl, h2.symm, fun h => ?_⟩
    simp only [Option.bind_some] at h3
    rw [if_pos h] at h3
    exact h3
theorem EndianDecimals : masterdisclaw01_EndianDecimals.Pure := by
  intro n b hn hb
  have hb' : 0 ≤ b ∧ b ≤ 255 := by simpa [Lit.wf, IntKind.min, IntKind.max, IntKind.signed, IntKind.bits] using hb
  obtain ⟨x, e, h1, h2, h3⟩ := BCD_all n
  obtain ⟨y, g, h4, h5, h6⟩ := From_all b hb'.1 hb'.2
  refine ⟨2, ?_⟩
  unfold masterdisclaw01_EndianDecimals.f
  rw [awake1, h1, h2, h4, h5]
  simp only [Option.bind_some, if_true, bne_self_eq_false, masterdisclaw01_EndianDecimals.j0, masterdisclaw01_EndianDecimals.j1]
  by_cases he : e = 0
  · rw [h3 he]
    by_cases hg : g = 0
    · rw [h6 hg]; simp
    · simp [hg]
  · by_cases hg : g = 0
    · rw [h6 hg]; simp [he]
    · simp [he, hg]

end Go.Proofs.Ytbkakfaeeodmmaa.Pure
