/- EndianOrders' Lean function answers true at all strings; no other condition. -/
import Derived.Test.YtbkakfaeeodmmaaXlaw01EndianOrders
import Derived.Test.YtbkakfaeeodmmaaPEr
namespace Go.Proofs.Ytbkakfaeeodmmaa.Pure
open Go.RowKit Go.Proofs.Ytbkakfaeeodmmaa.G Go.Proofs.YtbkakfaeeodmmaaW.PrintWords Go.Proofs.YtbkakfaeeodmmaaW.PrintLast

/-- The number with some bytes, the highest first. -/
def valB : List UInt8 → Int
  | [] => 0
  | b :: l => (b.toNat : Int) * 256 ^ l.length + valB l
theorem valB_bd (l : List UInt8) : 0 ≤ valB l ∧ valB l < 256 ^ l.length := by
  induction l with
  | nil => simp [valB]
  | cons b l ih =>
    have hb := b.toNat_lt
    have hp : (0 : Int) < 256 ^ l.length := Int.pow_pos (by decide)
    have h1 : (b.toNat : Int) * 256 ^ l.length ≤ 255 * 256 ^ l.length := Int.mul_le_mul_of_nonneg_right (by omega) (by omega)
    have h0 : 0 ≤ (b.toNat : Int) * 256 ^ l.length := Int.mul_nonneg (by omega) (by omega)
    simp only [valB, List.length_cons, Int.pow_succ]
    omega
theorem valB_rev (l : List UInt8) : valL ((l.map fun c => (c.toNat : Int)).reverse) = valB l := by
  induction l with
  | nil => rfl
  | cons b l ih =>
    simp only [List.map_cons, List.reverse_cons]
    rw [valL_append, ih, List.length_reverse, List.length_map]
    simp only [valL, valB]
    rw [Int.mul_zero, Int.add_zero, Int.mul_comm, Int.add_comm]
theorem valB_less : ∀ (l l' : List UInt8), l.length = l'.length → (valB l < valB l' ↔ Op.bytesLess l l' = true) ∧ (valB l = valB l' ↔ l = l')
  | [], [], _ => by simp [valB, Op.bytesLess]
  | [], _ :: _, h => by simp at h
  | _ :: _, [], h => by simp at h
  | a :: l, b :: l', h => by
    have hl : l.length = l'.length := by simpa using h
    obtain ⟨h1, h2⟩ := valB_less l l' hl
    have ba := valB_bd l
    have bb := valB_bd l'
    have hp : (0 : Int) < 256 ^ l'.length := Int.pow_pos (by decide)
    simp only [valB, Op.bytesLess, hl] at ba ⊢
    rcases Nat.lt_trichotomy a.toNat b.toNat with c | c | c
    · have hm : ((a.toNat : Int) + 1) * 256 ^ l'.length ≤ (b.toNat : Int) * 256 ^ l'.length := Int.mul_le_mul_of_nonneg_right (by omega) (by omega)
      rw [Int.add_mul, Int.one_mul] at hm
      have hc : a < b := UInt8.lt_iff_toNat_lt.2 c
      have hne : a ≠ b := fun e => by rw [e] at c; omega
      refine ⟨⟨fun _ => by simp [hc], fun _ => by omega⟩, ⟨fun _ => by omega, fun e => absurd (List.cons.inj e).1 hne⟩⟩
    · obtain rfl : a = b := UInt8.toNat_inj.1 c
      have hn : ¬ a < a := fun h => by have := UInt8.lt_iff_toNat_lt.1 h; omega
      refine ⟨⟨fun h => ?_, fun h => ?_⟩, ⟨fun h => ?_, fun h => ?_⟩⟩
      · simp only [beq_self_eq_true, Bool.true_and, Bool.or_eq_true, decide_eq_true_eq]
        exact Or.inr (h1.1 (by omega))
      · simp only [beq_self_eq_true, Bool.true_and, Bool.or_eq_true, decide_eq_true_eq] at h
        have := h1.2 (h.resolve_left hn)
        omega
      · rw [h2.1 (by omega)]
      · rw [h2.2 (List.cons.inj h).2]
    · have hm : ((b.toNat : Int) + 1) * 256 ^ l'.length ≤ (a.toNat : Int) * 256 ^ l'.length := Int.mul_le_mul_of_nonneg_right (by omega) (by omega)
      rw [Int.add_mul, Int.one_mul] at hm
      have hc : ¬ a < b := fun h => by have := UInt8.lt_iff_toNat_lt.1 h; omega
      have hne : a ≠ b := fun e => by rw [e] at c; omega
      refine ⟨⟨fun _ => by omega, fun h => by simp [hc, hne] at h⟩, ⟨fun _ => by omega, fun e => absurd (List.cons.inj e).1 hne⟩⟩
theorem read_whole (s : ByteArray) (h1 : 1 ≤ s.size) (h7 : s.size ≤ 7) : endian_ReadBig.f s 0 (s.size : Int) = some (valB s.toList, 0) := by
  rw [ReadBig_val (by omega)]
  unfold readV
  rw [if_neg (by omega), if_neg (by omega)]
  have e : cut s (0 : Int).toNat ((s.size : Int)).toNat = ints s := by
    rw [cut, Int.toNat_natCast]
    exact List.take_of_length_le (by rw [show (0 : Int).toNat = 0 from rfl, List.drop_zero, ints_length]; exact Nat.le_refl _)
  rw [e, valueV_small _ (fun x hx => ints_range s x (List.mem_reverse.1 hx)) (by rw [List.length_reverse, ints_length]; exact h7)]
  unfold ints
  rw [valB_rev, Lib.toList_data]
theorem EndianOrders : masterdisclaw01_EndianOrders.Pure := by
  intro a b ha hb
  refine ⟨2, ?_⟩
  unfold masterdisclaw01_EndianOrders.f
  rw [awake1]
  simp only [Option.bind_some, masterdisclaw01_EndianOrders.j0]
  rw [if_pos trivial]
  by_cases h : (a.size : Int) = (b.size : Int)
  · rw [if_pos h]
    by_cases h1 : (a.size : Int) < 1
    · rw [if_pos h1, if_pos trivial]
    · rw [if_neg h1]
      by_cases h7 : (a.size : Int) > 7
      · rw [if_pos (decide_eq_true h7)]
      · have hl : a.toList.length = b.toList.length := by rw [Lib.toList_data, Lib.toList_data, Array.length_toList, Array.length_toList]; exact Int.ofNat.inj h
        obtain ⟨c1, c2⟩ := valB_less _ _ hl
        have bd := valB_bd a.toList
        have hla : a.toList.length = a.size := by rw [Lib.toList_data, Array.length_toList]; rfl
        rw [hla] at bd
        rw [if_neg (by simpa using h7), read_whole a (by omega) (by omega), read_whole b (by omega) (by omega)]
        simp only [Option.bind_some]
        have e1 : ((decide (valB a.toList < valB b.toList)) == (Op.bytesLess a.toList b.toList)) = true := by
          rw [beq_iff_eq, Bool.eq_iff_iff, decide_eq_true_eq]; exact c1
        have e2 : ((valB a.toList == valB b.toList) == (a.toList == b.toList)) = true := by
          rw [beq_iff_eq, Bool.eq_iff_iff, beq_iff_eq, beq_iff_eq]; exact c2
        rw [if_pos trivial, if_pos trivial, if_pos e1, if_pos e2, if_pos bd.1, w64 (by omega) (by omega), if_pos (by omega)]
        congr 1
        rw [decide_eq_true_eq]
        have e3 : ∀ m : Fin 8, shl .i64 1 (8 * (m.val : Int)) = 256 ^ m.val := by decide +kernel
        have e4 := e3 ⟨a.size, by omega⟩
        dsimp only at e4
        rw [e4]
        exact bd.2
  · rw [if_neg h, if_pos trivial]

end Go.Proofs.Ytbkakfaeeodmmaa.Pure
