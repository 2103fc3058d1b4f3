/- EndianReturns' Lean function answers true at all numbers, sizes and strings; no other condition. -/
import Derived.Test.YtbkakfaeeodmmaaXlaw01EndianReturns
import Derived.Test.YtbkakfaeeodmmaaPEr
namespace Go.Proofs.Ytbkakfaeeodmmaa.Pure
open Go.RowKit Go.Proofs.Ytbkakfaeeodmmaa.G Go.Proofs.YtbkakfaeeodmmaaW.PrintWords Go.Proofs.YtbkakfaeeodmmaaW.PrintLast

theorem valL_le (n : Int) (m : Nat) (h0 : 0 ≤ n) (h : n < 256 ^ m) : valL (leL n m) = n := by
  induction m generalizing n with
  | zero => simp [valL, leL]; simp at h; omega
  | succ m ih =>
    simp only [leL, valL]
    rw [Int.pow_succ] at h
    rw [ih (n / 256) (by omega) (Int.ediv_lt_of_lt_mul (by decide) h)]
    omega
theorem cut_mid (b x a : ByteArray) (l : List Int) (h : ints x = l) : cut (b ++ x ++ a) b.size l.length = l := by
  rw [cut, ints_append, ints_append, List.append_assoc, List.drop_append_of_le_length (by rw [ints_length]; exact Nat.le_refl _), List.drop_of_length_le (by rw [ints_length]; exact Nat.le_refl _), List.nil_append, h, List.take_left]
theorem chk_lt {n size : Int} {m : Nat} (hn : i64B n = true) (h : chkE n size = 0) (hm : m ≤ 8) (hm1 : 1 ≤ m) (e : size = m) : n < 256 ^ m := by
  subst e
  have := chk_fits n m hm1 hm (i64B_iff.1 hn).2
  rw [h] at this
  by_cases c : 0 ≤ n ∧ n < 256 ^ m
  · exact c.2
  · rw [if_neg c] at this; cases this
theorem valueV_le (n : Int) (m : Nat) (hn : i64B n = true) (h0 : 0 ≤ n) (h : n < 256 ^ m) : valueV (leL n m) = (n, 0) := by
  unfold valueV
  rw [valL_le n m h0 h, if_neg (by have := (i64B_iff.1 hn).2; omega)]
theorem readV_mid (b x a : ByteArray) (m : Nat) (f : List Int → List Int) (hx : x.size = m) (h1 : 1 ≤ m) (h8 : m ≤ 8) : readV (b ++ x ++ a) (b.size : Int) (m : Int) f = valueV (f (ints x)) := by
  have hzz : (b ++ x ++ a).size = b.size + m + a.size := by rw [ByteArray.size_append, ByteArray.size_append, hx]
  have c1 := cut_mid b x a _ rfl
  rw [ints_length, hx] at c1
  unfold readV
  rw [if_neg (by omega), hzz, if_neg (show ¬ ¬ (0 ≤ (b.size : Int) ∧ (b.size : Int) + (m : Int) ≤ ((b.size + m + a.size : Nat) : Int)) by omega), Int.toNat_natCast, Int.toNat_natCast, c1]
theorem Returns_2 (k : Nat) (n size : Int) (b a : ByteArray) (hn : i64B n = true) (hb : b.size ≤ 40) (ha : a.size ≤ 40) : masterdisclaw01_EndianReturns.j2 (k + 1) n size b a = some true := by
  simp only [masterdisclaw01_EndianReturns.j2]
  rw [Both_val hn]
  simp only [Option.bind_some]
  unfold bothV
  by_cases hs : size = 1 ∨ size = 2 ∨ size = 4
  · rw [if_pos hs]
    by_cases h : chkE n size = 0
    · rw [if_pos h]
      obtain ⟨m, hm, hm1, rfl, h0⟩ := chk_ok h
      have hlt := chk_lt hn h hm hm1 rfl
      have hl := leL_length n m
      have hl2 : (leL n m).reverse.length = m := by rw [List.length_reverse, hl]
      have hz : (strOfNums (leL n m) ++ strOfNums (leL n m).reverse).size = 2 * m := by rw [ByteArray.size_append, strOfNums_size, strOfNums_size, hl, hl2]; omega
      have hi : ints (strOfNums (leL n m) ++ strOfNums (leL n m).reverse) = leL n m ++ (leL n m).reverse := by rw [ints_append, ints_str _ (leL_range n m), ints_str _ (leL_rev_range n m)]
      rw [Int.toNat_natCast]
      simp only
      rw [if_pos trivial, hz, if_pos (by omega), ByteArray.size_append, hz, if_pos (by omega)]
      have hzz : (b ++ (strOfNums (leL n m) ++ strOfNums (leL n m).reverse) ++ a).size = b.size + 2 * m + a.size := by rw [ByteArray.size_append, ByteArray.size_append, hz]
      rw [ReadBoth_val (by omega) _ _ (i64B_iff.2 (by omega))]
      simp only [Option.bind_some]
      unfold readBothV
      rw [if_pos hs, hzz, if_pos (show 0 ≤ (b.size : Int) ∧ (b.size : Int) + 2 * (m : Int) ≤ ((b.size + 2 * m + a.size : Nat) : Int) by omega), Int.toNat_natCast, Int.toNat_natCast]
      have c1 : cut (b ++ (strOfNums (leL n m) ++ strOfNums (leL n m).reverse) ++ a) b.size m = leL n m := by
        have := cut_mid b _ a _ hi
        rw [List.length_append, hl, hl2] at this
        have e : cut (b ++ (strOfNums (leL n m) ++ strOfNums (leL n m).reverse) ++ a) b.size m = (cut (b ++ (strOfNums (leL n m) ++ strOfNums (leL n m).reverse) ++ a) b.size (m + m)).take m := by
          unfold cut; rw [List.take_take]; congr 1; omega
        rw [e, this, List.take_left' hl]
      have c2 : cut (b ++ (strOfNums (leL n m) ++ strOfNums (leL n m).reverse) ++ a) (b.size + m) m = (leL n m).reverse := by
        have := cut_mid b _ a _ hi
        rw [List.length_append, hl, hl2] at this
        have e : cut (b ++ (strOfNums (leL n m) ++ strOfNums (leL n m).reverse) ++ a) (b.size + m) m = (cut (b ++ (strOfNums (leL n m) ++ strOfNums (leL n m).reverse) ++ a) b.size (m + m)).drop m := by
          unfold cut; rw [List.drop_take, List.drop_drop]; congr 1; omega
        rw [e, this, List.drop_left' hl]
      rw [c1, c2, List.reverse_reverse, valL_le n m h0 hlt]
      simp only
      rw [if_pos trivial, if_pos (by simp), if_pos trivial, w64 (by omega) (by omega)]
      congr 1
      rw [beq_iff_eq]
      omega
    · rw [if_neg h]
      simp only
      rw [if_neg (by decide)]
      decide +kernel
  · rw [if_neg hs]
    simp only
    rw [if_neg (by decide)]
    decide +kernel
theorem Returns_1 (k : Nat) (n size : Int) (b a : ByteArray) (hn : i64B n = true) (hb : b.size ≤ 40) (ha : a.size ≤ 40) : masterdisclaw01_EndianReturns.j1 (k + 2) n size b a = some true := by
  simp only [masterdisclaw01_EndianReturns.j1]
  rw [Big_val hn]
  simp only [Option.bind_some]
  by_cases h : chkE n size = 0
  · rw [if_pos h]
    obtain ⟨m, hm, hm1, rfl, h0⟩ := chk_ok h
    have hlt := chk_lt hn h hm hm1 rfl
    have hl2 : (leL n m).reverse.length = m := by rw [List.length_reverse, leL_length]
    have hz : (strOfNums (leL n m).reverse).size = m := by rw [strOfNums_size, hl2]
    rw [Int.toNat_natCast]
    simp only
    rw [if_pos trivial, hz, if_pos (by omega), ByteArray.size_append, hz, if_pos (by omega)]
    have hzz : (b ++ strOfNums (leL n m).reverse ++ a).size = b.size + m + a.size := by rw [ByteArray.size_append, ByteArray.size_append, hz]
    rw [ReadBig_val (by omega), readV_mid b _ a m _ hz hm1 hm, ints_str _ (leL_rev_range n m), List.reverse_reverse, valueV_le n m hn h0 hlt]
    simp only [Option.bind_some]
    rw [if_pos trivial, if_pos trivial, if_pos trivial]
    exact Returns_2 k n m b a hn hb ha
  · rw [if_neg h]
    simp only
    rw [if_neg h, if_pos (by decide +kernel)]
    exact Returns_2 k n size b a hn hb ha
theorem EndianReturns : masterdisclaw01_EndianReturns.Pure := by
  intro n size b a hn hz hb ha
  have hn' := wf_i64B hn
  refine ⟨3, ?_⟩
  unfold masterdisclaw01_EndianReturns.f
  rw [awake1]
  simp only [Option.bind_some]
  rw [if_pos trivial]
  have short : masterdisclaw01_EndianReturns.j0 3 n size b a true = some true := by
    simp only [masterdisclaw01_EndianReturns.j0]
    rw [if_pos trivial]
  by_cases h1 : (b.size : Int) > 40
  · rw [if_pos h1]; exact short
  · rw [if_neg h1]
    by_cases h2 : (a.size : Int) > 40
    · rw [decide_eq_true h2]; exact short
    · rw [decide_eq_false h2]
      have hb' : b.size ≤ 40 := by omega
      have ha' : a.size ≤ 40 := by omega
      simp only [masterdisclaw01_EndianReturns.j0]
      rw [if_neg (by decide), Little_val hn']
      simp only [Option.bind_some]
      by_cases h : chkE n size = 0
      · rw [if_pos h]
        obtain ⟨m, hm, hm1, rfl, h0⟩ := chk_ok h
        have hlt := chk_lt hn' h hm hm1 rfl
        have hl := leL_length n m
        have hzz1 : (strOfNums (leL n m)).size = m := by rw [strOfNums_size, hl]
        rw [Int.toNat_natCast]
        simp only
        rw [if_pos trivial, hzz1, if_pos (by omega), ByteArray.size_append, hzz1, if_pos (by omega)]
        have hzz : (b ++ strOfNums (leL n m) ++ a).size = b.size + m + a.size := by rw [ByteArray.size_append, ByteArray.size_append, hzz1]
        rw [ReadLittle_val (by omega), readV_mid b _ a m _ hzz1 hm1 hm, ints_str _ (leL_range n m), id_eq, valueV_le n m hn' h0 hlt]
        simp only [Option.bind_some]
        rw [if_pos trivial, if_pos trivial, if_pos trivial]
        exact Returns_1 0 n m b a hn' hb' ha'
      · rw [if_neg h]
        simp only
        rw [if_neg h, if_pos (by decide +kernel)]
        exact Returns_1 0 n size b a hn' hb' ha'

end Go.Proofs.Ytbkakfaeeodmmaa.Pure
