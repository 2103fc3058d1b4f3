/- Reading numbers: the Lean functions of package endian's reference (01) answer as those of package endian do, at all strings, offsets and sizes; no other condition. -/
import Derived.Test.YtbkakfaeeodmmaaPEn
import Derived.Lib.Bytes
namespace Go.Proofs.Ytbkakfaeeodmmaa.Pure
open Go.RowKit Go.Proofs.Ytbkakfaeeodmmaa.G Go.Proofs.YtbkakfaeeodmmaaW.PrintWords Go.Proofs.YtbkakfaeeodmmaaW.PrintLast
/-- The number with some bytes, the lowest first. -/
def valL : List Int → Int
  | [] => 0
  | b :: l => b + 256 * valL l
theorem valL_bd (l : List Int) (h : ∀ x ∈ l, 0 ≤ x ∧ x < 256) : 0 ≤ valL l ∧ valL l < 256 ^ l.length := by
  induction l with
  | nil => simp [valL]
  | cons b l ih =>
    have h1 := ih (fun x hx => h x (List.mem_cons_of_mem _ hx))
    have h2 := h b (List.mem_cons_self ..)
    simp only [valL, List.length_cons, Int.pow_succ]
    omega
theorem valL_append (l l' : List Int) : valL (l ++ l') = valL l + 256 ^ l.length * valL l' := by
  induction l with
  | nil => simp [valL]
  | cons b l ih =>
    simp only [List.cons_append, valL, ih, List.length_cons, Int.pow_succ]
    rw [Int.mul_add, Int.mul_comm (256 ^ l.length) 256, Int.mul_assoc, Int.add_assoc]
theorem readAcc_val (s : ByteArray) (a : Nat) (pl : Nat → Nat) (l : List Int) (k : Nat) (h : ∀ i, i < k → l[i]? = some (bt s ((a + pl i : Nat) : Int))) : readAcc s a pl k = valL (l.take k) := by
  induction k with
  | zero => simp [readAcc, valL]
  | succ k ih =>
    have hk := h k (by omega)
    obtain ⟨hd, hx⟩ := List.getElem?_eq_some_iff.1 hk
    simp only [readAcc]
    rw [ih (fun i hi => h i (by omega)), List.take_succ_eq_append_getElem hd, valL_append, hx]
    simp only [valL, List.length_take, Nat.min_eq_left (Nat.le_of_lt hd)]
    rw [Int.mul_zero, Int.add_zero, Int.pow_mul, Int.mul_comm]
    rfl
/-- The bytes from an offset on. -/
def cut (s : ByteArray) (a m : Nat) : List Int := ((ints s).drop a).take m
theorem cut_length (s : ByteArray) (a m : Nat) (h : a + m ≤ s.size) : (cut s a m).length = m := by
  simp only [cut, List.length_take, List.length_drop, ints_length]; omega
theorem cut_get (s : ByteArray) (a m i : Nat) (h : a + m ≤ s.size) (hi : i < m) : (cut s a m)[i]? = some (bt s ((a + i : Nat) : Int)) := by
  simp only [cut]
  rw [List.getElem?_take_of_lt hi, List.getElem?_drop, ints_get s _ (by omega)]
theorem cut_range (s : ByteArray) (a m : Nat) : ∀ x ∈ cut s a m, 0 ≤ x ∧ x < 256 := fun x hx => ints_range s x (List.mem_of_mem_drop (List.mem_of_mem_take hx))
theorem read_le (s : ByteArray) (a m : Nat) (h : a + m ≤ s.size) : readAcc s a (fun i => i) m = valL (cut s a m) := by
  rw [readAcc_val s a _ (cut s a m) m (fun i hi => cut_get s a m i h hi), List.take_of_length_le (by rw [cut_length s a m h]; omega)]
theorem read_be (s : ByteArray) (a m : Nat) (h : a + m ≤ s.size) : readAcc s a (fun i => m - 1 - i) m = valL (cut s a m).reverse := by
  rw [readAcc_val s a _ (cut s a m).reverse m (fun i hi => by
    rw [List.getElem?_reverse (by rw [cut_length s a m h]; exact hi), cut_length s a m h, cut_get s a m _ h (by omega)]), List.take_of_length_le (by rw [List.length_reverse, cut_length s a m h]; omega)]
theorem ints_extract (s : ByteArray) (a b : Nat) (hb : b ≤ s.size) : ints (s.extract a b) = ((ints s).drop a).take (b - a) := by
  refine List.ext_getElem? fun i => ?_
  by_cases h : i < b - a
  · rw [List.getElem?_take_of_lt h, List.getElem?_drop, ints_get s _ (by omega), ints_get _ _ (by rw [ByteArray.size_extract]; omega)]
    congr 1
    have h1 : i < (s.extract a b).size := by rw [ByteArray.size_extract]; omega
    rw [← bt_at (s.extract a b) (i : Int) h1, ← bt_at s ((a + i : Nat) : Int) (show a + i < s.size by omega)]
    congr 2
    exact ByteArray.getElem_extract ..
  · rw [List.getElem?_eq_none (by rw [ints_length, ByteArray.size_extract]; omega), List.getElem?_eq_none (by rw [List.length_take]; omega)]
theorem ref_part (s : ByteArray) (a c : Int) (hs : s.size ≤ 100000) (ha : i64B a = true) (h0 : 0 ≤ c) (hc : c ≤ 1000) : masterdiscref01_part.f s a c = some (if 0 ≤ a ∧ a + c ≤ s.size then (s.extract a.toNat (a + c).toNat, true) else (⟨#[]⟩, false)) := by
  have ha' := i64B_iff.1 ha
  unfold masterdiscref01_part.f
  by_cases h1 : a < 0
  · rw [if_pos h1, if_neg (by omega)]
  · rw [if_neg h1]
    by_cases h2 : a > (s.size : Int)
    · rw [if_pos h2, if_neg (by omega)]
    · rw [if_neg h2, w64 (by omega) (by omega)]
      by_cases h3 : (s.size : Int) - a < c
      · rw [if_pos h3, if_neg (by omega)]
      · rw [if_neg h3, if_pos (by omega), w64 (by omega) (by omega), if_pos (by omega), if_pos (by omega), if_pos (by omega)]
theorem ref_value_l (s : ByteArray) (hs : s.size ≤ 8) (d : Nat) : ∀ (k : Nat) (n i : Int), 0 ≤ n → i + 1 = d → d ≤ s.size → n * 256 ^ d + valL ((ints s).take d) ≤ 9223372036854775807 → d < k →
    masterdiscref01_value.l0 k s n i = some (n * 256 ^ d + valL ((ints s).take d), 0) := by
  induction d with
  | zero =>
    intro k n i hn hd hs2 hv hk
    obtain ⟨k, rfl⟩ : ∃ j, k = j + 1 := ⟨k - 1, by omega⟩
    simp only [masterdiscref01_value.l0]
    rw [if_neg (by omega)]
    simp [valL]
  | succ d ih =>
    intro k n i hn hd hs2 hv hk
    obtain ⟨k, rfl⟩ : ∃ j, k = j + 1 := ⟨k - 1, by omega⟩
    obtain rfl : i = (d : Int) := by omega
    have hg := ints_get s d (by omega)
    obtain ⟨hdl, hx⟩ := List.getElem?_eq_some_iff.1 hg
    have hb := bt_range s (d : Int)
    have hv2 : valL ((ints s).take (d + 1)) = valL ((ints s).take d) + 256 ^ d * bt s (d : Int) := by
      rw [List.take_succ_eq_append_getElem hdl, valL_append, hx, List.length_take, Nat.min_eq_left (Nat.le_of_lt hdl)]
      simp [valL]
    have hvb := valL_bd ((ints s).take d) (fun x hx => ints_range s x (List.mem_of_mem_take hx))
    have e : n * 256 ^ (d + 1) + valL ((ints s).take (d + 1)) = (256 * n + bt s (d : Int)) * 256 ^ d + valL ((ints s).take d) := by
      rw [hv2, Int.pow_succ, Int.add_mul, Int.mul_comm (256 ^ d) 256, ← Int.mul_assoc, Int.mul_comm n 256, Int.mul_comm (bt s (d : Int)), Int.add_assoc, Int.add_comm (256 ^ d * _)]
    have hp : (1 : Int) ≤ 256 ^ d := Int.pow_pos (by decide)
    have hm : (256 * n + bt s (d : Int)) * 1 ≤ (256 * n + bt s (d : Int)) * 256 ^ d := Int.mul_le_mul_of_nonneg_left hp (by omega)
    rw [e] at hv ⊢
    simp only [masterdiscref01_value.l0]
    rw [if_pos (by omega), if_pos (by omega), if_pos (by omega), w64 (n := 256 * n) (by omega) (by omega), w64 (n := bt s (d : Int)) (by omega) (by omega), w64 (by omega) (by omega), w64 (by omega) (by omega),
      ih k _ _ (by omega) (by omega) (by omega) hv (by omega)]
/-- What 'value' answers. -/
def valueV (l : List Int) : Int × Int := if 9223372036854775807 < valL l then (0, 7) else (valL l, 0)
theorem ref_value (k : Nat) (s : ByteArray) (hs : s.size ≤ 8) (hk : 20 ≤ k) : masterdiscref01_value.f k s = some (valueV (ints s)) := by
  obtain ⟨k, rfl⟩ : ∃ j, k = j + 1 := ⟨k - 1, by omega⟩
  have main : valL (ints s) ≤ 9223372036854775807 → masterdiscref01_value.j0 (k + 1) s false = some (valueV (ints s)) := by
    intro hv
    have ht : (ints s).take s.size = ints s := List.take_of_length_le (by rw [ints_length]; omega)
    simp only [masterdiscref01_value.j0]
    rw [if_neg (by decide), w64 (by omega) (by omega), ref_value_l s hs s.size k 0 _ (by omega) (by omega) (by omega) (by rw [ht]; simpa using hv) (by omega), ht]
    unfold valueV
    rw [if_neg (by omega), Int.zero_mul, Int.zero_add]
  have hb := valL_bd (ints s) (ints_range s)
  rw [ints_length] at hb
  unfold masterdiscref01_value.f
  by_cases h8 : (s.size : Int) = 8
  · rw [if_pos h8, if_pos (by omega)]
    have h8' : s.size = 8 := by omega
    have hg := ints_get s 7 (by omega)
    obtain ⟨hdl, hx⟩ := List.getElem?_eq_some_iff.1 hg
    have hb7 := bt_range s (7 : Int)
    have hv2 : valL (ints s) = valL ((ints s).take 7) + 256 ^ 7 * bt s (7 : Int) := by
      conv => lhs; rw [← List.take_of_length_le (l := ints s) (i := 7 + 1) (by rw [ints_length]; omega)]
      rw [List.take_succ_eq_append_getElem hdl, valL_append, hx, List.length_take, Nat.min_eq_left (Nat.le_of_lt hdl)]
      simp [valL]
    have hvb := valL_bd ((ints s).take 7) (fun x hx => ints_range s x (List.mem_of_mem_take hx))
    rw [List.length_take, Nat.min_eq_left (Nat.le_of_lt hdl)] at hvb
    by_cases h : bt s 7 > 127
    · rw [decide_eq_true h]
      simp only [masterdiscref01_value.j0]
      rw [if_pos trivial]
      unfold valueV
      rw [if_pos (by omega)]
    · rw [decide_eq_false h]
      exact main (by omega)
  · rw [if_neg h8]
    refine main ?_
    have h7 : 256 ^ s.size ≤ 256 ^ 7 := Nat.pow_le_pow_right (by decide) (by omega)
    have e7 : ((256 : Int) ^ s.size) = ((256 ^ s.size : Nat) : Int) := by simp
    omega
/-! ### ReadLittle, ReadBig, ReadBoth -/
/-- What reading answers, the bytes turned by 'f'. -/
def readV (s : ByteArray) (a size : Int) (f : List Int → List Int) : Int × Int :=
  if size < 1 ∨ 8 < size then (0, 1) else if ¬ (0 ≤ a ∧ a + size ≤ s.size) then (0, 2) else valueV (f (cut s a.toNat size.toNat))
theorem ReadLittle_val {s : ByteArray} (hs : s.size ≤ 100000) (a size : Int) : endian_ReadLittle.f s a size = some (readV s a size id) := by
  unfold endian_ReadLittle.f readF readV
  rw [if_pos (by omega)]
  split
  · rfl
  · split
    · rfl
    · rw [read_le s _ _ (by omega)]
      rfl
theorem ReadBig_val {s : ByteArray} (hs : s.size ≤ 100000) (a size : Int) : endian_ReadBig.f s a size = some (readV s a size List.reverse) := by
  unfold endian_ReadBig.f readF readV
  rw [if_pos (by omega)]
  split
  · rfl
  · split
    · rfl
    · rw [read_be s _ _ (by omega)]
      rfl
theorem cut_ints (s : ByteArray) (a c : Int) (h0 : 0 ≤ a) (hc : 0 ≤ c) (h : a + c ≤ s.size) : ints (s.extract a.toNat (a + c).toNat) = cut s a.toNat c.toNat := by
  rw [ints_extract s _ _ (by omega), cut, show (a + c).toNat - a.toNat = c.toNat by omega]
theorem ref_ReadLittle (k : Nat) (s : ByteArray) (a size : Int) (hs : s.size ≤ 100000) (ha : i64B a = true) (hk : 30 ≤ k) : masterdiscref01_ReadLittle.f k s a size = some (readV s a size id) := by
  obtain ⟨k, rfl⟩ : ∃ j, k = j + 1 := ⟨k - 1, by omega⟩
  unfold masterdiscref01_ReadLittle.f readV
  simp only [masterdiscref01_ReadLittle.j0]
  by_cases h1 : size < 1
  · rw [if_pos h1, if_pos trivial, if_pos (Or.inl h1)]
  · rw [if_neg h1]
    by_cases h2 : 8 < size
    · rw [if_pos (decide_eq_true h2), if_pos (Or.inr h2)]
    · rw [if_neg (by simpa using h2), if_neg (c := size < 1 ∨ 8 < size) (by omega), ref_part s a size hs ha (by omega) (by omega)]
      simp only [Option.bind_some]
      by_cases h3 : 0 ≤ a ∧ a + size ≤ s.size
      · rw [if_pos h3, if_neg (not_not_intro h3), if_pos rfl, ref_value k _ (by rw [ByteArray.size_extract]; omega) (by omega), cut_ints s a size h3.1 (by omega) h3.2]
        rfl
      · rw [if_neg h3, if_pos h3, if_neg (by decide)]
theorem ref_ReadBig (k : Nat) (s : ByteArray) (a size : Int) (hs : s.size ≤ 100000) (ha : i64B a = true) (hk : 30 ≤ k) : masterdiscref01_ReadBig.f k s a size = some (readV s a size List.reverse) := by
  obtain ⟨k, rfl⟩ : ∃ j, k = j + 1 := ⟨k - 1, by omega⟩
  unfold masterdiscref01_ReadBig.f readV
  simp only [masterdiscref01_ReadBig.j0]
  by_cases h1 : size < 1
  · rw [if_pos h1, if_pos trivial, if_pos (Or.inl h1)]
  · rw [if_neg h1]
    by_cases h2 : 8 < size
    · rw [if_pos (decide_eq_true h2), if_pos (Or.inr h2)]
    · rw [if_neg (by simpa using h2), if_neg (c := size < 1 ∨ 8 < size) (by omega), ref_part s a size hs ha (by omega) (by omega)]
      simp only [Option.bind_some]
      by_cases h3 : 0 ≤ a ∧ a + size ≤ s.size
      · have hz : (s.extract a.toNat (a + size).toNat).size ≤ 8 := by rw [ByteArray.size_extract]; omega
        rw [if_pos h3, if_neg (not_not_intro h3), if_pos rfl, ref_Reverse k _ (by show (s.extract a.toNat (a + size).toNat).size ≤ 100000; omega) (by show (s.extract a.toNat (a + size).toNat).size < k; omega)]
        simp only [Option.bind_some]
        rw [ref_value k _ (by rw [strOfNums_size, List.length_reverse, ints_length]; exact hz) (by omega), ints_str _ (fun x hx => ints_range _ x (List.mem_reverse.1 hx)), cut_ints s a size h3.1 (by omega) h3.2]
        rfl
      · rw [if_neg h3, if_pos h3, if_neg (by decide)]
theorem valL_inj : ∀ (l l' : List Int), l.length = l'.length → (∀ x ∈ l, 0 ≤ x ∧ x < 256) → (∀ x ∈ l', 0 ≤ x ∧ x < 256) → valL l = valL l' → l = l'
  | [], [], _, _, _, _ => rfl
  | [], _ :: _, h, _, _, _ => by simp at h
  | _ :: _, [], h, _, _, _ => by simp at h
  | a :: l, b :: l', h, h1, h2, e => by
    have ha := h1 a (List.mem_cons_self ..)
    have hb := h2 b (List.mem_cons_self ..)
    simp only [valL] at e
    have e1 : a = b := by omega
    have e2 : valL l = valL l' := by omega
    rw [e1, valL_inj l l' (by simpa using h) (fun x hx => h1 x (List.mem_cons_of_mem _ hx)) (fun x hx => h2 x (List.mem_cons_of_mem _ hx)) e2]
/-- What ReadBoth answers. -/
def readBothV (s : ByteArray) (a size : Int) : Int × Bool × Int :=
  if size = 1 ∨ size = 2 ∨ size = 4 then
    (if 0 ≤ a ∧ a + 2 * size ≤ s.size then (valL (cut s a.toNat size.toNat), decide (valL (cut s a.toNat size.toNat) = valL (cut s (a.toNat + size.toNat) size.toNat).reverse), 0) else (0, false, 2))
  else (0, false, 1)
theorem valueV_small (l : List Int) (h : ∀ x ∈ l, 0 ≤ x ∧ x < 256) (hl : l.length ≤ 7) : valueV l = (valL l, 0) := by
  have hb := valL_bd l h
  have h7 : 256 ^ l.length ≤ 256 ^ 7 := Nat.pow_le_pow_right (by decide) hl
  have e7 : ((256 : Int) ^ l.length) = ((256 ^ l.length : Nat) : Int) := by simp
  unfold valueV
  rw [if_neg (by omega)]
theorem ReadBoth_val {s : ByteArray} (hs : s.size ≤ 100000) (a size : Int) (ha : i64B a = true) : endian_ReadBoth.f s a size = some (readBothV s a size) := by
  have ha' := i64B_iff.1 ha
  unfold endian_ReadBoth.f readBothV
  rw [double_val]
  simp only [Option.bind_some, decide_eq_true_eq]
  by_cases h : size = 1 ∨ size = 2 ∨ size = 4
  · rw [if_pos h, if_pos h, w64 (by omega) (by omega), inside_val s a _ (by omega) (by omega) (by omega)]
    simp only [Option.bind_some, decide_eq_true_eq]
    by_cases h2 : 0 ≤ a ∧ a + 2 * size ≤ s.size
    · rw [if_pos h2, if_pos h2, w64 (by omega) (by omega), ReadLittle_val hs, ReadBig_val hs]
      simp only [Option.bind_some]
      unfold readV
      rw [if_neg (by omega), if_neg (by omega), if_neg (by omega), if_neg (by omega), id_eq, valueV_small _ (cut_range _ _ _) (by rw [cut_length _ _ _ (by omega)]; omega),
        valueV_small _ (fun x hx => cut_range _ _ _ x (List.mem_reverse.1 hx)) (by rw [List.length_reverse, cut_length _ _ _ (by omega)]; omega), show (a + size).toNat = a.toNat + size.toNat by omega]
      congr 2
    · rw [if_neg h2, if_neg h2]
  · rw [if_neg h, if_neg h]
theorem ref_ReadBoth (k : Nat) (s : ByteArray) (a size : Int) (hs : s.size ≤ 100000) (ha : i64B a = true) (hk : 30 ≤ k) : masterdiscref01_ReadBoth.f k s a size = some (readBothV s a size) := by
  have ha' := i64B_iff.1 ha
  obtain ⟨k, rfl⟩ : ∃ j, k = j + 1 := ⟨k - 1, by omega⟩
  have main : size = 1 ∨ size = 2 ∨ size = 4 → masterdiscref01_ReadBoth.j0 (k + 1) s a size false = some (readBothV s a size) := by
    intro h
    simp only [masterdiscref01_ReadBoth.j0]
    rw [if_neg (by decide), w64 (by omega) (by omega), ref_part s a (2 * size) hs ha (by omega) (by omega)]
    simp only [Option.bind_some]
    unfold readBothV
    rw [if_pos h]
    by_cases h3 : 0 ≤ a ∧ a + 2 * size ≤ s.size
    · have hz : (s.extract a.toNat (a + 2 * size).toNat).size = (2 * size).toNat := by rw [ByteArray.size_extract]; omega
      rw [if_pos h3, if_pos h3, if_pos rfl, if_pos (by omega), if_pos (by rw [hz]; omega)]
      have e1 : ints ((s.extract a.toNat (a + 2 * size).toNat).extract 0 size.toNat) = cut s a.toNat size.toNat := by
        rw [ints_extract _ _ _ (by rw [hz]; omega), cut_ints s a (2 * size) h3.1 (by omega) h3.2, cut, List.drop_zero, List.take_take, cut]
        congr 1
        omega
      have e2 : ints ((s.extract a.toNat (a + 2 * size).toNat).extract size.toNat (s.extract a.toNat (a + 2 * size).toNat).size) = cut s (a.toNat + size.toNat) size.toNat := by
        rw [ints_extract _ _ _ (Nat.le_refl _), cut_ints s a (2 * size) h3.1 (by omega) h3.2, cut, hz, List.drop_take, List.drop_drop, List.take_take, cut]
        congr 1
        omega
      have z1 : ((s.extract a.toNat (a + 2 * size).toNat).extract 0 size.toNat).size ≤ 8 := by rw [ByteArray.size_extract, hz]; omega
      rw [ref_value k _ z1 (by omega), ref_Reverse k _ (by show ((s.extract a.toNat (a + 2 * size).toNat).extract 0 size.toNat).size ≤ 100000; omega) (by show ((s.extract a.toNat (a + 2 * size).toNat).extract 0 size.toNat).size < k; omega), e1,
        valueV_small _ (cut_range _ _ _) (by rw [cut_length _ _ _ (by omega)]; omega)]
      simp only [Option.bind_some]
      congr 3
      have el1 : (cut s a.toNat size.toNat).length = (cut s (a.toNat + size.toNat) size.toNat).reverse.length := by rw [List.length_reverse, cut_length _ _ _ (by omega), cut_length _ _ _ (by omega)]
      rw [Bool.eq_iff_iff, beq_iff_eq, decide_eq_true_eq]
      generalize hx : (s.extract a.toNat (a + 2 * size).toNat).extract size.toNat (s.extract a.toNat (a + 2 * size).toNat).size = x at e2 ⊢
      rw [← str_ints x, e2, Lib.strOfNums_toList, Lib.strOfNums_toList]
      constructor
      · intro e
        have e3 : strOfNums (cut s (a.toNat + size.toNat) size.toNat) = strOfNums (cut s a.toNat size.toNat).reverse := by
          unfold Lib.bytesOf at e
          unfold strOfNums
          rw [e]
        rw [str_inj (cut_range _ _ _) (fun x hx => cut_range _ _ _ x (List.mem_reverse.1 hx)) e3, List.reverse_reverse]
      · intro e
        rw [valL_inj _ _ el1 (cut_range _ _ _) (fun x hx => cut_range _ _ _ x (List.mem_reverse.1 hx)) e, List.reverse_reverse]
    · rw [if_neg h3, if_neg h3, if_neg (by decide)]
  unfold masterdiscref01_ReadBoth.f
  by_cases h1 : size = 1
  · rw [if_pos h1]; exact main (Or.inl h1)
  · rw [if_neg h1]
    by_cases h2 : size = 2
    · rw [if_pos h2]; exact main (Or.inr (Or.inl h2))
    · rw [if_neg h2]
      by_cases h4 : size = 4
      · rw [show (size != 4) = false by simp [h4]]
        exact main (Or.inr (Or.inr h4))
      · rw [show (size != 4) = true by simp [h4]]
        simp only [masterdiscref01_ReadBoth.j0]
        rw [if_pos trivial]
        unfold readBothV
        rw [if_neg (by omega)]
theorem ints_append (s t : ByteArray) : ints (s ++ t) = ints s ++ ints t := by
  unfold ints
  rw [ByteArray.data_append, Array.toList_append, List.map_append]
end Go.Proofs.Ytbkakfaeeodmmaa.Pure
