/- EndianPuts' Lean function answers true at all strings and offsets; no other condition. -/
import Derived.Test.YtbkakfaeeodmmaaXlaw01EndianPuts
import Derived.Test.YtbkakfaeeodmmaaPEr
namespace Go.Proofs.Ytbkakfaeeodmmaa.Pure
open Go.RowKit Go.Proofs.Ytbkakfaeeodmmaa.G Go.Proofs.YtbkakfaeeodmmaaW.PrintWords Go.Proofs.YtbkakfaeeodmmaaW.PrintLast

theorem bt_of_get {s : ByteArray} {i : Nat} {x : Int} (h : (ints s)[i]? = some x) : bt s (i : Int) = x := by
  have hi : i < s.size := by rw [← ints_length]; exact (List.getElem?_eq_some_iff.1 h).1
  rw [ints_get s i hi] at h
  exact Option.some.inj h
theorem Put_val (s : ByteArray) (a : Int) (p : ByteArray) (hs : s.size ≤ 80) (hp : p.size ≤ 80) :
    (0 ≤ a ∧ a + p.size ≤ s.size → ∃ r, endian_Put.f s a p = some (r, 0) ∧ r.size = s.size ∧ ∀ i : Nat, i < s.size → bt r (i : Int) = if a ≤ i ∧ (i : Int) < a + p.size then bt p ((i : Int) - a) else bt s (i : Int)) ∧
    (¬ (0 ≤ a ∧ a + p.size ≤ s.size) → endian_Put.f s a p = some (⟨#[]⟩, 2)) := by
  unfold endian_Put.f
  rw [inside_val s a p.size (by omega) (by omega) (by omega)]
  simp only [Option.bind_some, decide_eq_true_eq]
  refine ⟨fun h => ?_, fun h => by rw [if_neg h]⟩
  obtain ⟨q, rfl⟩ := Int.eq_ofNat_of_zero_le h.1
  rw [if_pos h, if_pos h.1, if_pos (by omega), w64 (by omega) (by omega), if_pos (by rw [ByteArray.size_extract]; omega), if_pos (by omega), if_pos (by omega),
    if_pos (by rw [ByteArray.size_append, ByteArray.size_extract, ByteArray.size_extract]; omega)]
  have et : ((q : Int) + (p.size : Int)).toNat = q + p.size := by omega
  rw [et, Int.toNat_natCast]
  have e : ints (s.extract 0 q ++ p ++ s.extract (q + p.size) s.size) = ((ints s).take q ++ ints p) ++ (ints s).drop (q + p.size) := by
    rw [ints_append, ints_append, ints_extract _ _ _ (by omega), ints_extract _ _ _ (Nat.le_refl _), List.drop_zero, Nat.sub_zero]
    congr 1
    rw [List.take_of_length_le (by rw [List.length_drop, ints_length]; omega)]
  refine ⟨_, rfl, by rw [ByteArray.size_append, ByteArray.size_append, ByteArray.size_extract, ByteArray.size_extract]; omega, fun i hi => ?_⟩
  refine bt_of_get ?_
  rw [e]
  have hl : ((ints s).take q).length = q := by rw [List.length_take, ints_length]; omega
  have hl2 : ((ints s).take q ++ ints p).length = q + p.size := by rw [List.length_append, hl, ints_length]
  by_cases h1 : i < q
  · rw [List.getElem?_append_left (by omega), List.getElem?_append_left (by omega), List.getElem?_take_of_lt h1, ints_get s i hi, if_neg (by omega)]
  · by_cases h2 : i < q + p.size
    · rw [List.getElem?_append_left (by omega), List.getElem?_append_right (by omega), hl, ints_get p _ (by omega), if_pos (by omega)]
      congr 2
      omega
    · rw [List.getElem?_append_right (by omega), hl2, List.getElem?_drop, show q + p.size + (i - (q + p.size)) = i by omega, ints_get s i hi, if_neg (by omega)]
theorem Puts_l (s : ByteArray) (a : Int) (p r : ByteArray) (hs : s.size ≤ 80) (hp : p.size ≤ 80) (ha : 0 ≤ a) (ha2 : a + p.size ≤ s.size) (hr : r.size = s.size)
    (H : ∀ i : Nat, i < s.size → bt r (i : Int) = if a ≤ i ∧ (i : Int) < a + p.size then bt p ((i : Int) - a) else bt s (i : Int)) (d : Nat) :
    ∀ (k i : Nat), i ≤ s.size → s.size - i = d → 2 * d < k → masterdisclaw01_EndianPuts.l0 k s a p r (s.size : Int) (i : Int) = some true := by
  induction d with
  | zero =>
    intro k i hi hd hk
    obtain ⟨k, rfl⟩ : ∃ j, k = j + 1 := ⟨k - 1, by omega⟩
    simp only [masterdisclaw01_EndianPuts.l0]
    rw [if_neg (by omega)]
  | succ d ih =>
    intro k i hi hd hk
    obtain ⟨k, rfl⟩ : ∃ j, k = j + 1 + 1 := ⟨k - 2, by omega⟩
    have hi2 : i < s.size := by omega
    have c1 : (i : Int) < (s.size : Int) := by omega
    have c2 : (0 : Int) ≤ (i : Int) := by omega
    have c3 : (i : Int) < (r.size : Int) := by omega
    have hk2 : i + 1 ≤ s.size ∧ s.size - (i + 1) = d ∧ 2 * d < k := by omega
    obtain ⟨w1, w2, e⟩ : wrap64 (a + p.size) = a + p.size ∧ wrap64 ((i : Int) - a) = (i : Int) - a ∧ wrap64 ((i : Int) + 1) = ((i + 1 : Nat) : Int) :=
      ⟨w64 (by omega) (by omega), w64 (by omega) (by omega), w64 (by omega) (by omega)⟩
    have hn := ih k (i + 1) hk2.1 hk2.2.1 hk2.2.2
    have hv := H i hi2
    simp only [masterdisclaw01_EndianPuts.l0, masterdisclaw01_EndianPuts.j4]
    by_cases h1 : a ≤ (i : Int)
    · by_cases h2 : (i : Int) < a + p.size
      · have c4 : (0 : Int) ≤ (i : Int) - a := Int.sub_nonneg_of_le h1
        have c5 : (i : Int) - a < (p.size : Int) := Int.sub_left_lt_of_lt_add h2
        rw [if_pos ⟨h1, h2⟩] at hv
        rw [if_pos c1, if_pos c2, if_pos c1, if_pos h1, w1, if_pos (decide_eq_true h2), w2, if_pos c4, if_pos c5, if_pos c2, if_pos c3, if_pos hv, e]
        exact hn
      · rw [if_neg (fun h => h2 h.2)] at hv
        rw [if_pos c1, if_pos c2, if_pos c1, if_pos h1, w1, if_neg (by rw [decide_eq_true_eq]; exact h2), if_pos c2, if_pos c3, if_pos hv, e]
        exact hn
    · rw [if_neg (fun h => h1 h.1)] at hv
      rw [if_pos c1, if_pos c2, if_pos c1, if_neg h1, if_neg (by decide), if_pos c2, if_pos c3, if_pos hv, e]
      exact hn
theorem EndianPuts : masterdisclaw01_EndianPuts.Pure := by
  intro s a p hs0 ha hp0
  have ha' := i64B_iff.1 (wf_i64B ha)
  refine ⟨300, ?_⟩
  unfold masterdisclaw01_EndianPuts.f
  rw [awake1]
  simp only [Option.bind_some]
  rw [if_pos trivial]
  have short : masterdisclaw01_EndianPuts.j0 300 s a p true = some true := by
    simp only [masterdisclaw01_EndianPuts.j0]
    rw [if_pos trivial]
  by_cases hs : (s.size : Int) > 80
  · rw [if_pos hs]; exact short
  · rw [if_neg hs]
    by_cases hp : (p.size : Int) > 80
    · rw [decide_eq_true hp]; exact short
    · rw [decide_eq_false hp]
      simp only [masterdisclaw01_EndianPuts.j0]
      rw [if_neg (by decide)]
      obtain ⟨h1, h2⟩ := Put_val s a p (by omega) (by omega)
      by_cases h : 0 ≤ a ∧ a + p.size ≤ s.size
      · obtain ⟨r, hr, hz, H⟩ := h1 h
        rw [hr]
        simp only [Option.bind_some]
        rw [if_neg (by omega), if_neg (by omega), w64 (by omega) (by omega), decide_eq_false (by omega)]
        simp only [masterdisclaw01_EndianPuts.j1]
        rw [if_neg (by decide), if_pos trivial, show ((r.size : Int) != (s.size : Int)) = false by simp [hz]]
        simp only [masterdisclaw01_EndianPuts.j2]
        rw [if_neg (by decide)]
        exact Puts_l s a p r (by omega) (by omega) h.1 h.2 hz H s.size 297 0 (by omega) (by omega) (by omega)
      · rw [h2 h]
        simp only [Option.bind_some]
        have e : masterdisclaw01_EndianPuts.j1 299 s a p ⟨#[]⟩ 2 true = some true := by
          simp only [masterdisclaw01_EndianPuts.j1]
          rw [if_pos trivial, if_pos trivial]
          decide +kernel
        by_cases c1 : a < 0
        · rw [if_pos c1]; exact e
        · rw [if_neg c1]
          by_cases c2 : a > (s.size : Int)
          · rw [if_pos c2]; exact e
          · rw [if_neg c2, w64 (by omega) (by omega), decide_eq_true (by omega)]; exact e

end Go.Proofs.Ytbkakfaeeodmmaa.Pure
