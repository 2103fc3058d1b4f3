/- The Lean functions of package endian's reference (01) answer as those of package endian do, at all numbers and strings; no other condition. -/
import Derived.Test.YtbkakfaeeodmmaaHEn
import Derived.Test.YtbkakfaeeodmmaaXRa
import Derived.Test.YtbkakfaeeodmmaaXRb
import Derived.Test.YtbkakfaeeodmmaaXEo
import Derived.Test.YtbkakfaeeodmmaaXAw1
namespace Go.Proofs.Ytbkakfaeeodmmaa.Pure
open Go.RowKit Go.Proofs.Ytbkakfaeeodmmaa.G Go.Proofs.YtbkakfaeeodmmaaW.PrintWords Go.Proofs.YtbkakfaeeodmmaaW.PrintLast

theorem w64 {n : Int} (h1 : -9223372036854775808 ≤ n) (h2 : n ≤ 9223372036854775807) : wrap64 n = n := by unfold wrap64; omega
theorem awake1 : masterdisclaw01_awake.f = some true := by decide +kernel
/-- The m lowest bytes of a number, the lowest first. -/
def leL (n : Int) : Nat → List Int
  | 0 => []
  | m + 1 => n % 256 :: leL (n / 256) m
theorem leL_length (n : Int) (m : Nat) : (leL n m).length = m := by
  induction m generalizing n with
  | zero => rfl
  | succ m ih => simp [leL, ih]
theorem byteAt_succ (n : Int) (i : Nat) : byteAt (n / 256) i = byteAt n (i + 1) := by
  unfold byteAt
  rw [Nat.mul_succ, Int.pow_add, Int.mul_comm, show (2 : Int) ^ 8 = 256 from rfl, ← Int.ediv_ediv_of_nonneg (by decide)]
theorem leL_get (n : Int) (m i : Nat) (h : i < m) : (leL n m)[i]? = some (byteAt n i) := by
  induction m generalizing n i with
  | zero => omega
  | succ m ih =>
    cases i with
    | zero => simp [leL, byteAt]
    | succ i => simp only [leL, List.getElem?_cons_succ]; rw [ih _ _ (by omega), byteAt_succ]
theorem leL_range (n : Int) (m : Nat) : ∀ x ∈ leL n m, 0 ≤ x ∧ x < 256 := by
  induction m generalizing n with
  | zero => simp [leL]
  | succ m ih =>
    intro x hx
    simp only [leL, List.mem_cons] at hx
    rcases hx with rfl | hx
    · omega
    · exact ih _ x hx
theorem enPut_get (n : Int) (m : Nat) (pl : Nat → Nat) (hpl : ∀ i, i < m → pl i < m) (hinj : ∀ i j, i < m → j < m → pl i = pl j → i = j) (k i : Nat) (hk : k ≤ m) (hi : i < k) :
    (enPut n m pl k)[pl i]? = some (byteAt n i) := by
  induction k with
  | zero => omega
  | succ k ih =>
    simp only [enPut]
    by_cases e : i = k
    · subst e
      rw [List.getElem?_set_self (by rw [enPut_length]; exact hpl i (by omega))]
    · rw [List.getElem?_set_ne (fun h => e (hinj _ _ (by omega) (by omega) h.symm)), ih (by omega) (by omega)]
theorem enLe_eq (n : Int) (m : Nat) : enLe n m = strOfNums (leL n m) := by
  unfold enLe
  congr 1
  refine List.ext_getElem? fun i => ?_
  by_cases h : i < m
  · rw [enPut_get n m (fun i => i) (fun _ h => h) (fun _ _ _ _ h => h) m i (Nat.le_refl _) h, leL_get n m i h]
  · rw [List.getElem?_eq_none (by rw [enPut_length]; omega), List.getElem?_eq_none (by rw [leL_length]; omega)]
theorem enBe_eq (n : Int) (m : Nat) : enBe n m = strOfNums (leL n m).reverse := by
  unfold enBe
  congr 1
  refine List.ext_getElem? fun i => ?_
  by_cases h : i < m
  · have := enPut_get n m (fun i => m - 1 - i) (fun _ h => by omega) (fun _ _ _ _ h => by omega) m (m - 1 - i) (Nat.le_refl _) (by omega)
    rw [show m - 1 - (m - 1 - i) = i by omega] at this
    rw [this, List.getElem?_reverse (by rw [leL_length]; exact h), leL_length, leL_get n m _ (by omega)]
  · rw [List.getElem?_eq_none (by rw [enPut_length]; omega), List.getElem?_eq_none (by rw [List.length_reverse, leL_length]; omega)]
/-- A string's bytes as numbers. -/
def ints (s : ByteArray) : List Int := s.data.toList.map fun c => (c.toNat : Int)
theorem ints_length (s : ByteArray) : (ints s).length = s.size := by unfold ints; rw [List.length_map, Array.length_toList]; rfl
theorem ints_range (s : ByteArray) : ∀ x ∈ ints s, 0 ≤ x ∧ x < 256 := by
  intro x hx
  obtain ⟨c, _, rfl⟩ := List.mem_map.1 hx
  have := c.toNat_lt
  omega
theorem ints_get (s : ByteArray) (i : Nat) (h : i < s.size) : (ints s)[i]? = some (bt s (i : Int)) := by
  rw [← bt_at s (i : Int) h]
  unfold ints
  rw [List.getElem?_map, List.getElem?_eq_getElem (by rw [Array.length_toList]; exact h)]
  rfl
theorem str_ints (s : ByteArray) : strOfNums (ints s) = s := by
  unfold strOfNums ints
  rw [List.map_map]
  have : (s.data.toList.map ((fun n : Int => UInt8.ofNat n.toNat) ∘ fun c : UInt8 => (c.toNat : Int))) = s.data.toList := by
    conv => rhs; rw [← List.map_id s.data.toList]
    refine List.map_congr_left fun c _ => ?_
    simp
  rw [this]
theorem ints_str (l : List Int) (h : ∀ x ∈ l, 0 ≤ x ∧ x < 256) : ints (strOfNums l) = l := by
  unfold strOfNums ints
  simp only [List.map_map]
  conv => rhs; rw [← List.map_id l]
  refine List.map_congr_left fun x hx => ?_
  have := h x hx
  simp
  omega
theorem str_inj {l l' : List Int} (h : ∀ x ∈ l, 0 ≤ x ∧ x < 256) (h' : ∀ x ∈ l', 0 ≤ x ∧ x < 256) (e : strOfNums l = strOfNums l') : l = l' := by
  rw [← ints_str l h, e, ints_str l' h']

/-! ### the reference's loops -/
theorem tdiv256 {x : Int} (h : 0 ≤ x) (h2 : x ≤ 9223372036854775807) : wrap64 (Int.tdiv x 256) = x / 256 := by
  rw [Int.tdiv_eq_ediv_of_nonneg h]; exact w64 (by omega) (by omega)
theorem tmod256 {x : Int} (h : 0 ≤ x) : Int.tmod x 256 % 256 = x % 256 := by
  rw [Int.tmod_eq_emod_of_nonneg h]; omega
theorem ref_fits_l (d : Nat) : ∀ (k : Nat) (x m i : Int), 0 ≤ x → x ≤ 9223372036854775807 → 0 ≤ i → m - i = d → m ≤ 1000 → d < k → masterdiscref01_fits.l0 k x m i = some (decide (x / 256 ^ d = 0)) := by
  induction d with
  | zero =>
    intro k x m i h0 h1 hi hd hm hk
    obtain ⟨k, rfl⟩ : ∃ j, k = j + 1 := ⟨k - 1, by omega⟩
    simp only [masterdiscref01_fits.l0]
    rw [if_neg (by omega)]
    congr 1
    rw [Bool.eq_iff_iff]
    simp
  | succ d ih =>
    intro k x m i h0 h1 hi hd hm hk
    obtain ⟨k, rfl⟩ : ∃ j, k = j + 1 := ⟨k - 1, by omega⟩
    simp only [masterdiscref01_fits.l0]
    rw [if_pos (by omega), tdiv256 h0 h1, w64 (by omega) (by omega), ih k _ _ _ (by omega) (by omega) (by omega) (by omega) hm (by omega)]
    congr 2
    rw [Int.ediv_ediv_of_nonneg (by decide), Int.pow_succ, Int.mul_comm]
theorem ref_fits (k : Nat) (n : Int) (m : Nat) (hk : m < k) (hm : m ≤ 1000) (h1 : n ≤ 9223372036854775807) : masterdiscref01_fits.f k n m = some (decide (0 ≤ n ∧ n < 256 ^ m)) := by
  unfold masterdiscref01_fits.f
  by_cases h : n < 0
  · rw [if_pos h]
    congr 1
    symm
    rw [decide_eq_false_iff_not]
    omega
  · rw [if_neg h, ref_fits_l m k n m 0 (by omega) h1 (by omega) (by omega) (by omega) hk]
    congr 1
    rw [decide_eq_decide]
    have hp : (0 : Int) < 256 ^ m := Int.pow_pos (by decide)
    constructor
    · intro e
      refine ⟨by omega, ?_⟩
      have := Int.lt_ediv_add_one_mul_self n hp
      rw [e] at this
      omega
    · intro e
      exact Int.ediv_eq_zero_of_lt e.1 e.2
theorem ref_Bytes_l (d : Nat) : ∀ (k : Nat) (x m i : Int) (acc : List Int), 0 ≤ x → x ≤ 9223372036854775807 → 0 ≤ i → m - i = d → m ≤ 1000 → acc.length + d ≤ 1000000 → d < k →
    masterdiscref01_Bytes.l0 k x m acc i = some (strOfNums (acc ++ leL x d)) := by
  induction d with
  | zero =>
    intro k x m i acc h0 h1 hi hd hm ha hk
    obtain ⟨k, rfl⟩ : ∃ j, k = j + 1 := ⟨k - 1, by omega⟩
    simp only [masterdiscref01_Bytes.l0]
    rw [if_neg (by omega)]
    simp [leL]
  | succ d ih =>
    intro k x m i acc h0 h1 hi hd hm ha hk
    obtain ⟨k, rfl⟩ : ∃ j, k = j + 1 := ⟨k - 1, by omega⟩
    simp only [masterdiscref01_Bytes.l0]
    rw [if_pos (by omega), if_pos (by omega), tdiv256 h0 h1, tmod256 h0, w64 (by omega) (by omega),
      ih k _ _ _ _ (by omega) (by omega) (by omega) (by omega) hm (by simp; omega) (by omega)]
    simp [leL]
theorem ref_Bytes (k : Nat) (n : Int) (m : Nat) (hk : m < k) (hm : m ≤ 1000) (h0 : 0 ≤ n) (h1 : n ≤ 9223372036854775807) : masterdiscref01_Bytes.f k n m = some (strOfNums (leL n m)) := by
  unfold masterdiscref01_Bytes.f
  rw [ref_Bytes_l m k n m 0 [] h0 h1 (by omega) (by omega) (by omega) (by simp; omega) hk, List.nil_append]
theorem take_rev (l : List Int) (d : Nat) (x : Int) (h : l[d]? = some x) : (l.take (d + 1)).reverse = x :: (l.take d).reverse := by
  obtain ⟨hd, hx⟩ := List.getElem?_eq_some_iff.1 h
  rw [List.take_succ_eq_append_getElem hd, List.reverse_append, hx]
  rfl
theorem ref_Reverse_l (s : ByteArray) (hs : s.size ≤ 100000) (d : Nat) : ∀ (k : Nat) (i : Int) (acc : List Int), i + 1 = d → d ≤ s.size → acc.length + d ≤ 1000000 → d < k →
    masterdiscref01_Reverse.l0 k s acc i = some (strOfNums (acc ++ ((ints s).take d).reverse)) := by
  induction d with
  | zero =>
    intro k i acc hd hs2 ha hk
    obtain ⟨k, rfl⟩ : ∃ j, k = j + 1 := ⟨k - 1, by omega⟩
    simp only [masterdiscref01_Reverse.l0]
    rw [if_neg (by omega)]
    simp
  | succ d ih =>
    intro k i acc hd hs2 ha hk
    obtain ⟨k, rfl⟩ : ∃ j, k = j + 1 := ⟨k - 1, by omega⟩
    obtain rfl : i = (d : Int) := by omega
    simp only [masterdiscref01_Reverse.l0]
    rw [if_pos (by omega), if_pos (by omega), if_pos (by omega), if_pos (by omega), w64 (by omega) (by omega), ih k _ _ (by omega) (by omega) (by simp; omega) (by omega),
      take_rev _ _ _ (ints_get s d (by omega))]
    simp
theorem ref_Reverse (k : Nat) (s : ByteArray) (hs : s.size ≤ 100000) (hk : s.size < k) : masterdiscref01_Reverse.f k s = some (strOfNums (ints s).reverse) := by
  unfold masterdiscref01_Reverse.f
  rw [ref_Reverse_l s hs s.size k _ [] (by rw [w64 (by omega) (by omega)]; omega) (by omega) (by simp; omega) hk, List.nil_append, List.take_of_length_le (by rw [ints_length]; omega)]
theorem ref_Rev0 (k : Nat) (hk : 0 < k) : masterdiscref01_Reverse.f k ⟨#[]⟩ = some ⟨#[]⟩ := ref_Reverse k ⟨#[]⟩ (show (0 : Nat) ≤ 100000 by omega) hk
/-! ### Little, Big, Both -/
theorem chk_fits (n : Int) (m : Nat) (h1 : 1 ≤ m) (h8 : m ≤ 8) (hr : n ≤ 9223372036854775807) : chkE n m = if 0 ≤ n ∧ n < 256 ^ m then 0 else 2 := by
  unfold chkE
  rw [if_neg (by omega)]
  have e : ((256 : Int) ^ m) = 2 ^ (8 * m) := by rw [Int.pow_mul]; rfl
  rw [Int.toNat_natCast, ← e]
  by_cases h : m = 8
  · subst h
    by_cases h0 : 0 ≤ n
    · rw [if_neg (by omega), if_pos ⟨h0, by omega⟩]
    · rw [if_pos (by omega), if_neg (by omega)]
  · by_cases h0 : 0 ≤ n ∧ n < 256 ^ m
    · rw [if_neg (by omega), if_pos h0]
    · rw [if_pos (by omega), if_neg h0]
theorem chk_arg (n size : Int) (h : size < 1 ∨ 8 < size) : chkE n size = 1 := by unfold chkE; rw [if_pos h]
theorem Little_val {n size : Int} (hn : i64B n = true) : endian_Little.f n size = some (if chkE n size = 0 then (strOfNums (leL n size.toNat), 0) else (⟨#[]⟩, chkE n size)) := by
  unfold endian_Little.f
  rw [if_pos hn, enLe_eq]
  split <;> rfl
theorem Big_val {n size : Int} (hn : i64B n = true) : endian_Big.f n size = some (if chkE n size = 0 then (strOfNums (leL n size.toNat).reverse, 0) else (⟨#[]⟩, chkE n size)) := by
  unfold endian_Big.f
  rw [if_pos hn, enBe_eq]
  split <;> rfl
theorem i64B_iff {n : Int} : i64B n = true ↔ -9223372036854775808 ≤ n ∧ n ≤ 9223372036854775807 := by simp [i64B]
theorem wf_i64B {n : Int} (h : (Lit.int .i64 n).wf = true) : i64B n = true := by
  rw [i64B_iff]
  simpa [Lit.wf, IntKind.min, IntKind.max, IntKind.signed, IntKind.bits] using h
theorem ref_Little (k : Nat) (n size : Int) (hk : 20 ≤ k) (hn : i64B n = true) : masterdiscref01_Little.f k n size = some (if chkE n size = 0 then (strOfNums (leL n size.toNat), 0) else (⟨#[]⟩, chkE n size)) := by
  obtain ⟨k, rfl⟩ : ∃ j, k = j + 1 := ⟨k - 1, by omega⟩
  have hn' := i64B_iff.1 hn
  unfold masterdiscref01_Little.f
  simp only [masterdiscref01_Little.j0]
  by_cases h1 : size < 1
  · rw [if_pos h1, if_pos trivial, chk_arg n size (Or.inl h1)]
    rfl
  · rw [if_neg h1]
    by_cases h2 : 8 < size
    · rw [if_pos (decide_eq_true h2), chk_arg n size (Or.inr h2)]
      rfl
    · rw [if_neg (by simpa using h2)]
      obtain ⟨m, rfl⟩ := Int.eq_ofNat_of_zero_le (show 0 ≤ size by omega)
      rw [ref_fits k n m (by omega) (by omega) hn'.2, chk_fits n m (by omega) (by omega) hn'.2]
      simp only [Option.bind_some, decide_eq_true_eq, Int.toNat_natCast]
      by_cases h3 : 0 ≤ n ∧ n < 256 ^ m
      · rw [if_pos h3, if_pos h3, if_pos rfl, ref_Bytes k n m (by omega) (by omega) h3.1 hn'.2]
        rfl
      · rw [if_neg h3, if_neg h3, if_neg (by decide)]
theorem chk_size {n size : Int} (h : chkE n size = 0) : size.toNat ≤ 8 := by
  obtain ⟨m, hm, _, rfl, _⟩ := chk_ok h
  simpa using hm
theorem ref_Big (k : Nat) (n size : Int) (hk : 20 ≤ k) (hn : i64B n = true) : masterdiscref01_Big.f k n size = some (if chkE n size = 0 then (strOfNums (leL n size.toNat).reverse, 0) else (⟨#[]⟩, chkE n size)) := by
  unfold masterdiscref01_Big.f
  rw [ref_Little k n size hk hn]
  simp only [Option.bind_some]
  by_cases h : chkE n size = 0
  · have := chk_size h
    rw [if_pos h, if_pos h, ref_Reverse k _ (by rw [strOfNums_size, leL_length]; omega) (by rw [strOfNums_size, leL_length]; omega), ints_str _ (leL_range _ _)]
    rfl
  · rw [if_neg h, if_neg h, ref_Rev0 k (by omega)]
    rfl
theorem leL_rev_range (n : Int) (m : Nat) : ∀ x ∈ (leL n m).reverse, 0 ≤ x ∧ x < 256 := fun x hx => leL_range n m x (List.mem_reverse.1 hx)
/-- What Both answers. -/
def bothV (n size : Int) : ByteArray × Int :=
  if size = 1 ∨ size = 2 ∨ size = 4 then (if chkE n size = 0 then (strOfNums (leL n size.toNat) ++ strOfNums (leL n size.toNat).reverse, 0) else (⟨#[]⟩, 2)) else (⟨#[]⟩, 1)
theorem Both_val {n size : Int} (hn : i64B n = true) : endian_Both.f n size = some (bothV n size) := by
  unfold endian_Both.f bothV
  rw [if_pos hn, enBe_eq, enLe_eq]
  split
  · split <;> rfl
  · rfl
theorem chk_two {n size : Int} (h : size = 1 ∨ size = 2 ∨ size = 4) (h0 : ¬ chkE n size = 0) : chkE n size = 2 := by
  unfold chkE at h0 ⊢
  rw [if_neg (by omega)] at h0 ⊢
  split
  · rfl
  · rename_i h1
    rw [if_neg h1] at h0
    exact absurd rfl h0
theorem ref_Both (k : Nat) (n size : Int) (hk : 30 ≤ k) (hn : i64B n = true) : masterdiscref01_Both.f k n size = some (bothV n size) := by
  obtain ⟨k, rfl⟩ : ∃ j, k = j + 1 := ⟨k - 1, by omega⟩
  have main : size = 1 ∨ size = 2 ∨ size = 4 → masterdiscref01_Both.j0 (k + 1) n size false = some (bothV n size) := by
    intro hs
    simp only [masterdiscref01_Both.j0]
    rw [if_neg (by decide), ref_Little k n size (by omega) hn]
    simp only [Option.bind_some]
    unfold bothV
    rw [if_pos hs]
    by_cases h : chkE n size = 0
    · have := chk_size h
      rw [if_pos h, if_pos h, ref_Reverse k _ (by rw [strOfNums_size, leL_length]; omega) (by rw [strOfNums_size, leL_length]; omega), ints_str _ (leL_range _ _)]
      simp only [Option.bind_some]
      rw [if_pos (by rw [strOfNums_size, strOfNums_size, List.length_reverse, leL_length]; omega)]
    · rw [if_neg h, if_neg h, ref_Rev0 k (by omega), chk_two hs h]
      rfl
  unfold masterdiscref01_Both.f
  by_cases h1 : size = 1
  · rw [if_pos h1]; exact main (Or.inl h1)
  · rw [if_neg h1]
    by_cases h2 : size = 2
    · rw [if_pos h2]; exact main (Or.inr (Or.inl h2))
    · rw [if_neg h2]
      by_cases h4 : size = 4
      · rw [show (size != 4) = false by simp [h4]]
        exact main (Or.inr (Or.inr h4))
      · rw [show (size != 4) = true by simp [h4]]
        simp only [masterdiscref01_Both.j0]
        rw [if_pos trivial]
        unfold bothV
        rw [if_neg (by omega)]
end Go.Proofs.Ytbkakfaeeodmmaa.Pure
