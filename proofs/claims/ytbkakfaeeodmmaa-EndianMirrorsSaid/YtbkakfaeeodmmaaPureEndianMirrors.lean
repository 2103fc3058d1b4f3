/- EndianMirrors' Lean function answers true at all numbers and sizes; no other condition. -/
import Derived.Test.YtbkakfaeeodmmaaXlaw01EndianMirrors
import Derived.Test.YtbkakfaeeodmmaaPEr
namespace Go.Proofs.Ytbkakfaeeodmmaa.Pure
open Go.RowKit Go.Proofs.Ytbkakfaeeodmmaa.G Go.Proofs.YtbkakfaeeodmmaaW.PrintWords Go.Proofs.YtbkakfaeeodmmaaW.PrintLast

theorem leL_snoc (n : Int) (m : Nat) : leL n (m + 1) = leL n m ++ [byteAt n m] := by
  refine List.ext_getElem? fun i => ?_
  by_cases h : i < m
  · rw [leL_get _ _ _ (by omega), List.getElem?_append_left (by rw [leL_length]; exact h), leL_get _ _ _ h]
  · by_cases h2 : i = m
    · subst h2
      rw [leL_get _ _ _ (by omega), List.getElem?_append_right (by rw [leL_length]; omega), leL_length, Nat.sub_self]
      rfl
    · rw [List.getElem?_eq_none (by rw [leL_length]; omega), List.getElem?_eq_none (by simp [leL_length]; omega)]
theorem leL_zero (n : Int) (m : Nat) (h0 : 0 ≤ n) (h : n < 256 ^ m) : leL n (m + 1) = leL n m ++ [0] := by
  rw [leL_snoc]
  congr 2
  unfold byteAt
  have e : ((256 : Int) ^ m) = 2 ^ (8 * m) := by rw [Int.pow_mul]; rfl
  rw [Int.ediv_eq_zero_of_lt h0 (by rw [← e]; exact h)]
  rfl
theorem bt_str (l : List Int) (h : ∀ x ∈ l, 0 ≤ x ∧ x < 256) (i : Nat) (hi : i < l.length) : l[i]? = some (bt (strOfNums l) (i : Int)) := by
  have := ints_get (strOfNums l) i (by rw [strOfNums_size]; exact hi)
  rwa [ints_str l h] at this
theorem Mirrors_l (n size : Int) (m : Nat) (hm : m ≤ 8) (e : Int) (R : Option Bool) (d : Nat)
    (hend : ∀ k, 0 < k → (if e = 0 then (masterdisclaw01_EndianMirrors.j2 k n size (strOfNums (leL n m)) (strOfNums (leL n m).reverse) (size == 8)) else (masterdisclaw01_EndianMirrors.j2 k n size (strOfNums (leL n m)) (strOfNums (leL n m).reverse) true)) = R) :
    ∀ (k i : Nat), i ≤ m → m - i = d → d + 1 < k → masterdisclaw01_EndianMirrors.l0 k n size (strOfNums (leL n m)) e (strOfNums (leL n m).reverse) (m : Int) (i : Int) = R := by
  induction d with
  | zero =>
    intro k i hi hd hk
    obtain ⟨k, rfl⟩ : ∃ j, k = j + 1 := ⟨k - 1, by omega⟩
    simp only [masterdisclaw01_EndianMirrors.l0]
    rw [if_neg (by omega)]
    exact hend k (by omega)
  | succ d ih =>
    intro k i hi hd hk
    obtain ⟨k, rfl⟩ : ∃ j, k = j + 1 := ⟨k - 1, by omega⟩
    have hs1 : (strOfNums (leL n m)).size = m := by rw [strOfNums_size, leL_length]
    have hs2 : (strOfNums (leL n m).reverse).size = m := by rw [strOfNums_size, List.length_reverse, leL_length]
    have hn := ih k (i + 1) (by omega) (by omega) (by omega)
    simp only [masterdisclaw01_EndianMirrors.l0]
    rw [hs1, hs2, if_pos (by omega), if_pos (by omega), if_pos (by omega), w64 (n := (m : Int) - 1) (by omega) (by omega), w64 (n := (m : Int) - 1 - i) (by omega) (by omega), if_pos (by omega), if_pos (by omega)]
    have e1 : ((m : Int) - 1 - i) = ((m - 1 - i : Nat) : Int) := by omega
    have h1 := bt_str (leL n m) (leL_range n m) i (by rw [leL_length]; omega)
    have h2 := bt_str (leL n m).reverse (leL_rev_range n m) (m - 1 - i) (by rw [List.length_reverse, leL_length]; omega)
    rw [List.getElem?_reverse (by rw [leL_length]; omega), leL_length, show m - 1 - (m - 1 - i) = i by omega, h1] at h2
    rw [e1, if_pos (Option.some.inj h2), show wrap64 ((i : Int) + 1) = ((i + 1 : Nat) : Int) by rw [w64 (by omega) (by omega)]; omega]
    exact hn
theorem EndianMirrors : masterdisclaw01_EndianMirrors.Pure := by
  intro n size hn hz
  have hn' := wf_i64B hn
  have hz' := i64B_iff.1 (wf_i64B hz)
  refine ⟨100, ?_⟩
  unfold masterdisclaw01_EndianMirrors.f
  rw [awake1, Little_val hn', Big_val hn']
  simp only [Option.bind_some]
  rw [if_pos trivial]
  by_cases h : chkE n size = 0
  · rw [if_pos h, if_pos h]
    obtain ⟨m, hm, hm1, rfl, h0⟩ := chk_ok h
    rw [Int.toNat_natCast, if_pos rfl]
    have hs1 : (strOfNums (leL n m)).size = m := by rw [strOfNums_size, leL_length]
    have hs2 : (strOfNums (leL n m).reverse).size = m := by rw [strOfNums_size, List.length_reverse, leL_length]
    simp only
    rw [hs1, hs2, bne_self_eq_false]
    simp only [masterdisclaw01_EndianMirrors.j0]
    rw [if_neg (by decide), hs1]
    refine Mirrors_l n m m hm 0 _ m ?_ 99 0 (by omega) (by omega) (by omega)
    intro k hk
    obtain ⟨k, rfl⟩ : ∃ j, k = j + 1 := ⟨k - 1, by omega⟩
    rw [if_pos rfl]
    simp only [masterdisclaw01_EndianMirrors.j2]
    by_cases h8 : (m : Int) = 8
    · rw [h8, if_pos (by decide)]
    · rw [if_neg (by simpa using h8), w64 (by omega) (by omega)]
      have hlt : n < 256 ^ m := by
        have := chk_fits n m hm1 hm (i64B_iff.1 hn').2
        rw [h] at this
        by_cases c : 0 ≤ n ∧ n < 256 ^ m
        · exact c.2
        · rw [if_neg c] at this; cases this
      have hc : chkE n ((m : Int) + 1) = 0 := by
        have := chk_fits n (m + 1) (by omega) (by omega) (i64B_iff.1 hn').2
        rw [show ((m + 1 : Nat) : Int) = (m : Int) + 1 by omega] at this
        rw [this, if_pos ⟨h0, by rw [Int.pow_succ]; omega⟩]
      have et : ((m : Int) + 1).toNat = m + 1 := by omega
      rw [Little_val hn', Big_val hn', if_pos hc, if_pos hc, et, leL_zero n m h0 hlt]
      simp only [Option.bind_some]
      have e1 : strOfNums (leL n m ++ [0]) = strOfNums (leL n m) ++ ⟨#[0]⟩ := by
        have : strOfNums (ints (strOfNums (leL n m) ++ ⟨#[0]⟩)) = strOfNums (leL n m) ++ ⟨#[0]⟩ := str_ints _
        rw [← this, ints_append, ints_str _ (leL_range n m)]
        rfl
      have e2 : strOfNums (leL n m ++ [0]).reverse = ⟨#[0]⟩ ++ strOfNums (leL n m).reverse := by
        have : strOfNums (ints (⟨#[0]⟩ ++ strOfNums (leL n m).reverse)) = ⟨#[0]⟩ ++ strOfNums (leL n m).reverse := str_ints _
        rw [← this, ints_append, ints_str _ (leL_rev_range n m)]
        simp
        rfl
      rw [if_pos trivial, if_pos trivial, hs1, if_pos (by omega), e1, if_pos rfl, hs2, if_pos (by omega), e2]
      simp
  · rw [if_neg h, if_neg h, if_pos rfl]
    simp only
    rw [bne_self_eq_false]
    simp only [masterdisclaw01_EndianMirrors.j0]
    rw [if_neg (by decide)]
    have hl : ∀ k, masterdisclaw01_EndianMirrors.l0 (k + 2) n size ⟨#[]⟩ (chkE n size) ⟨#[]⟩ 0 0 = some true := by
      intro k
      simp only [masterdisclaw01_EndianMirrors.l0]
      rw [if_neg (by omega), if_neg h]
      simp only [masterdisclaw01_EndianMirrors.j2]
      rw [if_pos trivial]
    exact hl 97

end Go.Proofs.Ytbkakfaeeodmmaa.Pure
