/- Texts of one claim, merged by a program of this session; what is proved stands in the last of them. -/
import Derived.Test.YtjhepdcdhabcjaaKc3
namespace Go.Proofs.Ytjhepdcdhabcjaa.G
open Go.RowKit Go.Proofs.YtjhepdcdhabcjaaW.PrintWords Go.Proofs.YtjhepdcdhabcjaaW.PrintLast Go.Proofs.YtjhepdcdhabcjaaW.PrintMore
set_option linter.unusedVariables false
set_option linter.unusedSimpArgs false
theorem split_cl {cap cl : Int} {fin : Bool} {l : List S40} (h : VALID cap cl fin l) : ∀ m : Nat, m ≤ l.length → ∃ c : Nat, c ≤ m ∧ (∀ j : Nat, j < c → (rd_T40 l (j : Int)).f1 ≤ cl) ∧ ∀ j : Nat, c ≤ j → j < m → cl < (rd_T40 l (j : Int)).f1
 | 0, _ => ⟨0, Nat.le_refl _, fun j hj => absurd hj (Nat.not_lt_zero _), fun j _ hj => absurd hj (Nat.not_lt_zero _)⟩
 | m + 1, hm => by
  obtain ⟨c, h1, h2, h3⟩ := split_cl h m (by omega)
  by_cases hf : (rd_T40 l (m : Int)).f1 ≤ cl
  · refine ⟨m + 1, Nat.le_refl _, fun j hj => ?_, fun j ha hb => by omega⟩
    by_cases hjm : j = m
    · subst hjm; exact hf
    · have := (v_order (i := j) h m (by omega) (by omega)).2
      omega
  · refine ⟨c, by omega, h2, fun j ha hb => ?_⟩
    by_cases hjm : j = m
    · subst hjm; omega
    · exact h3 j ha (by omega)
theorem sess_succ (cl : Int) (l : List S40) (i : Nat) : sess cl l (i + 1) = sesSet (if sesNew l i then sess cl l i ++ [⟨(rd_T40 l (i : Int)).f2, 0, decide ((rd_T40 l (i : Int)).f1 ≤ cl)⟩] else sess cl l i) ((rd_T40 l (i : Int)).f2 + (rd_T40 l (i : Int)).f3) := rfl
theorem take_set_ge {α : Type} (y : List α) (v : α) {n m : Nat} (h : n ≤ m) : (y.set m v).take n = y.take n := by
 rw [List.take_set, List.set_eq_of_length_le (by rw [List.length_take]; omega)]
theorem sess_step {cap cl : Int} {fin : Bool} {l : List S40} (cl2 : Int) (h : VALID cap cl fin l) {n i : Nat} (hi : i < l.length) (hn : (n : Int) < (rd_T40 l (i : Int)).f1) : (sess cl2 l (i + 1)).take n = (sess cl2 l i).take n := by
 have hl := (sess_len cl2 h (i + 1) (by omega)).1 (by omega)
 rw [pS_succ] at hl
 rw [sess_succ] at hl ⊢
 rw [sesSet_len] at hl
 unfold sesSet
 by_cases hw : sesNew l i
 · rw [if_pos hw] at hl ⊢
   rw [List.length_append] at hl
   have hl : (((sess cl2 l i).length + 1 : Nat) : Int) = (rd_T40 l (i : Int)).f1 := hl
   rw [take_set_ge _ _ (by rw [List.length_append]; show n ≤ (sess cl2 l i).length + 1 - 1; omega), List.take_append_of_le_length (by omega)]
 · rw [if_neg hw] at hl ⊢
   rw [take_set_ge _ _ (by omega)]
theorem sess_take {cap cl : Int} {fin : Bool} {l : List S40} (cl2 : Int) (h : VALID cap cl fin l) {n c : Nat} (hn : ∀ j : Nat, c ≤ j → j < l.length → (n : Int) < (rd_T40 l (j : Int)).f1) : ∀ i : Nat, c ≤ i → i ≤ l.length → (sess cl2 l i).take n = (sess cl2 l c).take n
 | 0, h1, h2 => by
  obtain rfl : c = 0 := by omega
  rfl
 | i + 1, h1, h2 => by
  by_cases hc : c = i + 1
  · subst hc; rfl
  · rw [sess_step cl2 h (by omega) (hn i (by omega) (by omega))]
    exact sess_take cl2 h hn i (by omega) (by omega)
theorem sess_same {l l' : List S40} {cl cl' : Int} {c : Nat} (hf : ∀ j : Nat, j < c → (rd_T40 l' (j : Int)).f1 = (rd_T40 l (j : Int)).f1 ∧ (rd_T40 l' (j : Int)).f2 = (rd_T40 l (j : Int)).f2 ∧ (rd_T40 l' (j : Int)).f3 = (rd_T40 l (j : Int)).f3)
 (h1 : ∀ j : Nat, j < c → (rd_T40 l (j : Int)).f1 ≤ cl) (h2 : cl ≤ cl') : ∀ i : Nat, i ≤ c → sess cl' l' i = sess cl l i
 | 0, _ => rfl
 | i + 1, hi => by
  have ih := sess_same hf h1 h2 i (by omega)
  obtain ⟨a1, a2, a3⟩ := hf i (by omega)
  have hq := h1 i (by omega)
  have hnew : sesNew l' i ↔ sesNew l i := by
   unfold sesNew
   by_cases h0 : i = 0
   · exact ⟨fun _ => .inl h0, fun _ => .inl h0⟩
   · have := (hf (i - 1) (by omega)).1
     rw [show ((i - 1 : Nat) : Int) = (i : Int) - 1 by omega] at this
     rw [this, a1]
  rw [sess_succ, sess_succ, ih, a2, a3, a1, decide_eq_true hq, decide_eq_true (show (rd_T40 l (i : Int)).f1 ≤ cl' by omega)]
  by_cases hw : sesNew l i
  · rw [if_pos hw, if_pos (hnew.2 hw)]
  · rw [if_neg hw, if_neg (fun hh => hw (hnew.1 hh))]
structure Kept1 (x y : S40) : Prop where
 same : x.f5 = 2 → y = x
 next : x.f4 ≤ y.f4
 start : y.f2 = x.f2
 ses : y.f1 = x.f1
 len : y.f3 ≤ x.f3
theorem Kept1.refl (x : S40) : Kept1 x x := ⟨fun _ => rfl, Int.le_refl _, rfl, rfl, Int.le_refl _⟩
theorem step_keeps {cap cl : Int} {fin : Bool} {l : List S40} {kind a b cl' : Int} {fin' : Bool} {l' : List S40} (h : VALID cap cl fin l) (hs : Step cap cl fin l kind a b cl' fin' l') :
 fin = false ∧ cl ≤ cl' ∧ cl' ≤ cl + 1 ∧ l.length ≤ l'.length ∧ (∀ j : Nat, j < l.length → Kept1 (rd_T40 l (j : Int)) (rd_T40 l' (j : Int))) ∧
  (∀ j : Nat, j < l.length → (rd_T40 l (j : Int)).f1 ≤ cl → (rd_T40 l' (j : Int)).f3 = (rd_T40 l (j : Int)).f3) ∧ (∀ j : Nat, l.length ≤ j → j < l'.length → cl < (rd_T40 l' (j : Int)).f1) := by
 have hall : fin = true → ∀ j : Nat, j < l.length → (rd_T40 l (j : Int)).f5 = 2 := fun hf j hj => by
  have h1 := v_last h hj
  have h2 := (h.en.2 hf).2
  exact (h.tk j hj).clo (by omega)
 cases hs with
 | reserve _ hf hp hn hc ha =>
  refine ⟨hf, Int.le_refl _, by omega, by rw [List.length_append]; omega, fun j hj => ?_, fun j hj _ => ?_, fun j h1 h2 => ?_⟩
  · rw [rd_app_lt _ hj]; exact Kept1.refl _
  · rw [rd_app_lt _ hj]
  · rw [List.length_append] at h2
    obtain rfl : j = l.length := by have h2 : j < l.length + 1 := h2; omega
    rw [rd_app_eq]
    show cl < cl + 1
    omega
 | append i _ hi h5 h4 hp hf =>
  have hff : fin = false := by
   cases hq : fin with
   | false => rfl
   | true => exact absurd (hall hq i hi) h5
  have hpb := hp.1
  refine ⟨hff, Int.le_refl _, by omega, by rw [List.length_set]; exact Nat.le_refl _, fun j hj => ?_, fun j hj _ => ?_, fun j h1 h2 => by rw [List.length_set] at h2; omega⟩
  · by_cases hij : i = j
    · subst hij
      rw [rd_set_eq _ hi]
      exact ⟨fun hh => absurd hh h5, by show (rd_T40 l (i : Int)).f4 ≤ (rd_T40 l (i : Int)).f4 + b; omega, rfl, rfl, Int.le_refl _⟩
    · rw [rd_set_ne _ hij]; exact Kept1.refl _
  · by_cases hij : i = j
    · subst hij; rw [rd_set_eq _ hi]; rfl
    · rw [rd_set_ne _ hij]
 | closeT i _ hi h5 hl =>
  have hff : fin = false := by
   cases hq : fin with
   | false => rfl
   | true => exact absurd (hall hq i hi) (by omega)
  have hn := (h.tk i hi).nxt
  refine ⟨hff, Int.le_refl _, by omega, by rw [List.length_set]; exact Nat.le_refl _, fun j hj => ?_, fun j hj hc => ?_, fun j h1 h2 => by rw [List.length_set] at h2; omega⟩
  · by_cases hij : i = j
    · subst hij
      rw [rd_set_eq _ hi]
      exact ⟨fun hh => by omega, Int.le_refl _, rfl, rfl, by show (rd_T40 l (i : Int)).f4 - (rd_T40 l (i : Int)).f2 ≤ _; omega⟩
    · rw [rd_set_ne _ hij]; exact Kept1.refl _
  · by_cases hij : i = j
    · subst hij
      have := (h.tk i hi).clo hc
      omega
    · rw [rd_set_ne _ hij]
 | closeS1 _ _ hf hu ho => exact ⟨hf, by omega, Int.le_refl _, Nat.le_refl _, fun j _ => Kept1.refl _, fun j _ _ => rfl, fun j h1 h2 => by omega⟩
 | closeS2 _ hf hu ho h0 => exact ⟨hf, Int.le_refl _, by omega, Nat.le_refl _, fun j _ => Kept1.refl _, fun j _ _ => rfl, fun j h1 h2 => by omega⟩
theorem step_sessions {cap cl : Int} {fin : Bool} {l : List S40} {kind a b cl' : Int} {fin' : Bool} {l' : List S40} (h : VALID cap cl fin l) (hs : Step cap cl fin l kind a b cl' fin' l') :
 (sess cl l l.length).take cl.toNat = (sess cl' l' l'.length).take cl.toNat := by
 have hv' := step_valid h hs
 obtain ⟨-, k1, k2, k3, k4, k5, k6⟩ := step_keeps h hs
 obtain ⟨c, c1, c2, c3⟩ := split_cl h l.length (Nat.le_refl _)
 have h0 := h.cl0.1
 have e : ((cl.toNat : Nat) : Int) = cl := by omega
 rw [sess_take cl h (n := cl.toNat) (c := c) (fun j h1 h2 => by rw [e]; exact c3 j h1 h2) l.length c1 (Nat.le_refl _),
  sess_take cl' hv' (n := cl.toNat) (c := c) (fun j h1 h2 => by
   rw [e]
   by_cases hj : j < l.length
   · rw [(k4 j hj).ses]; exact c3 j h1 hj
   · exact k6 j (by omega) h2) l'.length (by omega) (Nat.le_refl _),
  sess_same (c := c) (fun j hj => ⟨(k4 j (by omega)).ses, (k4 j (by omega)).start, k5 j (by omega) (c2 j hj)⟩) c2 k1 c (Nat.le_refl _)]
end Go.Proofs.Ytjhepdcdhabcjaa.G
