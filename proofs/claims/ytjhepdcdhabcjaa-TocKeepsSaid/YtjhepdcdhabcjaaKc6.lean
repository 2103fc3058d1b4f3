/- Texts of one claim, merged by a program of this session; what is proved stands in the last of them. -/
import Derived.ChangeArms
import Derived.Deep.Slices
import Derived.Test.YtjhepdcdhabcjaaKc1
import Derived.Test.YtjhepdcdhabcjaaKc4
import Derived.Test.YtjhepdcdhabcjaaKc5
namespace Go.Proofs.Ytjhepdcdhabcjaa.G
open Go.RowKit Go.Proofs.YtjhepdcdhabcjaaW.PrintWords Go.Proofs.YtjhepdcdhabcjaaW.PrintLast Go.Proofs.YtjhepdcdhabcjaaW.PrintMore
set_option linter.unusedVariables false
set_option linter.unusedSimpArgs false
theorem opDo_err (cap cl : Int) (fin : Bool) (l : List S40) (kind a b : Int) (fz : Bool) : (opDo cap cl fin l kind a b fz).2.2.2 = 0 ∨ ((opDo cap cl fin l kind a b fz).1 = 0 ∧ (opDo cap cl fin l kind a b fz).2.1 = false ∧ (opDo cap cl fin l kind a b fz).2.2.1 = []) := by
 unfold opDo opReserve opAppend apRes opCloseT opCloseS
 repeat' split
 all_goals (first | exact .inl rfl | exact .inr ⟨rfl, rfl, rfl⟩)
theorem eqS_l0 (k : Nat) (x : List S46) (hx : x.length ≤ 1000) : ∀ (d i : Nat), i + d = x.length → api_Session.l0 (k + d + 1) x x (x.length : Int) (i : Int) = some true
 | 0, i, h => by
  obtain rfl : i = x.length := by omega
  rw [api_Session.l0, if_neg (by omega)]
 | d + 1, i, h => by
  have g0 : (i : Int) < (x.length : Int) := by omega
  have g1 : (0 : Int) ≤ (i : Int) := by omega
  have g2 : i + 1 + d = x.length := by omega
  have hw : wrap64 ((i : Int) + 1) = ((i + 1 : Nat) : Int) := (w64 (by omega)).trans (by omega)
  rw [api_Session.l0, if_pos g0, if_pos g1, if_pos g0, if_pos g0, hw]
  simp only [beq_self_eq_true, Bool.not_true, Bool.false_or, Bool.false_eq_true, if_false]
  exact eqS_l0 k x hx d (i + 1) g2
theorem eqS_refl (k : Nat) (x : List S46) (hx : x.length ≤ 1000) : api_Session.f (k + 1001) x x = some true := by
 unfold api_Session.f
 rw [if_pos rfl]
 have := eqS_l0 (k + 1000 - x.length) x hx x.length 0 (by omega)
 rwa [show k + 1000 - x.length + x.length + 1 = k + 1001 by omega] at this
theorem sess_last {cap cl : Int} {fin : Bool} {l : List S40} (h : VALID cap cl fin l) : ((sess cl l l.length).length : Int) = lastS l := by
 unfold lastS
 by_cases hp : 0 < l.length
 · rw [if_pos hp]; exact (sess_len cl h l.length (Nat.le_refl _)).1 hp
 · have h0 : l.length = 0 := by omega
   rw [if_neg hp, h0]; rfl
theorem lastS_le {cap cl : Int} {fin : Bool} {l : List S40} (h : VALID cap cl fin l) : lastS l ≤ 16 := by
 by_cases hp : 0 < l.length
 · exact (v_last h hp).2.2
 · unfold lastS; rw [if_neg hp]; decide
theorem kl1_lift {K : Nat} {c : Int} {ac : List S26} {n ix : Int} {x90 : List S40} {x91 x92 cl : Int} {fin : Bool} {l : List S40} {cl' : Int} {fin' : Bool} {l' : List S40} {r : Bool} (h : masterdisclaw14_TocKeeps.l1 K c ac n ix x90 x91 x92 cl fin l cl' fin' l' = some r) {K' : Nat} (hK : K ≤ K') : masterdisclaw14_TocKeeps.l1 K' c ac n ix x90 x91 x92 cl fin l cl' fin' l' = some r :=
 lift_le (f := fun k => masterdisclaw14_TocKeeps.l1 k c ac n ix x90 x91 x92 cl fin l cl' fin' l') (fun k => (masterdisclaw14_TocKeeps.mono_l k).2.2.2 c ac n ix x90 x91 x92 cl fin l cl' fin' l') h hK
theorem kl0_lift {K : Nat} {c : Int} {ac : List S26} {n ix cl : Int} {fin : Bool} {l : List S40} {r : Bool} (h : masterdisclaw14_TocKeeps.l0 K c ac n ix cl fin l = some r) {K' : Nat} (hK : K ≤ K') : masterdisclaw14_TocKeeps.l0 K' c ac n ix cl fin l = some r :=
 lift_le (f := fun k => masterdisclaw14_TocKeeps.l0 k c ac n ix cl fin l) (fun k => (masterdisclaw14_TocKeeps.mono_l k).2.1 c ac n ix cl fin l) h hK
theorem kl1_true {cap cl : Int} {fin : Bool} {l : List S40} {cl' : Int} {fin' : Bool} {l' : List S40} (hv : VALID cap cl fin l) (hv' : VALID cap cl' fin' l') (hcc : cl ≤ cl') (hlen : l.length ≤ l'.length)
 (hk : ∀ j : Nat, j < l.length → Kept1 (rd_T40 l (j : Int)) (rd_T40 l' (j : Int))) (hse : (sess cl l l.length).take cl.toNat = (sess cl' l' l'.length).take cl.toNat)
 (ac : List S26) (n ix : Int) {K0 : Nat} (hend : masterdisclaw14_TocKeeps.l0 K0 cap ac n (wrap64 (ix + 1)) cl' fin' l' = some true) :
 ∀ (d j : Nat), j + d = l.length → ∃ K, masterdisclaw14_TocKeeps.l1 K cap ac n ix l (l.length : Int) (j : Int) cl fin l cl' fin' l' = some true
 | 0, j, hj => by
  have g0 : ¬ (j : Int) < (l.length : Int) := by omega
  have s1 := sess_last hv
  have s2 := sess_last hv'
  have e1 := hv.en.1
  have e2 := hv'.en.1
  have b1 := lastS_le hv
  have h0 := hv.cl0.1
  have c1 : ¬ ((sess cl l l.length).length : Int) < cl := by omega
  have c2 : ¬ ((sess cl' l' l'.length).length : Int) < cl := by omega
  have c3 : cl ≤ ((sess cl l l.length).length : Int) := by omega
  have c4 : cl ≤ ((sess cl' l' l'.length).length : Int) := by omega
  have hb : ((sess cl' l' l'.length).take cl.toNat).length ≤ 1000 := by rw [List.length_take]; omega
  refine ⟨K0 + 1001 + 100 + 1, ?_⟩
  have q1 := sessions_eq hv (K0 + 1001)
  have q2 := sessions_eq hv' (K0 + 1001)
  have q3 := eqS_refl (K0 + 100) ((sess cl' l' l'.length).take cl.toNat) hb
  rw [show K0 + 100 + 1001 = K0 + 1001 + 100 by omega] at q3
  rw [masterdisclaw14_TocKeeps.l1, if_neg g0, q1, Option.bind_some, q2, Option.bind_some, if_neg c1, if_neg c2, if_pos h0, if_pos c3, if_pos c4, hse, q3, Option.bind_some, if_pos rfl]
  exact kl0_lift hend (by omega)
 | d + 1, j, hj => by
  have g0 : (j : Int) < (l.length : Int) := by omega
  have g1 : (0 : Int) ≤ (j : Int) := by omega
  have g2 : (j : Int) < (l'.length : Int) := by omega
  obtain ⟨K, hK⟩ := kl1_true hv hv' hcc hlen hk hse ac n ix hend d (j + 1) (by omega)
  obtain ⟨k1, k2, k3, k4, k5⟩ := hk j (by omega)
  have hcn := hv.cnt
  have hw : wrap64 ((j : Int) + 1) = ((j + 1 : Nat) : Int) := (w64 (by omega)).trans (by omega)
  have d1 : ¬ (rd_T40 l' (j : Int)).f4 < (rd_T40 l (j : Int)).f4 := by omega
  have d2 : ¬ (rd_T40 l' (j : Int)).f3 > (rd_T40 l (j : Int)).f3 := by omega
  refine ⟨K + 1, ?_⟩
  rw [masterdisclaw14_TocKeeps.l1, if_pos g0, if_pos g1, if_pos g0, if_pos g2]
  by_cases h5 : (rd_T40 l (j : Int)).f5 = 2
  · have heq := k1 h5
    rw [if_pos h5, if_neg d1, if_pos k3, if_pos k4, if_neg d2, hw, heq]
    simp only [beq_self_eq_true, Bool.not_true, Bool.false_or, Bool.false_eq_true, if_false]
    exact hK
  · rw [if_neg h5, if_neg d1, if_pos k3, if_pos k4, if_neg d2, hw]
    exact hK
theorem kl0_true {cap : Int} (ac : List S26) (hac : ac.length ≤ 40) : ∀ (d ix : Nat) (cl : Int) (fin : Bool) (l : List S40), ix + d = ac.length → VALID cap cl fin l →
 ∃ K, masterdisclaw14_TocKeeps.l0 K cap ac (ac.length : Int) (ix : Int) cl fin l = some true
 | 0, ix, cl, fin, l, hd, hv => ⟨1, by rw [masterdisclaw14_TocKeeps.l0, if_neg (by omega)]⟩
 | d + 1, ix, cl, fin, l, hd, hv => by
  have hw : wrap64 ((ix : Int) + 1) = ((ix + 1 : Nat) : Int) := (w64 (by omega)).trans (by omega)
  have g0 : (ix : Int) < (ac.length : Int) := by omega
  have g1 : (0 : Int) ≤ (ix : Int) := by omega
  have hd1 : ix + 1 + d = ac.length := by omega
  have hdo := fun K => do_toc K cap cl fin l (rd_T26 ac (ix : Int)).f0 (rd_T26 ac (ix : Int)).f1 (rd_T26 ac (ix : Int)).f2 (rd_T26 ac (ix : Int)).f3 (v_bdT hv)
  have hst := step_of (kind := (rd_T26 ac (ix : Int)).f0) (a := (rd_T26 ac (ix : Int)).f1) (b := (rd_T26 ac (ix : Int)).f2) (fz := (rd_T26 ac (ix : Int)).f3) hv (fun hf => (hv.en.2 hf).2)
  have her := opDo_err cap cl fin l (rd_T26 ac (ix : Int)).f0 (rd_T26 ac (ix : Int)).f1 (rd_T26 ac (ix : Int)).f2 (rd_T26 ac (ix : Int)).f3
  generalize hr : opDo cap cl fin l (rd_T26 ac (ix : Int)).f0 (rd_T26 ac (ix : Int)).f1 (rd_T26 ac (ix : Int)).f2 (rd_T26 ac (ix : Int)).f3 = r at hdo hst her
  obtain ⟨cl', fin', l', e⟩ := r
  by_cases he : e = 0
  · subst he
    have hst := hst rfl
    dsimp only at hst
    have hv' := step_valid hv hst
    obtain ⟨k1, k2, k3, k4, k5, -, -⟩ := step_keeps hv hst
    have hse := step_sessions hv hst
    subst k1
    obtain ⟨K0, hK0⟩ := kl0_true ac hac d (ix + 1) cl' fin' l' hd1 hv'
    obtain ⟨K, hK⟩ := kl1_true hv hv' k2 k4 k5 hse ac (ac.length : Int) (ix : Int) (by rw [hw]; exact hK0) l.length 0 (by omega)
    have hval : toc_Valid.f cap cl' fin' l' = some true := (valid_eq _ _ _ _ (v_bdT hv')).trans ((valid_iff _ _ _ _).2 hv')
    have hc := hv.cl0
    have c1 : ¬ cl' < cl := by omega
    have c2 : ¬ cl' > cl + 1 := by omega
    have c3 : ¬ (l'.length : Int) < (l.length : Int) := by omega
    have hw2 : wrap64 (cl + 1) = cl + 1 := by clear hw; exact w64 (by omega)
    have hj : ∀ b, masterdisclaw14_TocKeeps.j2 (K + l.length + 4) cap ac (ac.length : Int) (ix : Int) b cl false l cl' fin' l' = if b = true then none else masterdisclaw14_TocKeeps.l1 (K + l.length + 3) cap ac (ac.length : Int) (ix : Int) l (l.length : Int) 0 cl false l cl' fin' l' := fun b => by rw [masterdisclaw14_TocKeeps.j2]
    refine ⟨K + l.length + 4 + 1, ?_⟩
    rw [masterdisclaw14_TocKeeps.l0, if_pos g0, if_pos g1, if_pos g0, hdo K, Option.bind_some, if_pos rfl, if_neg (show ¬ (false = true) by decide), hval, Option.bind_some, if_pos rfl, if_neg c1, hw2, if_neg c2, decide_eq_false c3, hj, if_neg (show ¬ (false = true) by decide)]
    exact kl1_lift hK (by omega)
  · rcases her with her | ⟨e1, e2, e3⟩
    · exact absurd her he
    · dsimp only at e1 e2 e3
      subst e1 e2 e3
      obtain ⟨K, hK⟩ := kl0_true ac hac d (ix + 1) cl fin l hd1 hv
      refine ⟨K + l.length + 4 + 1, ?_⟩
      rw [masterdisclaw14_TocKeeps.l0, if_pos g0, if_pos g1, if_pos g0, hdo K, Option.bind_some, if_neg he, if_pos rfl, if_neg (show ¬ (false = true) by decide), if_pos (show (([] : List S40).length : Int) = 0 from rfl), hw]
      exact kl0_lift hK (by omega)
theorem pure_TocKeeps (cap : Int) (ac : List S26) : ∃ k, masterdisclaw14_TocKeeps.f k cap ac = some true := by
 have hj : ∀ k b, masterdisclaw14_TocKeeps.j0 (k + 1) cap ac b = if b = true then some true else masterdisclaw14_TocKeeps.l0 k cap ac (ac.length : Int) 0 0 false [] := fun k b => by rw [masterdisclaw14_TocKeeps.j0]
 have haw : ∀ k, masterdisclaw14_awake.f (k + 10) = some true := fun k => lift_le masterdisclaw14_awake.mono awake_true (by omega)
 by_cases h1 : (ac.length : Int) > 40
 · refine ⟨10, ?_⟩
   unfold masterdisclaw14_TocKeeps.f
   rw [haw 0, if_pos h1, hj 9]
   rfl
 · by_cases h2 : cap < 1
   · refine ⟨10, ?_⟩
     unfold masterdisclaw14_TocKeeps.f
     rw [haw 0, if_neg h1, if_pos h2, hj 9]
     rfl
   · by_cases h3 : cap > 449849
     · refine ⟨10, ?_⟩
       unfold masterdisclaw14_TocKeeps.f
       rw [haw 0, if_neg h1, if_neg h2, decide_eq_true h3, hj 9]
       rfl
     · obtain ⟨K, hK⟩ := kl0_true (cap := cap) ac (by omega) ac.length 0 0 false [] (by omega) (v_nil ⟨by omega, by omega⟩)
       refine ⟨K + 9 + 1, ?_⟩
       unfold masterdisclaw14_TocKeeps.f
       rw [haw K, Option.bind_some, if_pos rfl, if_neg h1, if_neg h2, decide_eq_false h3, hj (K + 9), if_neg (show ¬ (false = true) by decide)]
       exact kl0_lift hK (by omega)
end Go.Proofs.Ytjhepdcdhabcjaa.G
namespace Go.Proofs.Ytjhepdcdhabcjaa.G
open Go.RowKit Go.Proofs.YtjhepdcdhabcjaaW.PrintWords Go.Proofs.YtjhepdcdhabcjaaW.PrintLast Go.Proofs.YtjhepdcdhabcjaaW.PrintMore
open Go.ChangeShapes Go.WideShapes Go.Deep
set_option linter.unusedVariables false
theorem act_cells {H : Type} {enc : TypeId × Value → H} {W : World} {base n : Nat} {spare : Nat → Bool} {held : Bool} {a : Addr} {cs : List Value} {x : DataW H × List MemPlace}
 (hc : W.cells? base a (Try.prog.cellsOf 26) = some cs) (h : DataW.trod enc Try.prog W base spare held n 26 cs = some x) :
 ∃ s : S26, ∀ (q : Nat) (v : Value), [Value.int .i64 s.f0, .int .i64 s.f1, .int .i64 s.f2, .bool s.f3][q]? = some v → W.cell? (a.add q) = some v := by
 have h4 : Try.prog.cellsOf 26 = 4 := by kernel_rfl
 have h1 : Try.prog.cellsOf 3 = 1 := by kernel_rfl
 have h1' : Try.prog.cellsOf 4 = 1 := by kernel_rfl
 obtain ⟨-, hl, hat⟩ := World.cells?_some hc
 obtain ⟨xs, m, -, -, -, hx, hf⟩ := DataW.trod_struct Try.underlying26 h
 rw [h4] at hl hat
 match cs, hl, xs, hx with
 | [c0, c1, c2, c3], _, [y0, y1, y2, y3], _ =>
  have t0 : DataW.trod enc Try.prog W base spare held m 3 (([c0, c1, c2, c3].drop 0).take (Try.prog.cellsOf 3)) = some y0 := hf 0 _ rfl
  have t1 : DataW.trod enc Try.prog W base spare held m 3 (([c0, c1, c2, c3].drop 1).take (Try.prog.cellsOf 3)) = some y1 := hf 1 _ rfl
  have t2 : DataW.trod enc Try.prog W base spare held m 3 (([c0, c1, c2, c3].drop 2).take (Try.prog.cellsOf 3)) = some y2 := hf 2 _ rfl
  have t3 : DataW.trod enc Try.prog W base spare held m 4 (([c0, c1, c2, c3].drop 3).take (Try.prog.cellsOf 4)) = some y3 := hf 3 _ rfl
  rw [h1] at t0
  obtain ⟨n0, e0, -, -⟩ := DataW.trod_int Try.underlying3 t0
  rw [h1] at t1
  obtain ⟨n1, e1, -, -⟩ := DataW.trod_int Try.underlying3 t1
  rw [h1] at t2
  obtain ⟨n2, e2, -, -⟩ := DataW.trod_int Try.underlying3 t2
  rw [h1'] at t3
  obtain ⟨n3, e3, -⟩ := DataW.trod_bool Try.underlying4 t3
  obtain rfl : c0 = .int .i64 n0 := by injection e0
  obtain rfl : c1 = .int .i64 n1 := by injection e1
  obtain rfl : c2 = .int .i64 n2 := by injection e2
  obtain rfl : c3 = .bool n3 := by injection e3
  refine ⟨⟨n0, n1, n2, n3⟩, fun q v hq => ?_⟩
  have hq7 : q < 4 := by
   have := (List.getElem?_eq_some_iff.1 hq).1
   simpa using this
  rw [hat q hq7]
  exact hq
theorem open_acts {H : Type} {enc : TypeId × Value → H} {W : World} {base : Nat} {spare : Nat → Bool} {held : Bool} {n : Nat} {u : Value} {y : DataW H × List MemPlace} (h : DataW.trod enc Try.prog W base spare held n 35 [u] = some y) :
 ∃ (A : Option Addr) (c : Nat) (l : List S26), u = .slice A l.length c ∧ l.length ≤ c ∧ l.length ≤ 9223372036854775807 ∧ Kd.C k26 W A l.length l := by
 rcases open_slice Try.underlying35 h with ⟨hc, -⟩ | ⟨a, len, cap, m, n, D, Pl, hc, -, hl, hm, hmm, -, hi⟩
 · obtain rfl : u = .slice none 0 0 := by injection hc
   exact ⟨none, 0, [], rfl, Nat.le_refl _, Nat.zero_le _, rfl, Nat.zero_le _, fun h => absurd h (Nat.lt_irrefl _)⟩
 · obtain rfl : u = .slice (some a) len cap := by injection hc
   have hlm : len ≤ m := by rw [hmm]; split <;> omega
   have h4 : Try.prog.cellsOf 26 = 4 := by kernel_rfl
   have hx : ∀ i, ∃ s : S26, i < len → ∀ (q : Nat) (v : Value), [Value.int .i64 s.f0, .int .i64 s.f1, .int .i64 s.f2, .bool s.f3][q]? = some v → W.cell? (a.add (i * 4 + q)) = some v := by
    intro i
    by_cases hlt : i < len
    · obtain ⟨cs, hcs, ht⟩ := hi i (by omega)
      obtain ⟨s, hs⟩ := act_cells hcs ht
      refine ⟨s, fun _ q v hq => ?_⟩
      have := hs q v hq
      rwa [h4, Go.Deep.add_add] at this
    · exact ⟨z26, fun h => absurd h hlt⟩
   obtain ⟨g, hg⟩ := Classical.axiomOfChoice hx
   have hlen : ((List.range len).map g).length = len := by simp
   have hml : len ≤ 9223372036854775807 := by unfold maxLen at hm; omega
   refine ⟨some a, cap, (List.range len).map g, by rw [hlen], by rw [hlen]; exact hl, by rw [hlen]; exact hml, ?_⟩
   rw [hlen]
   refine ⟨hlen, hml, fun _ => ⟨a, rfl, fun j p hj => ?_⟩⟩
   rw [List.getElem?_map] at hj
   by_cases hjl : j < len
   · rw [List.getElem?_range hjl] at hj
     cases hj
     exact ⟨_, rfl, k26_mk W (g j), hg j hjl⟩
   · rw [List.getElem?_eq_none (by simpa using hjl)] at hj
     cases hj
end Go.Proofs.Ytjhepdcdhabcjaa.G
