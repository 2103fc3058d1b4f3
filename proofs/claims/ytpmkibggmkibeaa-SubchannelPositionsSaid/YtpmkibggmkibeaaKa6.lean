/- Texts of one claim, merged by a program of this session; what is proved stands in the last of them. -/
import Derived.ChangeArms
import Derived.Deep.Slices
import Derived.Test.YtpmkibggmkibeaaKa1
namespace Go.Proofs.Ytpmkibggmkibeaa.G
open Go.RowKit Go.Proofs.YtpmkibggmkibeaaW.PrintWords Go.Proofs.YtpmkibggmkibeaaW.PrintLast Go.Proofs.YtpmkibggmkibeaaW.PrintMore
open Go.ChangeShapes Go.WideShapes Go.Deep
set_option linter.unusedVariables false
set_option maxRecDepth 100000 in
theorem track_cells {H : Type} {enc : TypeId × Value → H} {W : World} {base n : Nat} {spare : Nat → Bool} {held : Bool} {a : Addr} {cs : List Value} {x : DataW H × List MemPlace}
 (hc : W.cells? base a (Try.prog.cellsOf 53) = some cs) (h : DataW.trod enc Try.prog W base spare held n 53 cs = some x) :
 ∃ s : S53, ∀ (q : Nat) (v : Value), [Value.int .i64 s.f0, .int .i64 s.f1, .int .i64 s.f2, .int .i64 s.f3, .int .i64 s.f4, .int .i64 s.f5, .int .i64 s.f6][q]? = some v → W.cell? (a.add q) = some v := by
 have h7 : Try.prog.cellsOf 53 = 7 := by kernel_rfl
 have h1 : Try.prog.cellsOf 3 = 1 := by kernel_rfl
 obtain ⟨-, hl, hat⟩ := World.cells?_some hc
 obtain ⟨xs, m, -, -, -, hx, hf⟩ := DataW.trod_struct Try.underlying53 h
 rw [h7] at hl hat
 match cs, hl, xs, hx with
 | [c0, c1, c2, c3, c4, c5, c6], _, [y0, y1, y2, y3, y4, y5, y6], _ =>
  have t0 : DataW.trod enc Try.prog W base spare held m 3 (([c0, c1, c2, c3, c4, c5, c6].drop 0).take (Try.prog.cellsOf 3)) = some y0 := hf 0 _ rfl
  have t1 : DataW.trod enc Try.prog W base spare held m 3 (([c0, c1, c2, c3, c4, c5, c6].drop 1).take (Try.prog.cellsOf 3)) = some y1 := hf 1 _ rfl
  have t2 : DataW.trod enc Try.prog W base spare held m 3 (([c0, c1, c2, c3, c4, c5, c6].drop 2).take (Try.prog.cellsOf 3)) = some y2 := hf 2 _ rfl
  have t3 : DataW.trod enc Try.prog W base spare held m 3 (([c0, c1, c2, c3, c4, c5, c6].drop 3).take (Try.prog.cellsOf 3)) = some y3 := hf 3 _ rfl
  have t4 : DataW.trod enc Try.prog W base spare held m 3 (([c0, c1, c2, c3, c4, c5, c6].drop 4).take (Try.prog.cellsOf 3)) = some y4 := hf 4 _ rfl
  have t5 : DataW.trod enc Try.prog W base spare held m 3 (([c0, c1, c2, c3, c4, c5, c6].drop 5).take (Try.prog.cellsOf 3)) = some y5 := hf 5 _ rfl
  have t6 : DataW.trod enc Try.prog W base spare held m 3 (([c0, c1, c2, c3, c4, c5, c6].drop 6).take (Try.prog.cellsOf 3)) = some y6 := hf 6 _ rfl
  rw [h1] at t0
  obtain ⟨n0, e0, -, -⟩ := DataW.trod_int Try.underlying3 t0
  rw [h1] at t1
  obtain ⟨n1, e1, -, -⟩ := DataW.trod_int Try.underlying3 t1
  rw [h1] at t2
  obtain ⟨n2, e2, -, -⟩ := DataW.trod_int Try.underlying3 t2
  rw [h1] at t3
  obtain ⟨n3, e3, -, -⟩ := DataW.trod_int Try.underlying3 t3
  rw [h1] at t4
  obtain ⟨n4, e4, -, -⟩ := DataW.trod_int Try.underlying3 t4
  rw [h1] at t5
  obtain ⟨n5, e5, -, -⟩ := DataW.trod_int Try.underlying3 t5
  rw [h1] at t6
  obtain ⟨n6, e6, -, -⟩ := DataW.trod_int Try.underlying3 t6
  obtain rfl : c0 = .int .i64 n0 := by injection e0
  obtain rfl : c1 = .int .i64 n1 := by injection e1
  obtain rfl : c2 = .int .i64 n2 := by injection e2
  obtain rfl : c3 = .int .i64 n3 := by injection e3
  obtain rfl : c4 = .int .i64 n4 := by injection e4
  obtain rfl : c5 = .int .i64 n5 := by injection e5
  obtain rfl : c6 = .int .i64 n6 := by injection e6
  refine ⟨⟨n0, n1, n2, n3, n4, n5, n6⟩, fun q v hq => ?_⟩
  have hq7 : q < 7 := by
   have := (List.getElem?_eq_some_iff.1 hq).1
   simpa using this
  rw [hat q hq7]
  exact hq
set_option maxRecDepth 100000 in
theorem open_tracks {H : Type} {enc : TypeId × Value → H} {W : World} {base : Nat} {spare : Nat → Bool} {held : Bool} {n : Nat} {u : Value} {y : DataW H × List MemPlace} (h : DataW.trod enc Try.prog W base spare held n 22 [u] = some y) :
 ∃ (A : Option Addr) (c : Nat) (l : List S53), u = .slice A l.length c ∧ l.length ≤ c ∧ l.length ≤ 9223372036854775807 ∧ Kd.C k53 W A l.length l := by
 rcases open_slice Try.underlying22 h with ⟨hc, -⟩ | ⟨a, len, cap, m, n, D, Pl, hc, -, hl, hm, hmm, -, hi⟩
 · obtain rfl : u = .slice none 0 0 := by injection hc
   exact ⟨none, 0, [], rfl, Nat.le_refl _, Nat.zero_le _, rfl, Nat.zero_le _, fun h => absurd h (Nat.lt_irrefl _)⟩
 · obtain rfl : u = .slice (some a) len cap := by injection hc
   have hlm : len ≤ m := by rw [hmm]; split <;> omega
   have h7 : Try.prog.cellsOf 53 = 7 := by kernel_rfl
   have hx : ∀ i, ∃ s : S53, i < len → ∀ (q : Nat) (v : Value), [Value.int .i64 s.f0, .int .i64 s.f1, .int .i64 s.f2, .int .i64 s.f3, .int .i64 s.f4, .int .i64 s.f5, .int .i64 s.f6][q]? = some v → W.cell? (a.add (i * 7 + q)) = some v := by
    intro i
    by_cases hlt : i < len
    · obtain ⟨cs, hcs, ht⟩ := hi i (by omega)
      obtain ⟨s, hs⟩ := track_cells hcs ht
      refine ⟨s, fun _ q v hq => ?_⟩
      have := hs q v hq
      rwa [h7, Go.Deep.add_add] at this
    · exact ⟨z53, fun h => absurd h hlt⟩
   obtain ⟨g, hg⟩ := Classical.axiomOfChoice hx
   have hlen : ((List.range len).map g).length = len := by simp
   have hml : len ≤ 9223372036854775807 := by unfold maxLen at hm; omega
   refine ⟨some a, cap, (List.range len).map g, by rw [hlen], by rw [hlen]; exact hl, by rw [hlen]; exact hml, ?_⟩
   rw [hlen]
   refine ⟨hlen, hml, fun _ => ⟨a, rfl, fun j p hj => ?_⟩⟩
   rw [List.getElem?_map] at hj
   by_cases hjl : j < len
   · rw [List.getElem?_range hjl] at hj
     cases hj
     exact ⟨_, rfl, k53_mk W (g j), hg j hjl⟩
   · rw [List.getElem?_eq_none (by simpa using hjl)] at hj
     cases hj
end Go.Proofs.Ytpmkibggmkibeaa.G
