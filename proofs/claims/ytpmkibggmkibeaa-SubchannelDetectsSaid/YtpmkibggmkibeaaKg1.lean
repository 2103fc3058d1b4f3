/- Texts of one claim, merged by a program of this session; what is proved stands in the last of them. -/
import Derived.ArgAppend
import Derived.Below
import Derived.BigQuiet
import Derived.Deep.AppendLies
import Derived.Deep.CutBlock
import Derived.Deep.DeepCutAuto
import Derived.Deep.Draws
import Derived.Deep.LoopGhost
import Derived.Deep.OwnRows
import Derived.Deep.QuietTactic
import Derived.Deep.RegionHeld3
import Derived.KernelRfl
import Derived.Laws.BitsLemmas
import Derived.Laws.BytesArg
import Derived.Laws.CopyOwn
import Derived.Laws.IdiomCopy
import Derived.Laws.MakeOwn
import Derived.Laws.OwnMore
import Derived.Laws.Rows
import Derived.Laws.Slices
import Derived.Lib.AppendStr
import Derived.Lib.ConvBytes
import Derived.Maps.AppendAt
import Derived.Maps.Own
import Derived.Maps.OwnOps
import Derived.Maps.OwnSet
import Derived.Maps.RangeWalk
import Derived.OrdersHeld
import Derived.Outline
import Derived.OwnWalk
import Derived.RowKit
import Derived.RowKit3
import Derived.StillTailTactics
import Derived.Tactics
import Derived.WalkKit
import Derived.WideLaws
import Derived.Test.YtpmkibggmkibeaaKg0
import Derived.Test.YtpmkibggmkibeaaProg
namespace Go.Proofs.Ytpmkibggmkibeaa.G
open Go.RowKit Go.Proofs.YtpmkibggmkibeaaW.PrintWords Go.Proofs.YtpmkibggmkibeaaW.PrintLast Go.Proofs.YtpmkibggmkibeaaW.PrintMore
attribute [local go_sem] max2_int min2_int max_two min_two max_three min_three max_four min_four   -- for this text's walks alone
set_option linter.unusedVariables false
set_option linter.unusedSimpArgs false
def errW : Option Int → Value
 | none => .nilIface
 | some c => .iface 0 (.int .i64 c)
theorem errW_none : errW none = .nilIface := rfl
theorem errW_some (c : Int) : errW (some c) = .iface 0 (.int .i64 c) := rfl
theorem info3 : (Try.prog.info? 3).map (fun i => (i.zero, i.size, i.bytes)) = some (some (.int .i64 0), 1, 8) := by kernel_rfl
theorem info5 : (Try.prog.info? 5).map (fun i => (i.zero, i.size, i.bytes)) = some (some (.int .u8 0), 1, 1) := by kernel_rfl
theorem info27 : (Try.prog.info? 27).map (fun i => (i.zero, i.size, i.bytes)) = some (some (.agg #[(.int .i64 0), (.int .i64 0), (.int .i64 0), (.int .i64 0), (.int .i64 0), (.int .i64 0), (.int .i64 0), (.int .i64 0), (.int .i64 0)]), 9, 72) := by kernel_rfl
theorem info53 : (Try.prog.info? 53).map (fun i => (i.zero, i.size, i.bytes)) = some (some (.agg #[(.int .i64 0), (.int .i64 0), (.int .i64 0), (.int .i64 0), (.int .i64 0), (.int .i64 0), (.int .i64 0)]), 7, 56) := by kernel_rfl
structure S25 where
 f0 : Int
 f1 : Int
 f2 : Int
def z25 : S25 := ⟨(0 : Int), (0 : Int), (0 : Int)⟩
def k25 : Kd S25 := Kd.iso (Kd.pair (Kd.int .i64) (Kd.pair (Kd.int .i64) (Kd.int .i64))) (fun x : S25 => (x.f0, x.f1, x.f2))
theorem k25_open {w : World} {x : S25} {cs : List Value} (h : k25.K w x cs) : cs = [.int .i64 x.f0, .int .i64 x.f1, .int .i64 x.f2] := by
 obtain ⟨_, _, rfl, rfl, ⟨_, _, rfl, rfl, rfl⟩⟩ := h
 exact rfl
theorem k25_openM {w : World} {base : Nat} {ok : Nat → Prop} {x : S25} {cs : List Value} (h : k25.M w base ok x cs) : cs = [.int .i64 x.f0, .int .i64 x.f1, .int .i64 x.f2] := by
 obtain ⟨_, _, rfl, rfl, ⟨_, _, rfl, rfl, rfl⟩⟩ := h
 exact rfl
theorem k25_mk (w : World) (x : S25)  : k25.K w x [.int .i64 x.f0, .int .i64 x.f1, .int .i64 x.f2] := ⟨[.int .i64 x.f0], [.int .i64 x.f1, .int .i64 x.f2], rfl, rfl, ⟨[.int .i64 x.f1], [.int .i64 x.f2], rfl, rfl, rfl⟩⟩
theorem k25_mkM (w : World) (base : Nat) (ok : Nat → Prop) (x : S25)  : k25.M w base ok x [.int .i64 x.f0, .int .i64 x.f1, .int .i64 x.f2] := ⟨[.int .i64 x.f0], [.int .i64 x.f1, .int .i64 x.f2], rfl, rfl, ⟨[.int .i64 x.f1], [.int .i64 x.f2], rfl, rfl, rfl⟩⟩
def rd_T25 (xs : List S25) (i : Int) : S25 := xs.getD i.toNat z25
theorem at_T25 {w : World} {A : Option Addr} {n : Nat} {xs : List S25} (h : Kd.C k25 w A n xs) (i : Int) (h0 : 0 ≤ i) (h1 : i < n) : ∃ ad , A = some ad ∧ w.cell? (ad.add (i.toNat * 3)) = some (.int .i64 (rd_T25 xs i).f0) ∧ w.cell? ⟨(ad.add (i.toNat * 3)).block, (ad.add (i.toNat * 3)).off + 1, none⟩ = some (.int .i64 (rd_T25 xs i).f1) ∧ w.cell? ⟨(ad.add (i.toNat * 3)).block, (ad.add (i.toNat * 3)).off + 2, none⟩ = some (.int .i64 (rd_T25 xs i).f2) := by
 obtain ⟨ad, c, e, _, hK, hc0⟩ := Kd.C_get h z25 i h0 h1
 have hc : ∀ j u, c[j]? = some u → w.cell? (ad.add (i.toNat * 3 + j)) = some u := hc0
 obtain rfl := k25_open hK
 exact ⟨ad, e, hc 0 _ rfl, by rw [← add_field _ _ 1 (by omega)]; exact hc 1 _ rfl, by rw [← add_field _ _ 2 (by omega)]; exact hc 2 _ rfl⟩
structure S53 where
 f0 : Int
 f1 : Int
 f2 : Int
 f3 : Int
 f4 : Int
 f5 : Int
 f6 : Int
def z53 : S53 := ⟨(0 : Int), (0 : Int), (0 : Int), (0 : Int), (0 : Int), (0 : Int), (0 : Int)⟩
def k53 : Kd S53 := Kd.iso (Kd.pair (Kd.int .i64) (Kd.pair (Kd.int .i64) (Kd.pair (Kd.int .i64) (Kd.pair (Kd.int .i64) (Kd.pair (Kd.int .i64) (Kd.pair (Kd.int .i64) (Kd.int .i64))))))) (fun x : S53 => (x.f0, x.f1, x.f2, x.f3, x.f4, x.f5, x.f6))
theorem k53_open {w : World} {x : S53} {cs : List Value} (h : k53.K w x cs) : cs = [.int .i64 x.f0, .int .i64 x.f1, .int .i64 x.f2, .int .i64 x.f3, .int .i64 x.f4, .int .i64 x.f5, .int .i64 x.f6] := by
 obtain ⟨_, _, rfl, rfl, ⟨_, _, rfl, rfl, ⟨_, _, rfl, rfl, ⟨_, _, rfl, rfl, ⟨_, _, rfl, rfl, ⟨_, _, rfl, rfl, rfl⟩⟩⟩⟩⟩⟩ := h
 exact rfl
theorem k53_openM {w : World} {base : Nat} {ok : Nat → Prop} {x : S53} {cs : List Value} (h : k53.M w base ok x cs) : cs = [.int .i64 x.f0, .int .i64 x.f1, .int .i64 x.f2, .int .i64 x.f3, .int .i64 x.f4, .int .i64 x.f5, .int .i64 x.f6] := by
 obtain ⟨_, _, rfl, rfl, ⟨_, _, rfl, rfl, ⟨_, _, rfl, rfl, ⟨_, _, rfl, rfl, ⟨_, _, rfl, rfl, ⟨_, _, rfl, rfl, rfl⟩⟩⟩⟩⟩⟩ := h
 exact rfl
theorem k53_mk (w : World) (x : S53)  : k53.K w x [.int .i64 x.f0, .int .i64 x.f1, .int .i64 x.f2, .int .i64 x.f3, .int .i64 x.f4, .int .i64 x.f5, .int .i64 x.f6] := ⟨[.int .i64 x.f0], [.int .i64 x.f1, .int .i64 x.f2, .int .i64 x.f3, .int .i64 x.f4, .int .i64 x.f5, .int .i64 x.f6], rfl, rfl, ⟨[.int .i64 x.f1], [.int .i64 x.f2, .int .i64 x.f3, .int .i64 x.f4, .int .i64 x.f5, .int .i64 x.f6], rfl, rfl, ⟨[.int .i64 x.f2], [.int .i64 x.f3, .int .i64 x.f4, .int .i64 x.f5, .int .i64 x.f6], rfl, rfl, ⟨[.int .i64 x.f3], [.int .i64 x.f4, .int .i64 x.f5, .int .i64 x.f6], rfl, rfl, ⟨[.int .i64 x.f4], [.int .i64 x.f5, .int .i64 x.f6], rfl, rfl, ⟨[.int .i64 x.f5], [.int .i64 x.f6], rfl, rfl, rfl⟩⟩⟩⟩⟩⟩
theorem k53_mkM (w : World) (base : Nat) (ok : Nat → Prop) (x : S53)  : k53.M w base ok x [.int .i64 x.f0, .int .i64 x.f1, .int .i64 x.f2, .int .i64 x.f3, .int .i64 x.f4, .int .i64 x.f5, .int .i64 x.f6] := ⟨[.int .i64 x.f0], [.int .i64 x.f1, .int .i64 x.f2, .int .i64 x.f3, .int .i64 x.f4, .int .i64 x.f5, .int .i64 x.f6], rfl, rfl, ⟨[.int .i64 x.f1], [.int .i64 x.f2, .int .i64 x.f3, .int .i64 x.f4, .int .i64 x.f5, .int .i64 x.f6], rfl, rfl, ⟨[.int .i64 x.f2], [.int .i64 x.f3, .int .i64 x.f4, .int .i64 x.f5, .int .i64 x.f6], rfl, rfl, ⟨[.int .i64 x.f3], [.int .i64 x.f4, .int .i64 x.f5, .int .i64 x.f6], rfl, rfl, ⟨[.int .i64 x.f4], [.int .i64 x.f5, .int .i64 x.f6], rfl, rfl, ⟨[.int .i64 x.f5], [.int .i64 x.f6], rfl, rfl, rfl⟩⟩⟩⟩⟩⟩
def rd_T53 (xs : List S53) (i : Int) : S53 := xs.getD i.toNat z53
theorem at_T53 {w : World} {A : Option Addr} {n : Nat} {xs : List S53} (h : Kd.C k53 w A n xs) (i : Int) (h0 : 0 ≤ i) (h1 : i < n) : ∃ ad , A = some ad ∧ w.cell? (ad.add (i.toNat * 7)) = some (.int .i64 (rd_T53 xs i).f0) ∧ w.cell? ⟨(ad.add (i.toNat * 7)).block, (ad.add (i.toNat * 7)).off + 1, none⟩ = some (.int .i64 (rd_T53 xs i).f1) ∧ w.cell? ⟨(ad.add (i.toNat * 7)).block, (ad.add (i.toNat * 7)).off + 2, none⟩ = some (.int .i64 (rd_T53 xs i).f2) ∧ w.cell? ⟨(ad.add (i.toNat * 7)).block, (ad.add (i.toNat * 7)).off + 3, none⟩ = some (.int .i64 (rd_T53 xs i).f3) ∧ w.cell? ⟨(ad.add (i.toNat * 7)).block, (ad.add (i.toNat * 7)).off + 4, none⟩ = some (.int .i64 (rd_T53 xs i).f4) ∧ w.cell? ⟨(ad.add (i.toNat * 7)).block, (ad.add (i.toNat * 7)).off + 5, none⟩ = some (.int .i64 (rd_T53 xs i).f5) ∧ w.cell? ⟨(ad.add (i.toNat * 7)).block, (ad.add (i.toNat * 7)).off + 6, none⟩ = some (.int .i64 (rd_T53 xs i).f6) := by
 obtain ⟨ad, c, e, _, hK, hc0⟩ := Kd.C_get h z53 i h0 h1
 have hc : ∀ j u, c[j]? = some u → w.cell? (ad.add (i.toNat * 7 + j)) = some u := hc0
 obtain rfl := k53_open hK
 exact ⟨ad, e, hc 0 _ rfl, by rw [← add_field _ _ 1 (by omega)]; exact hc 1 _ rfl, by rw [← add_field _ _ 2 (by omega)]; exact hc 2 _ rfl, by rw [← add_field _ _ 3 (by omega)]; exact hc 3 _ rfl, by rw [← add_field _ _ 4 (by omega)]; exact hc 4 _ rfl, by rw [← add_field _ _ 5 (by omega)]; exact hc 5 _ rfl, by rw [← add_field _ _ 6 (by omega)]; exact hc 6 _ rfl⟩
def rd_L6 (xs : List (List S53)) (i : Int) : (List S53) := xs.getD i.toNat ([] : List S53)
theorem at_L6 {w : World} {A : Option Addr} {n : Nat} {xs : List (List S53)} (h : Kd.C (Kd.slice 53 k53) w A n xs) (i : Int) (h0 : 0 ≤ i) (h1 : i < n) : ∃ ad A0 c0, A = some ad ∧ w.cell? (ad.add i.toNat) = some (.slice A0 (rd_L6 xs i).length c0) ∧ (rd_L6 xs i).length ≤ c0 ∧ k53.C w A0 (rd_L6 xs i).length (rd_L6 xs i) := by
 obtain ⟨ad, c, e, _, hK, hc0⟩ := Kd.C_get h ([] : List S53) i h0 h1
 have hc : ∀ j u, c[j]? = some u → w.cell? (ad.add (i.toNat * 1 + j)) = some u := hc0
 obtain ⟨A0, c0, rfl, l0, g0⟩ := hK
 exact ⟨ad, A0, c0, e, by have hq := hc 0 _ rfl; rwa [Nat.mul_one, Nat.add_zero] at hq, l0, g0⟩
structure S27 where
 f0 : Int
 f1 : Int
 f2 : Int
 f3 : S25
 f4 : S25
def z27 : S27 := ⟨(0 : Int), (0 : Int), (0 : Int), z25, z25⟩
def k27 : Kd S27 := Kd.iso (Kd.pair (Kd.int .i64) (Kd.pair (Kd.int .i64) (Kd.pair (Kd.int .i64) (Kd.pair k25 k25)))) (fun x : S27 => (x.f0, x.f1, x.f2, x.f3, x.f4))
theorem k27_open {w : World} {x : S27} {cs : List Value} (h : k27.K w x cs) : cs = [.int .i64 x.f0, .int .i64 x.f1, .int .i64 x.f2, .int .i64 x.f3.f0, .int .i64 x.f3.f1, .int .i64 x.f3.f2, .int .i64 x.f4.f0, .int .i64 x.f4.f1, .int .i64 x.f4.f2] := by
 obtain ⟨_, _, rfl, rfl, ⟨_, _, rfl, rfl, ⟨_, _, rfl, rfl, ⟨_, _, rfl, s3, s6⟩⟩⟩⟩ := h
 obtain rfl := k25_open s3
 obtain rfl := k25_open s6
 exact rfl
theorem k27_openM {w : World} {base : Nat} {ok : Nat → Prop} {x : S27} {cs : List Value} (h : k27.M w base ok x cs) : cs = [.int .i64 x.f0, .int .i64 x.f1, .int .i64 x.f2, .int .i64 x.f3.f0, .int .i64 x.f3.f1, .int .i64 x.f3.f2, .int .i64 x.f4.f0, .int .i64 x.f4.f1, .int .i64 x.f4.f2] := by
 obtain ⟨_, _, rfl, rfl, ⟨_, _, rfl, rfl, ⟨_, _, rfl, rfl, ⟨_, _, rfl, s3, s6⟩⟩⟩⟩ := h
 obtain rfl := k25_openM s3
 obtain rfl := k25_openM s6
 exact rfl
theorem k27_mk (w : World) (x : S27)  : k27.K w x [.int .i64 x.f0, .int .i64 x.f1, .int .i64 x.f2, .int .i64 x.f3.f0, .int .i64 x.f3.f1, .int .i64 x.f3.f2, .int .i64 x.f4.f0, .int .i64 x.f4.f1, .int .i64 x.f4.f2] := ⟨[.int .i64 x.f0], [.int .i64 x.f1, .int .i64 x.f2, .int .i64 x.f3.f0, .int .i64 x.f3.f1, .int .i64 x.f3.f2, .int .i64 x.f4.f0, .int .i64 x.f4.f1, .int .i64 x.f4.f2], rfl, rfl, ⟨[.int .i64 x.f1], [.int .i64 x.f2, .int .i64 x.f3.f0, .int .i64 x.f3.f1, .int .i64 x.f3.f2, .int .i64 x.f4.f0, .int .i64 x.f4.f1, .int .i64 x.f4.f2], rfl, rfl, ⟨[.int .i64 x.f2], [.int .i64 x.f3.f0, .int .i64 x.f3.f1, .int .i64 x.f3.f2, .int .i64 x.f4.f0, .int .i64 x.f4.f1, .int .i64 x.f4.f2], rfl, rfl, ⟨[.int .i64 x.f3.f0, .int .i64 x.f3.f1, .int .i64 x.f3.f2], [.int .i64 x.f4.f0, .int .i64 x.f4.f1, .int .i64 x.f4.f2], rfl, (k25_mk w x.f3 ), (k25_mk w x.f4 )⟩⟩⟩⟩
theorem k27_mkM (w : World) (base : Nat) (ok : Nat → Prop) (x : S27)  : k27.M w base ok x [.int .i64 x.f0, .int .i64 x.f1, .int .i64 x.f2, .int .i64 x.f3.f0, .int .i64 x.f3.f1, .int .i64 x.f3.f2, .int .i64 x.f4.f0, .int .i64 x.f4.f1, .int .i64 x.f4.f2] := ⟨[.int .i64 x.f0], [.int .i64 x.f1, .int .i64 x.f2, .int .i64 x.f3.f0, .int .i64 x.f3.f1, .int .i64 x.f3.f2, .int .i64 x.f4.f0, .int .i64 x.f4.f1, .int .i64 x.f4.f2], rfl, rfl, ⟨[.int .i64 x.f1], [.int .i64 x.f2, .int .i64 x.f3.f0, .int .i64 x.f3.f1, .int .i64 x.f3.f2, .int .i64 x.f4.f0, .int .i64 x.f4.f1, .int .i64 x.f4.f2], rfl, rfl, ⟨[.int .i64 x.f2], [.int .i64 x.f3.f0, .int .i64 x.f3.f1, .int .i64 x.f3.f2, .int .i64 x.f4.f0, .int .i64 x.f4.f1, .int .i64 x.f4.f2], rfl, rfl, ⟨[.int .i64 x.f3.f0, .int .i64 x.f3.f1, .int .i64 x.f3.f2], [.int .i64 x.f4.f0, .int .i64 x.f4.f1, .int .i64 x.f4.f2], rfl, (k25_mkM w base ok x.f3 ), (k25_mkM w base ok x.f4 )⟩⟩⟩⟩
def rd_T27 (xs : List S27) (i : Int) : S27 := xs.getD i.toNat z27
theorem at_T27 {w : World} {A : Option Addr} {n : Nat} {xs : List S27} (h : Kd.C k27 w A n xs) (i : Int) (h0 : 0 ≤ i) (h1 : i < n) : ∃ ad , A = some ad ∧ w.cell? (ad.add (i.toNat * 9)) = some (.int .i64 (rd_T27 xs i).f0) ∧ w.cell? ⟨(ad.add (i.toNat * 9)).block, (ad.add (i.toNat * 9)).off + 1, none⟩ = some (.int .i64 (rd_T27 xs i).f1) ∧ w.cell? ⟨(ad.add (i.toNat * 9)).block, (ad.add (i.toNat * 9)).off + 2, none⟩ = some (.int .i64 (rd_T27 xs i).f2) ∧ w.cell? ⟨(ad.add (i.toNat * 9)).block, (ad.add (i.toNat * 9)).off + 3, none⟩ = some (.int .i64 (rd_T27 xs i).f3.f0) ∧ w.cell? ⟨(ad.add (i.toNat * 9)).block, (ad.add (i.toNat * 9)).off + 4, none⟩ = some (.int .i64 (rd_T27 xs i).f3.f1) ∧ w.cell? ⟨(ad.add (i.toNat * 9)).block, (ad.add (i.toNat * 9)).off + 5, none⟩ = some (.int .i64 (rd_T27 xs i).f3.f2) ∧ w.cell? ⟨(ad.add (i.toNat * 9)).block, (ad.add (i.toNat * 9)).off + 6, none⟩ = some (.int .i64 (rd_T27 xs i).f4.f0) ∧ w.cell? ⟨(ad.add (i.toNat * 9)).block, (ad.add (i.toNat * 9)).off + 7, none⟩ = some (.int .i64 (rd_T27 xs i).f4.f1) ∧ w.cell? ⟨(ad.add (i.toNat * 9)).block, (ad.add (i.toNat * 9)).off + 8, none⟩ = some (.int .i64 (rd_T27 xs i).f4.f2) := by
 obtain ⟨ad, c, e, _, hK, hc0⟩ := Kd.C_get h z27 i h0 h1
 have hc : ∀ j u, c[j]? = some u → w.cell? (ad.add (i.toNat * 9 + j)) = some u := hc0
 obtain rfl := k27_open hK
 exact ⟨ad, e, hc 0 _ rfl, by rw [← add_field _ _ 1 (by omega)]; exact hc 1 _ rfl, by rw [← add_field _ _ 2 (by omega)]; exact hc 2 _ rfl, by rw [← add_field _ _ 3 (by omega)]; exact hc 3 _ rfl, by rw [← add_field _ _ 4 (by omega)]; exact hc 4 _ rfl, by rw [← add_field _ _ 5 (by omega)]; exact hc 5 _ rfl, by rw [← add_field _ _ 6 (by omega)]; exact hc 6 _ rfl, by rw [← add_field _ _ 7 (by omega)]; exact hc 7 _ rfl, by rw [← add_field _ _ 8 (by omega)]; exact hc 8 _ rfl⟩
def rd_L8 (xs : List (List S27)) (i : Int) : (List S27) := xs.getD i.toNat ([] : List S27)
theorem at_L8 {w : World} {A : Option Addr} {n : Nat} {xs : List (List S27)} (h : Kd.C (Kd.slice 27 k27) w A n xs) (i : Int) (h0 : 0 ≤ i) (h1 : i < n) : ∃ ad A0 c0, A = some ad ∧ w.cell? (ad.add i.toNat) = some (.slice A0 (rd_L8 xs i).length c0) ∧ (rd_L8 xs i).length ≤ c0 ∧ k27.C w A0 (rd_L8 xs i).length (rd_L8 xs i) := by
 obtain ⟨ad, c, e, _, hK, hc0⟩ := Kd.C_get h ([] : List S27) i h0 h1
 have hc : ∀ j u, c[j]? = some u → w.cell? (ad.add (i.toNat * 1 + j)) = some u := hc0
 obtain ⟨A0, c0, rfl, l0, g0⟩ := hK
 exact ⟨ad, A0, c0, e, by have hq := hc 0 _ rfl; rwa [Nat.mul_one, Nat.add_zero] at hq, l0, g0⟩
end Go.Proofs.Ytpmkibggmkibeaa.G
namespace Go.Proofs.Ytpmkibggmkibeaa.G
open Go.RowKit Go.Proofs.YtpmkibggmkibeaaW.PrintWords Go.Proofs.YtpmkibggmkibeaaW.PrintLast Go.Proofs.YtpmkibggmkibeaaW.PrintMore
attribute [local go_sem] max2_int min2_int max_two min_two max_three min_three max_four min_four   -- for this text's walks alone
set_option linter.unusedVariables false
set_option linter.unusedSimpArgs false
def endian_BCD.f (a0 : Int) : Option (Int × Int) := if a0 < 0 then (some (0, 2)) else (if a0 > 99 then (some (0, 2)) else (some ((Go.bits .or .i64 (wrap64 ((wrap64 (Int.tdiv a0 10)) * 16)) (Int.tmod a0 10)) % 256, 0)))
set_option maxHeartbeats 8000000 in
set_option maxRecDepth 100000 in
theorem endian_BCD.calls (a0 : Int) (r1 : Int) (r2 : Int) (w : World) (h : endian_BCD.f a0 = some (r1, r2)) :
 Calls Try.prog 59 #[.int .i64 a0] w fun e w' => e = .returned (.tuple #[.int .u8 r1, .int .i64 r2]) ∧ Drawn0 w w' := by
 have H : (if a0 < 0 then (some (0, 2)) else (if a0 > 99 then (some (0, 2)) else (some ((Go.bits .or .i64 (wrap64 ((wrap64 (Int.tdiv a0 10)) * 16)) (Int.tmod a0 10)) % 256, 0)))) = some (r1, r2) := h
 clear h
 by_cases c2 : a0 < 0
 · rw [if_pos c2] at H
   have c2b0 : decide (a0 < 0) = true := decide_eq_true c2
   clear c2
   simp only [Option.some.injEq, Prod.mk.injEq] at H
   obtain ⟨rfl, rfl⟩ := H
   go_enter Try.func59, Try.ntmps59
   go_wp2
   go_ret2
   exact ⟨by first | rfl | (simp; done) | (simp [*]; done), by repeat (first | exact Drawn0.refl _ | apply Drawn0.step)⟩
 · rw [if_neg c2] at H
   have c2b0 : decide (a0 < 0) = false := decide_eq_false c2
   clear c2
   by_cases c3 : a0 > 99
   · rw [if_pos c3] at H
     have c3b0 : decide (99 < a0) = true := decide_eq_true c3
     clear c3
     simp only [Option.some.injEq, Prod.mk.injEq] at H
     obtain ⟨rfl, rfl⟩ := H
     go_enter Try.func59, Try.ntmps59
     go_wp2
     go_ret2
     exact ⟨by first | rfl | (simp; done) | (simp [*]; done), by repeat (first | exact Drawn0.refl _ | apply Drawn0.step)⟩
   · rw [if_neg c3] at H
     have c3b0 : decide (99 < a0) = false := decide_eq_false c3
     clear c3
     simp only [Option.some.injEq, Prod.mk.injEq] at H
     obtain ⟨rfl, rfl⟩ := H
     go_enter Try.func59, Try.ntmps59
     go_wp2
     go_ret2
     exact ⟨by first | rfl | (simp; done) | (simp [*]; done), by repeat (first | exact Drawn0.refl _ | apply Drawn0.step)⟩
def endian_FromBCD.f (a0 : Int) : Option (Int × Int) := if (wrap32 (a0 / 16)) > 9 then (some (0, 2)) else (if (wrap32 (Go.bits .and .u8 a0 15)) > 9 then (some (0, 2)) else (some (wrap64 (wrap32 ((wrap32 (10 * (wrap32 (a0 / 16)))) + (wrap32 (Go.bits .and .u8 a0 15)))), 0)))
set_option maxHeartbeats 8000000 in
set_option maxRecDepth 100000 in
theorem endian_FromBCD.calls (a0 : Int) (r1 : Int) (r2 : Int) (w : World) (h : endian_FromBCD.f a0 = some (r1, r2)) :
 Calls Try.prog 68 #[.int .u8 a0] w fun e w' => e = .returned (.tuple #[.int .i64 r1, .int .i64 r2]) ∧ Drawn0 w w' := by
 have H : (if (wrap32 (a0 / 16)) > 9 then (some (0, 2)) else (if (wrap32 (Go.bits .and .u8 a0 15)) > 9 then (some (0, 2)) else (some (wrap64 (wrap32 ((wrap32 (10 * (wrap32 (a0 / 16)))) + (wrap32 (Go.bits .and .u8 a0 15)))), 0)))) = some (r1, r2) := h
 clear h
 by_cases c2 : (wrap32 (a0 / 16)) > 9
 · rw [if_pos c2] at H
   have c2b0 : decide (9 < (wrap32 (a0 / 16))) = true := decide_eq_true c2
   clear c2
   simp only [Option.some.injEq, Prod.mk.injEq] at H
   obtain ⟨rfl, rfl⟩ := H
   go_enter Try.func68, Try.ntmps68
   go_wp2
   go_ret2
   exact ⟨by first | rfl | (simp; done) | (simp [*]; done), by repeat (first | exact Drawn0.refl _ | apply Drawn0.step)⟩
 · rw [if_neg c2] at H
   have c2b0 : decide (9 < (wrap32 (a0 / 16))) = false := decide_eq_false c2
   clear c2
   by_cases c3 : (wrap32 (Go.bits .and .u8 a0 15)) > 9
   · rw [if_pos c3] at H
     have c3b0 : decide (9 < (wrap32 (Go.bits .and .u8 a0 15))) = true := decide_eq_true c3
     clear c3
     simp only [Option.some.injEq, Prod.mk.injEq] at H
     obtain ⟨rfl, rfl⟩ := H
     go_enter Try.func68, Try.ntmps68
     go_wp2
     go_ret2
     exact ⟨by first | rfl | (simp; done) | (simp [*]; done), by repeat (first | exact Drawn0.refl _ | apply Drawn0.step)⟩
   · rw [if_neg c3] at H
     have c3b0 : decide (9 < (wrap32 (Go.bits .and .u8 a0 15))) = false := decide_eq_false c3
     clear c3
     simp only [Option.some.injEq, Prod.mk.injEq] at H
     obtain ⟨rfl, rfl⟩ := H
     go_enter Try.func68, Try.ntmps68
     go_wp2
     go_ret2
     exact ⟨by first | rfl | (simp; done) | (simp [*]; done), by repeat (first | exact Drawn0.refl _ | apply Drawn0.step)⟩
end Go.Proofs.Ytpmkibggmkibeaa.G
namespace Go.Proofs.Ytpmkibggmkibeaa.G
open Go.RowKit Go.Proofs.YtpmkibggmkibeaaW.PrintWords Go.Proofs.YtpmkibggmkibeaaW.PrintLast Go.Proofs.YtpmkibggmkibeaaW.PrintMore
attribute [local go_sem] max2_int min2_int max_two min_two max_three min_three max_four min_four   -- for this text's walks alone
set_option linter.unusedVariables false
set_option linter.unusedSimpArgs false
def masterdiscref01_BCD.f (a0 : Int) : Option (Int × Int) := if a0 < 0 then (some (0, 2)) else (if a0 > 99 then (some (0, 2)) else (some ((wrap64 ((wrap64 ((wrap64 (Int.tdiv a0 10)) * 16)) + (Int.tmod a0 10))) % 256, 0)))
set_option maxHeartbeats 8000000 in
set_option maxRecDepth 100000 in
theorem masterdiscref01_BCD.calls (a0 : Int) (r1 : Int) (r2 : Int) (w : World) (h : masterdiscref01_BCD.f a0 = some (r1, r2)) :
 Calls Try.prog 65 #[.int .i64 a0] w fun e w' => e = .returned (.tuple #[.int .u8 r1, .int .i64 r2]) ∧ Drawn0 w w' := by
 have H : (if a0 < 0 then (some (0, 2)) else (if a0 > 99 then (some (0, 2)) else (some ((wrap64 ((wrap64 ((wrap64 (Int.tdiv a0 10)) * 16)) + (Int.tmod a0 10))) % 256, 0)))) = some (r1, r2) := h
 clear h
 by_cases c2 : a0 < 0
 · rw [if_pos c2] at H
   have c2b0 : decide (a0 < 0) = true := decide_eq_true c2
   clear c2
   simp only [Option.some.injEq, Prod.mk.injEq] at H
   obtain ⟨rfl, rfl⟩ := H
   go_enter Try.func65, Try.ntmps65
   go_wp2
   go_ret2
   exact ⟨by first | rfl | (simp; done) | (simp [*]; done), by repeat (first | exact Drawn0.refl _ | apply Drawn0.step)⟩
 · rw [if_neg c2] at H
   have c2b0 : decide (a0 < 0) = false := decide_eq_false c2
   clear c2
   by_cases c3 : a0 > 99
   · rw [if_pos c3] at H
     have c3b0 : decide (99 < a0) = true := decide_eq_true c3
     clear c3
     simp only [Option.some.injEq, Prod.mk.injEq] at H
     obtain ⟨rfl, rfl⟩ := H
     go_enter Try.func65, Try.ntmps65
     go_wp2
     go_ret2
     exact ⟨by first | rfl | (simp; done) | (simp [*]; done), by repeat (first | exact Drawn0.refl _ | apply Drawn0.step)⟩
   · rw [if_neg c3] at H
     have c3b0 : decide (99 < a0) = false := decide_eq_false c3
     clear c3
     simp only [Option.some.injEq, Prod.mk.injEq] at H
     obtain ⟨rfl, rfl⟩ := H
     go_enter Try.func65, Try.ntmps65
     go_wp2
     go_ret2
     exact ⟨by first | rfl | (simp; done) | (simp [*]; done), by repeat (first | exact Drawn0.refl _ | apply Drawn0.step)⟩
def masterdiscref01_FromBCD.f (a0 : Int) : Option (Int × Int) := if ((Int.tdiv a0 16) % 256) > 9 then (some (0, 2)) else (if (Int.tmod a0 16) > 9 then (some (0, 2)) else (some (wrap64 ((((Int.tdiv a0 16) % 256) * 10) + (wrap64 (Int.tmod a0 16))), 0)))
set_option maxHeartbeats 8000000 in
set_option maxRecDepth 100000 in
theorem masterdiscref01_FromBCD.calls (a0 : Int) (r1 : Int) (r2 : Int) (w : World) (h : masterdiscref01_FromBCD.f a0 = some (r1, r2)) :
 Calls Try.prog 53 #[.int .u8 a0] w fun e w' => e = .returned (.tuple #[.int .i64 r1, .int .i64 r2]) ∧ Drawn0 w w' := by
 have H : (if ((Int.tdiv a0 16) % 256) > 9 then (some (0, 2)) else (if (Int.tmod a0 16) > 9 then (some (0, 2)) else (some (wrap64 ((((Int.tdiv a0 16) % 256) * 10) + (wrap64 (Int.tmod a0 16))), 0)))) = some (r1, r2) := h
 clear h
 by_cases c2 : ((Int.tdiv a0 16) % 256) > 9
 · rw [if_pos c2] at H
   have c2b0 : decide (9 < ((Int.tdiv a0 16) % 256)) = true := decide_eq_true c2
   clear c2
   simp only [Option.some.injEq, Prod.mk.injEq] at H
   obtain ⟨rfl, rfl⟩ := H
   go_enter Try.func53, Try.ntmps53
   go_wp2
   go_ret2
   exact ⟨by first | rfl | (simp; done) | (simp [*]; done), by repeat (first | exact Drawn0.refl _ | apply Drawn0.step)⟩
 · rw [if_neg c2] at H
   have c2b0 : decide (9 < ((Int.tdiv a0 16) % 256)) = false := decide_eq_false c2
   clear c2
   by_cases c3 : (Int.tmod a0 16) > 9
   · rw [if_pos c3] at H
     have c3b0 : decide (9 < (Int.tmod a0 16)) = true := decide_eq_true c3
     clear c3
     simp only [Option.some.injEq, Prod.mk.injEq] at H
     obtain ⟨rfl, rfl⟩ := H
     go_enter Try.func53, Try.ntmps53
     go_wp2
     go_ret2
     exact ⟨by first | rfl | (simp; done) | (simp [*]; done), by repeat (first | exact Drawn0.refl _ | apply Drawn0.step)⟩
   · rw [if_neg c3] at H
     have c3b0 : decide (9 < (Int.tmod a0 16)) = false := decide_eq_false c3
     clear c3
     simp only [Option.some.injEq, Prod.mk.injEq] at H
     obtain ⟨rfl, rfl⟩ := H
     go_enter Try.func53, Try.ntmps53
     go_wp2
     go_ret2
     exact ⟨by first | rfl | (simp; done) | (simp [*]; done), by repeat (first | exact Drawn0.refl _ | apply Drawn0.step)⟩
end Go.Proofs.Ytpmkibggmkibeaa.G
namespace Go.Proofs.Ytpmkibggmkibeaa.G
open Go.RowKit Go.Proofs.YtpmkibggmkibeaaW.PrintWords Go.Proofs.YtpmkibggmkibeaaW.PrintLast Go.Proofs.YtpmkibggmkibeaaW.PrintMore
theorem cell_box {w : World} {B j : Nat} {v : Value} (h : w.cell? ⟨B, j, none⟩ = some v) (o : Obj) : (w.alloc o).cell? ⟨B, j, none⟩ = some v :=
 (World.cell?_alloc_lt w o _ (World.block_lt_of_cell? w _ h)).trans h
theorem below_one (w : World) (o : Obj) : Below w.heap.size w (w.alloc o) := (Below.refl _ _).alloc (Nat.le_refl _) _
theorem two_new {W w' : World} {o1 o2 : Obj} (h : (W.alloc o1).alloc o2 = w') : w'.heap[W.heap.size]? = some o1 ∧ w'.heap[W.heap.size + 1]? = some o2 ∧ Below W.heap.size W w' := by
 subst h
 have s1 : (W.alloc o1).heap.size = W.heap.size + 1 := by simp
 refine ⟨blk_alloc (blk_new W o1) o2, ?_, ?_⟩
 · have := blk_new (W.alloc o1) o2; rwa [s1] at this
 · exact ((Below.refl _ _).alloc (Nat.le_refl _) _).alloc (by rw [s1]; omega) _
theorem cell_below_ {W w2 : World} {a : Addr} {v : Value} (h : W.cell? a = some v) (hb : Below W.heap.size W w2) : w2.cell? a = some v := (hb.cell (World.block_lt_of_cell? W _ h)).trans h
end Go.Proofs.Ytpmkibggmkibeaa.G
namespace Go.Proofs.Ytpmkibggmkibeaa.G
open Go.RowKit Go.Maps Go.Proofs.YtpmkibggmkibeaaW.PrintWords Go.Proofs.YtpmkibggmkibeaaW.PrintLast Go.Proofs.YtpmkibggmkibeaaW.PrintMore
set_option linter.unusedVariables false
def key64 (n : Int) : Lit := .int .i64 n
def spD : DataW Unit := ((((DataW.map []).put (key64 160) (.lit (.int .u8 160))).put (key64 161) (.lit (.int .u8 161))).put (key64 162) (.lit (.int .u8 162))).put (key64 170) (.lit (.int .u8 170))
set_option maxHeartbeats 400000 in
set_option maxRecDepth 100000 in
theorem subchannel_special.calls (w : World) :
 Calls Try.prog 60 #[] w fun e w' => e = .returned (.map (some w.heap.size)) ∧ w'.ownsMap Try.prog 3 (plainElem Try.prog 5) w.heap.size 4 spD ∧ Below w.heap.size w w' := by
 have hmm := @run_makeMap Try.prog
 have law := int_keyed Try.underlying3
 have o0 := World.ownsMap_made w Try.prog 3 (plainElem (H := Unit) Try.prog 5)
 have b0 : Below w.heap.size w (w.alloc (.map #[] 0)) := (Below.refl _ _).alloc (Nat.le_refl _) _
 obtain ⟨w1, r1, o1, g1⟩ := o0.update law Try.underlying83 (by decide) (keyOf_int_mk Try.underlying3 (by decide : (Lit.int .i64 160).wf = true)) (plainElem_int Try.underlying5 (by decide : (Lit.int .u8 160).wf = true))
 obtain ⟨w2, r2, o2, g2⟩ := o1.update law Try.underlying83 (by decide) (keyOf_int_mk Try.underlying3 (by decide : (Lit.int .i64 161).wf = true)) (plainElem_int Try.underlying5 (by decide : (Lit.int .u8 161).wf = true))
 obtain ⟨w3, r3, o3, g3⟩ := o2.update law Try.underlying83 (by decide) (keyOf_int_mk Try.underlying3 (by decide : (Lit.int .i64 162).wf = true)) (plainElem_int Try.underlying5 (by decide : (Lit.int .u8 162).wf = true))
 obtain ⟨w4, r4, o4, g4⟩ := o3.update law Try.underlying83 (by decide) (keyOf_int_mk Try.underlying3 (by decide : (Lit.int .i64 170).wf = true)) (plainElem_int Try.underlying5 (by decide : (Lit.int .u8 170).wf = true))
 have b4 : Below w.heap.size w w4 := by
  have hk : ∀ k, some w.heap.size = some k → w.heap.size ≤ k := fun k h => by cases h; exact Nat.le_refl _
  have c1 := b0.grown g1 b0.size hk
  have c2 := c1.grown g2 c1.size hk
  have c3 := c2.grown g3 c2.size hk
  exact c3.grown g4 c3.size hk
 have HO := Aside0.mk o4
 have HB := Aside0.mk b4
 clear o0 o1 o2 o3 o4 b0 b4 g1 g2 g3 g4 law
 go_enter Try.func60, Try.ntmps60
 go_wp2_with (fail)
 go_ret
 exact ⟨rfl, HO.out, HB.out⟩
def isSp (n : Int) : Bool := n == 160 || n == 161 || n == 162 || n == 170
theorem sp_has : ∀ k : Fin 200, Maps.has spD (key64 (k.val : Int)) = isSp (k.val : Int) := by decide +kernel
theorem sp_at : ∀ k : Fin 200, isSp (k.val : Int) = true → spD.atKey (key64 (k.val : Int)) (.lit (.int .u8 0)) = .lit (.int .u8 (k.val : Int)) := by
 intro k
 rcases (by omega : k.val = 160 ∨ k.val = 161 ∨ k.val = 162 ∨ k.val = 170 ∨ (k.val ≠ 160 ∧ k.val ≠ 161 ∧ k.val ≠ 162 ∧ k.val ≠ 170)) with h | h | h | h | h
 all_goals first | (rw [h]; intro _; rfl) | (intro hs; simp [isSp] at hs; omega)
def subchannel_number.f (a0 : Int) : Option Int := if 0 ≤ a0 ∧ a0 < 200 then (if isSp a0 = true then some a0 else (endian_BCD.f a0).map (·.1)) else none
theorem zero_u8 (w : World) : (zeroValue 5).run Try.prog w = .ok (.int .u8 0) w := by kernel_rfl
theorem sp_wf : ∀ k : Fin 200, (Lit.int .i64 (k.val : Int)).wf = true := by decide +kernel
set_option maxRecDepth 100000 in
theorem sp_look (k : Fin 200) {w : World} {b : Nat} (h : w.ownsMap Try.prog 3 (plainElem (H := Unit) Try.prog 5) b 4 spD) :
 ∃ c : Int, (Instr.lookup 83 (.map (some b)) (.int .i64 (k.val : Int)) true).run Try.prog w = .ok (.tuple #[.int .u8 c, .bool (isSp (k.val : Int))]) w ∧ (isSp (k.val : Int) = true → c = (k.val : Int)) := by
 obtain ⟨v, ps, hrun, hv⟩ := h.look_ok (int_keyed Try.underlying3) Try.underlying83 (zero_u8 w) (plainElem_int Try.underlying5 (by decide : (Lit.int .u8 0).wf = true)) (keyOf_int_mk Try.underlying3 (sp_wf k))
 obtain ⟨c, rfl, hc, hwc⟩ := plainElem_int_inv Try.underlying5 hv
 refine ⟨c, ?_, fun hs => ?_⟩
 · rw [← sp_has k]; exact hrun
 · have e0 := congrArg Prod.fst hc
   have e1 : spD.atKey (key64 (k.val : Int)) (.lit (.int .u8 0)) = .lit (.int .u8 c) := e0
   rw [sp_at k hs] at e1
   injection e1 with e2
   injection e2 with e3 e4
   exact e4.symm
set_option maxHeartbeats 400000 in
set_option maxRecDepth 100000 in
theorem subchannel_number.calls (a0 r : Int) (w : World) (h : subchannel_number.f a0 = some r) :
 Calls Try.prog 42 #[.int .i64 a0] w fun e w' => e = .returned (.int .u8 r) ∧ Below w.heap.size w w' := by
 unfold subchannel_number.f at h
 split at h
 case isFalse => cases h
 rename_i hr
 obtain ⟨k, hk⟩ : ∃ k : Fin 200, (k.val : Int) = a0 := ⟨⟨a0.toNat, by omega⟩, by simp; omega⟩
 have HL := fun W (h : World.ownsMap W Try.prog 3 (plainElem (H := Unit) Try.prog 5) w.heap.size 4 spD) => Aside0.mk (sp_look k h)
 rw [hk] at HL
 clear hk k hr
 cases hs : isSp a0 with
 | true =>
  rw [hs] at h HL
  rw [if_pos rfl] at h
  cases h
  clear hs
  go_enter Try.func42, Try.ntmps42
  go_wp2_with (fail)
  refine (subchannel_special.calls w).mono ?_
  rintro e w1 ⟨rfl, ho, hb⟩
  obtain ⟨c, hrun, hc⟩ := (HL w1 ho).out
  have hc := hc trivial
  subst hc
  have HB := Aside0.mk hb
  clear ho hb HL
  go_wp2_with (fail)
  go_ret
  exact ⟨rfl, HB.out⟩
 | false =>
  rw [hs] at h HL
  rw [if_neg (by decide)] at h
  obtain ⟨q, hq, rfl⟩ := Option.map_eq_some_iff.mp h
  have HC := fun W => Aside0.mk (endian_BCD.calls a0 q.1 q.2 W hq)
  clear hs h hq
  go_enter Try.func42, Try.ntmps42
  go_wp2_with (fail)
  refine (subchannel_special.calls w).mono ?_
  rintro e w1 ⟨rfl, ho, hb⟩
  obtain ⟨c, hrun, -⟩ := (HL w1 ho).out
  have HB := Aside0.mk hb
  clear ho hb HL
  go_wp2_with (fail)
  refine (HC w1).out.mono ?_
  rintro e w2 ⟨rfl, hd⟩
  have HB2 := Aside0.mk (below_step HB.out hd.below)
  clear hd
  go_wp2_with (fail)
  go_ret
  exact ⟨rfl, HB2.out⟩
set_option maxRecDepth 100000 in
theorem sp_key {x c : Int} (h : ∀ zd, spD.atKey (key64 x) zd = .lit (.int .u8 c)) : isSp x = true ∧ c = x := by
 by_cases hs : isSp x = true
 · refine ⟨hs, ?_⟩
   have hx : x = 160 ∨ x = 161 ∨ x = 162 ∨ x = 170 := by simpa [isSp, or_assoc] using hs
   have hk : ∃ k : Fin 200, (k.val : Int) = x := ⟨⟨x.toNat, by omega⟩, by simp; omega⟩
   obtain ⟨k, rfl⟩ := hk
   have := sp_at k hs
   rw [h] at this
   injection this with e2
   injection e2 with e3 e4
 · exfalso
   have hx : ¬ x = 160 ∧ ¬ x = 161 ∧ ¬ x = 162 ∧ ¬ x = 170 := by simpa [isSp, and_assoc] using hs
   have ne : ∀ y : Int, ¬ x = y → key64 x ≠ key64 y := fun y hy e => hy (by injection e)
   have h1 := h (.lit (.int .u8 (c + 1)))
   unfold spD at h1
   rw [atKey_put_other (ne _ hx.2.2.2), atKey_put_other (ne _ hx.2.2.1), atKey_put_other (ne _ hx.2.1), atKey_put_other (ne _ hx.1)] at h1
   injection h1 with e2
   injection e2 with e3 e4
   omega
end Go.Proofs.Ytpmkibggmkibeaa.G
namespace Go.Proofs.Ytpmkibggmkibeaa.G
open Go.RowKit Go.Maps Go.Proofs.YtpmkibggmkibeaaW.PrintWords Go.Proofs.YtpmkibggmkibeaaW.PrintLast Go.Proofs.YtpmkibggmkibeaaW.PrintMore
set_option linter.unusedVariables false
def subchannel_unnumber.f (a0 : Int) : Option (Int × Bool) := if 0 ≤ a0 ∧ a0 < 256 then (if isSp a0 = true then some (a0, true) else (endian_FromBCD.f a0).map fun q => (q.1, decide (q.2 = 0))) else none
theorem sp_hasT {x : Int} (h : isSp x = true) : Maps.has spD (key64 x) = true := by
 have hx : x = 160 ∨ x = 161 ∨ x = 162 ∨ x = 170 := by simpa [isSp, or_assoc] using h
 have hk : ∃ k : Fin 200, (k.val : Int) = x := ⟨⟨x.toNat, by omega⟩, by simp; omega⟩
 obtain ⟨k, rfl⟩ := hk
 rw [sp_has, h]
def Gone (a0 : Int) (left : Lit → Bool) : Prop := ∀ x, isSp x = true → left (key64 x) = false → x ≠ a0
theorem gone_start (a0 : Int) : Gone a0 (Maps.has spD) := fun x h1 h2 => by rw [sp_hasT h1] at h2; cases h2
theorem gone_step {a0 x : Int} {left : Lit → Bool} (h : Gone a0 left) (hx : x ≠ a0) : Gone a0 (fun z => left z && !z.sameKey (.int .i64 x)) := by
 intro y hy hl
 cases hly : left (key64 y) with
 | false => exact h y hy hly
 | true =>
  simp only [hly, Bool.true_and, Bool.not_eq_false'] at hl
  have := WideAt.sameKey_eq hl
  have e : y = x := by injection this
  rw [e]; exact hx
theorem gone_end {a0 : Int} {left : Lit → Bool} (h : Gone a0 left) (hl : ∀ kl, left kl = false) : isSp a0 = false := by
 cases hs : isSp a0 with
 | false => rfl
 | true => exact absurd rfl (h a0 hs (hl _))
set_option maxHeartbeats 400000 in
set_option maxRecDepth 100000 in
theorem unnumber_yes (a0 : Int) (w : World) (h : isSp a0 = true) :
 Calls Try.prog 50 #[.int .u8 a0] w fun e w' => e = .returned (.tuple #[.int .i64 a0, .bool true]) ∧ Below w.heap.size w w' := by
 have law := int_keyed Try.underlying3
 have HS := Aside0.mk h
 clear h
 go_enter Try.func50, Try.ntmps50
 go_wp2_with (fail)
 refine (subchannel_special.calls w).mono ?_
 rintro e w1 ⟨rfl, ho, hb⟩
 obtain ⟨w2, hrun, hrg, hgr, hsz⟩ := ho.range law Try.underlying83
 have HB := Aside0.mk (hb.grown hgr hb.size (fun _ h => by cases h))
 have HR := Aside0.mk hrg
 have HRS := Aside0.mk hb.size
 clear ho hb hrg hgr hsz
 go_wp2_with (fail)
 clear hrun
 obtain ⟨r, hr⟩ : ∃ r, w1.heap.size = r := ⟨_, rfl⟩
 rw [hr] at HR HRS ⊢
 clear hr
 go_loopg [] 4 (fun gk wr => ∃ (left : Lit → Bool) (cnt : Nat), cnt ≤ gk ∧ Aside0 (wr.ranges Try.prog 3 (plainElem (H := Unit) Try.prog 5) w.heap.size r 4 spD left cnt) ∧ Aside0 (Gone a0 left) ∧ Aside0 (Below w.heap.size w wr))
 case atStart => exact ⟨_, _, by decide, HR, ⟨gone_start a0⟩, HB⟩
 case round =>
  obtain ⟨left, cnt, hg, HG, HX, HBB⟩ := hrel
  obtain ⟨wo, rfl⟩ : ∃ wo, wo = wr := ⟨_, rfl⟩
  go_wp2_with (first | (refine wpList_next_ranges_ii _ rfl _ rfl 3 5 .i64 .u8 law Try.underlying3 Try.underlying5 w.heap.size r 4 _ _ _ rfl HG.out ?_ ?_))
  rotate_left
  · intro x c w3 cnt3 hwx hwc hlx hat hrg3 hlt hgr3 hsz3 hen
    obtain ⟨hsx, rfl⟩ := sp_key hat
    have HG3 := Aside0.mk hrg3
    have HB3 := Aside0.mk (HBB.out.grown hgr3 HBB.out.size (fun k h => by cases h; exact HRS.out))
    have HSX := Aside0.mk hsx
    clear hat hlx hwx hwc hsx hrg3 hgr3 hsz3 HG HBB HR HB
    by_cases e : c = a0
    · subst e
      go_wp2_with (fail)
      go_ret2
      exact ⟨rfl, HB3.out⟩
    · have hb1 : (c == a0) = false := beq_eq_false_iff_ne.mpr e
      have HNE := Aside0.mk e
      clear e
      go_wp2_with (fail)
      go_roundg cnt3
      case measure => omega
      case rel => exact ⟨_, _, Nat.le_refl _, HG3, ⟨gone_step HX.out (HNE.out)⟩, HB3⟩
  · intro hc hl
    have hn := gone_end HX.out hl
    clear hc hl HX HG
    rw [HS.out] at hn
    cases hn
set_option maxHeartbeats 400000 in
set_option maxRecDepth 100000 in
theorem unnumber_no (a0 q1 q2 : Int) (w : World) (h : isSp a0 = false) (hq : endian_FromBCD.f a0 = some (q1, q2)) :
 Calls Try.prog 50 #[.int .u8 a0] w fun e w' => e = .returned (.tuple #[.int .i64 q1, .bool (decide (q2 = 0))]) ∧ Below w.heap.size w w' := by
 have law := int_keyed Try.underlying3
 have HS := Aside0.mk h
 have HC := fun W => Aside0.mk (endian_FromBCD.calls a0 q1 q2 W hq)
 have hd : decide (q2 = 0) = (q2 == 0) := by rw [Bool.eq_iff_iff]; simp
 rw [hd]
 clear h hq hd
 go_enter Try.func50, Try.ntmps50
 go_wp2_with (fail)
 refine (subchannel_special.calls w).mono ?_
 rintro e w1 ⟨rfl, ho, hb⟩
 obtain ⟨w2, hrun, hrg, hgr, hsz⟩ := ho.range law Try.underlying83
 have HB := Aside0.mk (hb.grown hgr hb.size (fun _ h => by cases h))
 have HR := Aside0.mk hrg
 have HRS := Aside0.mk hb.size
 clear ho hb hrg hgr hsz
 go_wp2_with (fail)
 clear hrun
 obtain ⟨r, hr⟩ : ∃ r, w1.heap.size = r := ⟨_, rfl⟩
 rw [hr] at HR HRS ⊢
 clear hr
 go_loopg [] 4 (fun gk wr => ∃ (left : Lit → Bool) (cnt : Nat), cnt ≤ gk ∧ Aside0 (wr.ranges Try.prog 3 (plainElem (H := Unit) Try.prog 5) w.heap.size r 4 spD left cnt) ∧ Aside0 (Gone a0 left) ∧ Aside0 (Below w.heap.size w wr))
 case atStart => exact ⟨_, _, by decide, HR, ⟨gone_start a0⟩, HB⟩
 case round =>
  obtain ⟨left, cnt, hg, HG, HX, HBB⟩ := hrel
  obtain ⟨wo, rfl⟩ : ∃ wo, wo = wr := ⟨_, rfl⟩
  go_wp2_with (first | (refine wpList_next_ranges_ii _ rfl _ rfl 3 5 .i64 .u8 law Try.underlying3 Try.underlying5 w.heap.size r 4 _ _ _ rfl HG.out ?_ ?_))
  rotate_left
  · intro x c w3 cnt3 hwx hwc hlx hat hrg3 hlt hgr3 hsz3 hen
    obtain ⟨hsx, rfl⟩ := sp_key hat
    have HG3 := Aside0.mk hrg3
    have HB3 := Aside0.mk (HBB.out.grown hgr3 HBB.out.size (fun k h => by cases h; exact HRS.out))
    have HSX := Aside0.mk hsx
    clear hat hlx hwx hwc hsx hrg3 hgr3 hsz3 HG HBB HR HB
    have HNE := Aside0.mk (show c ≠ a0 from fun e => by have := HSX.out; rw [e, HS.out] at this; cases this)
    have hb1 : (c == a0) = false := beq_eq_false_iff_ne.mpr HNE.out
    clear HSX
    go_wp2_with (fail)
    go_roundg cnt3
    case measure => omega
    case rel => exact ⟨_, _, Nat.le_refl _, HG3, ⟨gone_step HX.out (HNE.out)⟩, HB3⟩
  · intro hc hl
    have hn := gone_end HX.out hl
    clear hc hl HX HG
    clear hn
    go_wp2_with (fail)
    refine (HC wo).out.mono ?_
    rintro e w3 ⟨rfl, hd⟩
    have HB3 := Aside0.mk (below_step HBB.out hd.below)
    clear hd
    go_wp2_with (fail)
    go_ret2
    exact ⟨rfl, HB3.out⟩
theorem subchannel_unnumber.calls (a0 r1 : Int) (r2 : Bool) (w : World) (h : subchannel_unnumber.f a0 = some (r1, r2)) :
 Calls Try.prog 50 #[.int .u8 a0] w fun e w' => e = .returned (.tuple #[.int .i64 r1, .bool r2]) ∧ Below w.heap.size w w' := by
 unfold subchannel_unnumber.f at h
 split at h
 case isFalse => cases h
 cases hs : isSp a0 with
 | true =>
  rw [if_pos hs] at h
  cases h
  exact unnumber_yes a0 w hs
 | false =>
  rw [if_neg (by rw [hs]; decide)] at h
  obtain ⟨⟨q1, q2⟩, hq, he⟩ := Option.map_eq_some_iff.mp h
  cases he
  exact unnumber_no a0 q1 q2 w hs hq
end Go.Proofs.Ytpmkibggmkibeaa.G
namespace Go.Proofs.Ytpmkibggmkibeaa.G
open Go.RowKit Go.Proofs.YtpmkibggmkibeaaW.PrintWords Go.Proofs.YtpmkibggmkibeaaW.PrintLast Go.Proofs.YtpmkibggmkibeaaW.PrintMore
attribute [local go_sem] max2_int min2_int max_two min_two max_three min_three max_four min_four   -- for this text's walks alone
set_option linter.unusedVariables false
set_option linter.unusedSimpArgs false
def masterdiscref10_number.f (a0 : Int) : Option (Int) := if a0 > 99 then (some ((a0) % 256)) else ((masterdiscref01_BCD.f a0).bind fun bt398 => (some bt398.1))
set_option maxHeartbeats 8000000 in
set_option maxRecDepth 100000 in
theorem masterdiscref10_number.calls (a0 : Int) (r : Int) (w : World) (h : masterdiscref10_number.f a0 = some r) :
 Calls Try.prog 48 #[.int .i64 a0] w fun e w' => e = .returned (.int .u8 r) ∧ Drawn0 w w' := by
 have H : (if a0 > 99 then (some ((a0) % 256)) else ((masterdiscref01_BCD.f a0).bind fun bt398 => (some bt398.1))) = some r := h
 clear h
 by_cases c2 : a0 > 99
 · rw [if_pos c2] at H
   have c2b0 : decide (99 < a0) = true := decide_eq_true c2
   clear c2
   obtain rfl := Option.some.inj H
   go_enter Try.func48, Try.ntmps48
   go_wp2
   go_ret
   exact ⟨by first | rfl | (simp; done) | (simp [*]; done), by repeat (first | exact Drawn0.refl _ | apply Drawn0.step)⟩
 · rw [if_neg c2] at H
   have c2b0 : decide (99 < a0) = false := decide_eq_false c2
   clear c2
   replace H := Option.bind_eq_some_iff.mp H
   obtain ⟨⟨t398, t399⟩, A30, H⟩ := H
   replace H : (some t398) = some r := H
   have A3 := Aside0.mk A30
   clear A30
   obtain rfl := Option.some.inj H
   go_enter Try.func48, Try.ntmps48
   go_wp2_with (first | ((with_reducible refine gate_callee (f := 65) rfl ?_); refine goesL_ (some 11) rfl rfl Try.func65 (by kernel_rfl) rfl #[.int .i64 a0] rfl (by (try simp only [List.map_toArray, List.map_cons, List.map_nil]); first | done | rfl | (simp only [List.length_drop, List.length_take]; rfl)) ?_; (with_reducible refine (masterdiscref01_BCD.calls a0 t398 t399 _ A3.out).mono ?_); rintro e w' ⟨rfl, ⟨nd, rfl⟩⟩; refine ⟨_, rfl, ?_⟩))
   go_ret
   exact ⟨by first | rfl | (simp; done) | (simp [*]; done), by repeat (first | exact Drawn0.refl _ | apply Drawn0.step)⟩
end Go.Proofs.Ytpmkibggmkibeaa.G
namespace Go.Proofs.Ytpmkibggmkibeaa.G
open Go.RowKit Go.Proofs.YtpmkibggmkibeaaW.PrintWords Go.Proofs.YtpmkibggmkibeaaW.PrintLast Go.Proofs.YtpmkibggmkibeaaW.PrintMore
set_option linter.unusedVariables false
theorem BCD_fin : ∀ m : Fin 100, endian_BCD.f (m.val : Int) = masterdiscref01_BCD.f (m.val : Int) ∧ (endian_BCD.f (m.val : Int)).map (·.2) = some 0 ∧ (endian_BCD.f (m.val : Int)).bind (fun p => endian_FromBCD.f p.1) = some ((m.val : Int), 0) := by decide +kernel
theorem From_fin : ∀ b : Fin 256, endian_FromBCD.f (b.val : Int) = masterdiscref01_FromBCD.f (b.val : Int) ∧ (endian_FromBCD.f (b.val : Int)).bind (fun p => if p.2 = 0 then endian_BCD.f p.1 else some ((b.val : Int), 0)) = some ((b.val : Int), 0) := by decide +kernel
theorem BCD_out (n : Int) (h : n < 0 ∨ 99 < n) : endian_BCD.f n = some (0, 2) ∧ masterdiscref01_BCD.f n = some (0, 2) := by
 unfold endian_BCD.f masterdiscref01_BCD.f
 by_cases h0 : n < 0
 · rw [if_pos h0, if_pos h0]; exact ⟨rfl, rfl⟩
 · have h1 : n > 99 := by omega
   rw [if_neg h0, if_neg h0, if_pos h1, if_pos h1]; exact ⟨rfl, rfl⟩
theorem BCD_all (n : Int) : ∃ x e, endian_BCD.f n = some (x, e) ∧ masterdiscref01_BCD.f n = some (x, e) ∧ (e = 0 → endian_FromBCD.f x = some (n, 0)) := by
 by_cases h : n < 0 ∨ 99 < n
 · obtain ⟨h1, h2⟩ := BCD_out n h
   exact ⟨0, 2, h1, h2, fun h => by cases h⟩
 · obtain ⟨m, rfl⟩ := Int.eq_ofNat_of_zero_le (show 0 ≤ n by omega)
   obtain ⟨h1, h2, h3⟩ := BCD_fin ⟨m, by omega⟩
   dsimp only at h1 h2 h3
   cases hb : endian_BCD.f (m : Int) with
   | none => rw [hb] at h2; cases h2
   | some p =>
    obtain ⟨x, e⟩ := p
    rw [hb] at h1 h3
    exact ⟨x, e, rfl, h1.symm, fun _ => h3⟩
theorem From_all (b : Int) (h0 : 0 ≤ b) (h1 : b ≤ 255) : ∃ x e, endian_FromBCD.f b = some (x, e) ∧ masterdiscref01_FromBCD.f b = some (x, e) ∧ (e = 0 → endian_BCD.f x = some (b, 0)) := by
 obtain ⟨m, rfl⟩ := Int.eq_ofNat_of_zero_le h0
 obtain ⟨h2, h3⟩ := From_fin ⟨m, by omega⟩
 dsimp only at h2 h3
 cases hb : endian_FromBCD.f (m : Int) with
 | none => rw [hb] at h3; cases h3
 | some p =>
  obtain ⟨x, e⟩ := p
  rw [hb] at h2 h3
  refine ⟨x, e, rfl, h2.symm, fun h => ?_⟩
  simp only [Option.bind_some] at h3
  rw [if_pos h] at h3
  exact h3
def refTrk (b : Int) : Int := match masterdiscref01_FromBCD.f b with
 | some (n, e) => if e = 0 then n else b
 | none => b
def trkOk (b : Int) : Bool := match subchannel_unnumber.f b with
 | some (n, ok) => if ok = true then decide (n = refTrk b ∧ 0 ≤ n ∧ n < 200) else decide (refTrk b = b ∧ isSp b = false ∧ subchannel_number.f b ≠ some b)
 | none => false
theorem trk_fin : ∀ b : Fin 256, trkOk (b.val : Int) = true := by decide +kernel
theorem trk_all {b : Int} (h0 : 0 ≤ b) (h1 : b ≤ 255) : ∃ n ok, subchannel_unnumber.f b = some (n, ok) ∧ (ok = true → n = refTrk b ∧ 0 ≤ n ∧ n < 200) ∧ (ok = false → refTrk b = b ∧ isSp b = false ∧ subchannel_number.f b ≠ some b) := by
 have h : trkOk b = true := by
  have := trk_fin ⟨b.toNat, by omega⟩
  rwa [show (((⟨b.toNat, by omega⟩ : Fin 256).val : Nat) : Int) = b from Int.toNat_of_nonneg h0] at this
 unfold trkOk at h
 split at h
 · rename_i n ok hu
   refine ⟨n, ok, hu, fun e => ?_, fun e => ?_⟩
   · rw [if_pos e] at h
     exact of_decide_eq_true h
   · rw [if_neg (by rw [e]; decide)] at h
     exact of_decide_eq_true h
 · cases h
theorem number_eq_fin : ∀ n : Fin 171, (n.val ≤ 99 ∨ isSp (n.val : Int) = true) → subchannel_number.f (n.val : Int) = masterdiscref10_number.f (n.val : Int) := by decide +kernel
theorem number_eq {n : Int} (h : 0 ≤ n ∧ n ≤ 99 ∨ isSp n = true) : subchannel_number.f n = masterdiscref10_number.f n := by
 have hr : 0 ≤ n ∧ n ≤ 170 := by
  rcases h with h | h
  · omega
  · have : n = 160 ∨ n = 161 ∨ n = 162 ∨ n = 170 := by simpa [isSp, or_assoc] using h
    omega
 obtain ⟨m, rfl⟩ := Int.eq_ofNat_of_zero_le hr.1
 refine number_eq_fin ⟨m, by omega⟩ ?_
 rcases h with h | h
 · left; show m ≤ 99; omega
 · right; exact h
def nbOk (n : Int) : Bool := match subchannel_number.f n with
 | some b => decide (0 ≤ b ∧ b ≤ 255 ∧ subchannel_unnumber.f b = some (n, true))
 | none => false
theorem number_byte_fin : ∀ n : Fin 171, (n.val ≤ 99 ∨ isSp (n.val : Int) = true) → nbOk (n.val : Int) = true := by decide +kernel
theorem number_byte {n : Int} (h : 0 ≤ n ∧ n ≤ 99 ∨ isSp n = true) : ∃ b, subchannel_number.f n = some b ∧ 0 ≤ b ∧ b ≤ 255 ∧ subchannel_unnumber.f b = some (n, true) := by
 have hr : 0 ≤ n ∧ n ≤ 170 := by
  rcases h with h | h
  · omega
  · have : n = 160 ∨ n = 161 ∨ n = 162 ∨ n = 170 := by simpa [isSp, or_assoc] using h
    omega
 have e : (((⟨n.toNat, by omega⟩ : Fin 171).val : Nat) : Int) = n := Int.toNat_of_nonneg hr.1
 have hh := number_byte_fin ⟨n.toNat, by omega⟩ (by
  rw [e]
  rcases h with h | h
  · left; show n.toNat ≤ 99; omega
  · right; exact h)
 rw [e] at hh
 unfold nbOk at hh
 split at hh
 · rename_i b hu
   exact ⟨b, hu, of_decide_eq_true hh⟩
 · cases hh
theorem ctl_fin : ∀ c : Fin 16, (Go.bits .or .i64 (wrap64 ((c.val : Int) * 16)) 1) % 256 = (c.val : Int) * 16 + 1 ∧ (wrap64 ((wrap64 (16 * (c.val : Int))) + 1)) % 256 = (c.val : Int) * 16 + 1 := by decide +kernel
theorem ctl_all {c : Int} (h0 : 0 ≤ c) (h1 : c ≤ 15) : (Go.bits .or .i64 (wrap64 (c * 16)) 1) % 256 = c * 16 + 1 ∧ (wrap64 ((wrap64 (16 * c)) + 1)) % 256 = c * 16 + 1 := by
 obtain ⟨m, rfl⟩ := Int.eq_ofNat_of_zero_le h0
 exact ctl_fin ⟨m, by omega⟩
end Go.Proofs.Ytpmkibggmkibeaa.G
namespace Go.Proofs.Ytpmkibggmkibeaa.G
open Go.RowKit Go.Proofs.YtpmkibggmkibeaaW.PrintWords Go.Proofs.YtpmkibggmkibeaaW.PrintLast Go.Proofs.YtpmkibggmkibeaaW.PrintMore
attribute [local go_sem] max2_int min2_int max_two min_two max_three min_three max_four min_four   -- for this text's walks alone
set_option linter.unusedVariables false
set_option linter.unusedSimpArgs false
def checksum_direct_1.l0 : Nat → Int → Int → Option (Int)
 | 0, _, _ => none
 | k + 1, x3, x7 => if x7 < 8 then (if (x3 / 32768) = 1 then (checksum_direct_1.l0 k (Go.bits .xor .u16 (IntKind.u16.wrap (x3 * 2)) 4129) (wrap64 (x7 + 1))) else (checksum_direct_1.l0 k (IntKind.u16.wrap (x3 * 2)) (wrap64 (x7 + 1)))) else (some x3)
def checksum_direct_1.f (k : Nat) (a0 : Int) : Option (Int) := checksum_direct_1.l0 k (IntKind.u16.wrap ((IntKind.u16.wrap (a0)) * 256)) 0
theorem checksum_direct_1.mono_l : ∀ k, (∀ y0 y1, LeO (checksum_direct_1.l0 k y0 y1) (checksum_direct_1.l0 (k + 1) y0 y1))
 | 0 => fun _ _ r h => by simp [checksum_direct_1.l0] at h
 | k + 1 => by
  have ih0 := checksum_direct_1.mono_l k
  · intro y0 y1
    unfold checksum_direct_1.l0
    repeat' first
    | (with_reducible exact ih0 _ _)
    | (with_reducible exact LeO.refl _)
    | (with_reducible exact LeO.none _)
    | (with_reducible refine LeO.ite ?_ ?_)
    | (with_reducible refine LeO.bind ?_ (fun _ => ?_))
    | exact ih0 _ _
    | exact LeO.none _
    | refine LeO.ite ?_ ?_
    | refine LeO.bind ?_ (fun _ => ?_)
theorem checksum_direct_1.mono : ∀ a0 k, LeO (checksum_direct_1.f k a0) (checksum_direct_1.f (k + 1) a0) := by
 intro a0 k
 have ih0 := checksum_direct_1.mono_l k
 unfold checksum_direct_1.f
 repeat' first
  | (with_reducible exact ih0 _ _)
  | (with_reducible exact LeO.refl _)
  | (with_reducible exact LeO.none _)
  | (with_reducible refine LeO.ite ?_ ?_)
  | (with_reducible refine LeO.bind ?_ (fun _ => ?_))
  | exact ih0 _ _
  | exact LeO.none _
  | refine LeO.ite ?_ ?_
  | refine LeO.bind ?_ (fun _ => ?_)
set_option maxHeartbeats 8000000 in
set_option maxRecDepth 100000 in
theorem checksum_direct_1.calls (k : Nat) (a0 : Int) (r : Int) (w : World) (h : checksum_direct_1.f k a0 = some r) :
 Calls Try.prog 79 #[.int .u8 a0] w fun e w' => e = .returned (.int .u16 r) ∧ Drawn0 w w' := by
 have H : (checksum_direct_1.l0 k (IntKind.u16.wrap ((IntKind.u16.wrap (a0)) * 256)) 0) = some r := h
 clear h
 have H' := Aside0.mk H
 clear H
 go_enter Try.func79, Try.ntmps79
 go_wp2
 go_loopg [3, 7] k (fun kq v3 v7 w' => ∃ (x3_1 : Int) (x7_1 : Int), v3 = .int .u16 x3_1 ∧ v7 = .int .i64 x7_1 ∧ Aside0 (checksum_direct_1.l0 kq x3_1 x7_1 = some r) ∧ Aside0 (kq ≤ k) ∧ Drawn0 w w')
 case atStart => exact ⟨(IntKind.u16.wrap ((IntKind.u16.wrap (a0)) * 256)), (0), (by first | rfl | (simp; done) | (simp [*]; done)), (by first | rfl | (simp; done) | (simp [*]; done)), H', ⟨Nat.le_refl _⟩, by repeat (first | exact Drawn0.refl _ | apply Drawn0.step)⟩
 case round =>
  clear H'
  obtain ⟨x3_1, x7_1, rfl, rfl, HA, HK1, ⟨m1, rfl⟩⟩ := hrel
  cases gk with
  | zero => exact absurd HA.out (by simp [checksum_direct_1.l0])
  | succ k1 =>
   have H := HA.out
   clear HA
   simp only [checksum_direct_1.l0] at H
   by_cases c2 : x7_1 < 8
   · rw [if_pos c2] at H
     have c2b0 : decide (x7_1 < 8) = true := decide_eq_true c2
     clear c2
     by_cases c3 : (x3_1 / 32768) = 1
     · rw [if_pos c3] at H
       have c3b0 : ((x3_1 / 32768) == 1) = true := beq_iff_eq.mpr c3
       have c3b1 : ((x3_1 / 32768) != 1) = false := bne_eq_false_iff_eq.mpr c3
       clear c3
       have H' := Aside0.mk H
       clear H
       go_wp2
       go_roundg k1
       case measure => have := HK1.out; omega
       case rel => exact ⟨(Go.bits .xor .u16 (IntKind.u16.wrap (x3_1 * 2)) 4129), (wrap64 (x7_1 + 1)), (by first | rfl | (simp; done) | (simp [*]; done)), (by first | rfl | (simp; done) | (simp [*]; done)), H', ⟨by have := HK1.out; omega⟩, by repeat (first | exact Drawn0.refl _ | apply Drawn0.step)⟩
     · rw [if_neg c3] at H
       have c3b0 : ((x3_1 / 32768) == 1) = false := beq_eq_false_iff_ne.mpr c3
       have c3b1 : ((x3_1 / 32768) != 1) = true := bne_iff_ne.mpr c3
       have H' := Aside0.mk H
       clear H
       go_wp2
       go_roundg k1
       case measure => have := HK1.out; omega
       case rel => exact ⟨(IntKind.u16.wrap (x3_1 * 2)), (wrap64 (x7_1 + 1)), (by first | rfl | (simp; done) | (simp [*]; done)), (by first | rfl | (simp; done) | (simp [*]; done)), H', ⟨by have := HK1.out; omega⟩, by repeat (first | exact Drawn0.refl _ | apply Drawn0.step)⟩
   · rw [if_neg c2] at H
     have c2b0 : decide (x7_1 < 8) = false := decide_eq_false c2
     clear c2
     obtain rfl := Option.some.inj H
     go_wp2
     go_ret
     exact ⟨by first | rfl | (simp; done) | (simp [*]; done), by repeat (first | exact Drawn0.refl _ | apply Drawn0.step)⟩
end Go.Proofs.Ytpmkibggmkibeaa.G
namespace Go.Proofs.Ytpmkibggmkibeaa.G.Crc
def stp (x : BitVec 16) : BitVec 16 := if x.msb = true then (x <<< 1) ^^^ 0x1021#16 else x <<< 1
def st8 (x : BitVec 16) : BitVec 16 := stp (stp (stp (stp (stp (stp (stp (stp x)))))))
theorem stp_xor (x y : BitVec 16) : stp (x ^^^ y) = stp x ^^^ stp y := by
 unfold stp
 rw [BitVec.msb_xor, BitVec.shiftLeft_xor_distrib]
 cases hx : x.msb <;> cases hy : y.msb
 · simp
 · simp [BitVec.xor_assoc]
 · simp only [Bool.bne_false, if_true, Bool.false_eq_true, if_false]
   ac_rfl
 · simp only [bne_self_eq_false, Bool.false_eq_true, if_false, if_true]
   rw [show (x <<< 1 ^^^ 0x1021#16) ^^^ (y <<< 1 ^^^ 0x1021#16) = (x <<< 1 ^^^ y <<< 1) ^^^ (0x1021#16 ^^^ 0x1021#16) by ac_rfl]
   simp
theorem st8_xor (x y : BitVec 16) : st8 (x ^^^ y) = st8 x ^^^ st8 y := by simp only [st8, stp_xor]
theorem stp_zero : stp 0#16 = 0#16 := by decide
theorem st8_zero : st8 0#16 = 0#16 := by decide
theorem st8_lo : ∀ b : Fin 256, st8 (BitVec.ofNat 16 b.val) = BitVec.ofNat 16 (b.val * 256) := by decide +kernel
def tab (b : Nat) : BitVec 16 := st8 (BitVec.ofNat 16 (b * 256))
def one (c : BitVec 16) (b : BitVec 8) : BitVec 16 := (c <<< 8) ^^^ tab ((c >>> 8).setWidth 8 ^^^ b).toNat
theorem of_mul (x : BitVec 8) : BitVec.ofNat 16 (x.toNat * 256) = x.setWidth 16 <<< 8 := by
 apply BitVec.eq_of_toNat_eq
 have := x.isLt
 simp [BitVec.toNat_shiftLeft, Nat.shiftLeft_eq]
theorem of_mod (c : BitVec 16) : BitVec.ofNat 16 (c.toNat % 256) = (c.setWidth 8).setWidth 16 := by
 apply BitVec.eq_of_toNat_eq
 simp
theorem split (c : BitVec 16) (b : BitVec 8) : c ^^^ (b.setWidth 16 <<< 8) = (((c >>> 8).setWidth 8 ^^^ b).setWidth 16 <<< 8) ^^^ (c.setWidth 8).setWidth 16 := by
 apply BitVec.eq_of_getLsbD_eq
 intro i hi
 simp only [BitVec.getLsbD_xor, BitVec.getLsbD_shiftLeft, BitVec.getLsbD_setWidth, BitVec.getLsbD_ushiftRight]
 by_cases h8 : i < 8
 · simp [h8, hi]
 · have : i - 8 < 8 := by omega
   have h1 : 8 + (i - 8) = i := by omega
   have h2 : i - 8 < 16 := by omega
   simp [h8, hi, this, h1, h2]
theorem lo_shift (c : BitVec 16) : BitVec.ofNat 16 (c.toNat % 256 * 256) = c <<< 8 := by
 apply BitVec.eq_of_toNat_eq
 simp [BitVec.toNat_shiftLeft, Nat.shiftLeft_eq]
 omega
theorem one_eq (c : BitVec 16) (b : BitVec 8) : one c b = st8 (c ^^^ (b.setWidth 16 <<< 8)) := by
 have h8 : st8 (BitVec.ofNat 16 (c.toNat % 256)) = BitVec.ofNat 16 (c.toNat % 256 * 256) := st8_lo ⟨c.toNat % 256, Nat.mod_lt _ (by decide)⟩
 rw [lo_shift, of_mod] at h8
 rw [split, st8_xor, h8]
 unfold one tab
 rw [of_mul, BitVec.xor_comm]
def oneS (c : BitVec 16) (b : BitVec 8) : BitVec 16 := st8 (c ^^^ (b.setWidth 16 <<< 8 : BitVec 16))
def ext (c : BitVec 16) (l : List (BitVec 8)) : BitVec 16 := l.foldl oneS c
theorem stp_inj0 {x : BitVec 16} (h : stp x = 0#16) : x = 0#16 := by
 unfold stp at h
 split at h
 · exfalso
   have h0 := congrArg (fun y => y.getLsbD 0) h
   simp at h0
 · rename_i hm
   apply BitVec.eq_of_getLsbD_eq
   intro i hi
   by_cases h15 : i = 15
   · subst h15
     simpa [BitVec.msb_eq_getLsbD_last] using hm
   · have h0 := congrArg (fun y => y.getLsbD (i + 1)) h
     simp only [BitVec.getLsbD_shiftLeft] at h0
     have h2 : i + 1 < 16 := by omega
     simpa [h2] using h0
theorem st8_inj0 {x : BitVec 16} (h : st8 x = 0#16) : x = 0#16 := stp_inj0 (stp_inj0 (stp_inj0 (stp_inj0 (stp_inj0 (stp_inj0 (stp_inj0 (stp_inj0 h)))))))
theorem xor_zero_eq {x y : BitVec 16} (h : x ^^^ y = 0#16) : x = y := by
 have := congrArg (· ^^^ y) h
 simpa [BitVec.xor_assoc] using this
theorem st8_inj {x y : BitVec 16} (h : st8 x = st8 y) : x = y := by
 apply xor_zero_eq
 apply st8_inj0
 rw [st8_xor, h, BitVec.xor_self]
theorem ext_inj (l : List (BitVec 8)) : ∀ x y : BitVec 16, ext x l = ext y l → x = y := by
 induction l with
 | nil => intro x y h; exact h
 | cons b l ih =>
  intro x y h
  have := st8_inj (ih _ _ h)
  have h2 := congrArg (· ^^^ (b.setWidth 16 <<< 8 : BitVec 16)) this
  simpa [BitVec.xor_assoc] using h2
theorem tab_lo : ∀ b : Fin 256, (tab b.val).toNat % 256 = 0 → b.val = 0 := by decide +kernel
theorem oneS_lo {c : BitVec 16} {a b : BitVec 8} (h : (oneS c a).toNat % 256 = (oneS c b).toNat % 256) : a = b := by
 have h1 : oneS c a = oneS c b ^^^ tab (a ^^^ b).toNat := by
  unfold oneS tab
  rw [← st8_xor, of_mul]
  congr 1
  rw [BitVec.setWidth_xor, BitVec.shiftLeft_xor_distrib]
  rw [show c ^^^ b.setWidth 16 <<< 8 ^^^ (a.setWidth 16 <<< 8 ^^^ b.setWidth 16 <<< 8) = (c ^^^ a.setWidth 16 <<< 8) ^^^ (b.setWidth 16 <<< 8 ^^^ b.setWidth 16 <<< 8) by ac_rfl]
  simp
 have h2 : ((oneS c a).setWidth 8) = ((oneS c b).setWidth 8) := by
  apply BitVec.eq_of_toNat_eq
  simpa using h
 rw [h1, BitVec.setWidth_xor] at h2
 have h3 : (tab (a ^^^ b).toNat).setWidth 8 = 0#8 := by
  have := congrArg ((oneS c b).setWidth 8 ^^^ ·) h2
  simpa [← BitVec.xor_assoc] using this
 have h4 : (tab (a ^^^ b).toNat).toNat % 256 = 0 := by
  have := congrArg BitVec.toNat h3
  simpa using this
 have h5 := tab_lo ⟨(a ^^^ b).toNat, (a ^^^ b).isLt⟩ h4
 have h6 : a ^^^ b = 0#8 := BitVec.eq_of_toNat_eq h5
 have := congrArg (· ^^^ b) h6
 simpa [BitVec.xor_assoc] using this
theorem oneS_inj {c : BitVec 16} {a b : BitVec 8} (h : oneS c a = oneS c b) : a = b := oneS_lo (by rw [h])
theorem two_inj {c : BitVec 16} {a b a' b' : BitVec 8} (h : oneS (oneS c a) b = oneS (oneS c a') b') : a = a' ∧ b = b' := by
 have h1 := st8_inj h
 have h2 : (oneS c a).toNat % 256 = (oneS c a').toNat % 256 := by
  have := congrArg (fun x => (x.setWidth 8).toNat) h1
  simpa [BitVec.toNat_shiftLeft, Nat.shiftLeft_eq] using this
 have h3 := oneS_lo h2
 subst h3
 exact ⟨rfl, oneS_inj h⟩
theorem ext_app (c : BitVec 16) (l m : List (BitVec 8)) : ext c (l ++ m) = ext (ext c l) m := by simp [ext, List.foldl_append]
end Go.Proofs.Ytpmkibggmkibeaa.G.Crc
namespace Go.Proofs.Ytpmkibggmkibeaa.G
open Go.RowKit Go.Proofs.YtpmkibggmkibeaaW.PrintWords Go.Proofs.YtpmkibggmkibeaaW.PrintLast Go.Proofs.YtpmkibggmkibeaaW.PrintMore
set_option linter.unusedVariables false
def tabZ (j : Nat) : Int := ((Crc.tab j).toNat : Int)
theorem dir1_all : ∀ b : Fin 256, checksum_direct_1.f 10 (b.val : Int) = some (tabZ b.val) := by decide +kernel
def tb : Nat → List Int
 | 0 => List.replicate 256 0
 | k + 1 => (tb k).set k (tabZ k)
theorem tb_length (k : Nat) : (tb k).length = 256 := by
 induction k with
 | zero => exact List.length_replicate
 | succ k ih => simp [tb, ih]
def tArr (l : List Int) : Array Value := (nums .u16 l).toArray
theorem tArr_set (l : List Int) (i : Nat) (x : Int) : (tArr l).setIfInBounds i (.int .u16 x) = tArr (l.set i x) := by
 simp [tArr, nums, List.map_set]
theorem tArr_zero : Try.zeroCells100 = tArr (tb 0) := by kernel_rfl
theorem tArr_get (k j : Nat) (h : j < 256) : (tArr (tb k))[j]? = some (.int .u16 ((tb k).getD j 0)) := by
 have : j < (tb k).length := by rw [tb_length]; exact h
 simp [tArr, nums, List.getElem?_eq_getElem this, List.getD_eq_getElem?_getD]
theorem tArr_size (k : Nat) : (tArr (tb k)).size = 256 := by simp [tArr, nums, tb_length]
theorem tArr_info (k : Nat) : (Try.prog.info? 100).map (·.size) = some (tArr (tb k)).size := by
 rw [tArr_size]
 kernel_rfl
theorem tArr_one (k : Nat) : (tArr (tb k)).all (·.oneCell') = true := by
 rw [Array.all_eq_true_iff_forall_mem]
 intro x hx
 simp only [tArr, nums, List.mem_toArray, List.mem_map] at hx
 obtain ⟨y, -, rfl⟩ := hx
 rfl
theorem tb_get (k : Nat) : ∀ j, j < 256 → j < k → k ≤ 256 → (tb k).getD j 0 = tabZ j := by
 induction k with
 | zero => intro j _ h; omega
 | succ k ih =>
  intro j h1 h2 h3
  simp only [tb]
  have hl := tb_length k
  by_cases e : j = k
  · subst e
    simp [List.getD_eq_getElem?_getD, hl, h1]
  · have := ih j h1 (by omega) (by omega)
    simpa [List.getD_eq_getElem?_getD, List.getElem?_set_ne (Ne.symm e)] using this
theorem tArr_at (j : Nat) (h : j < 256) : (tArr (tb 256))[j]? = some (.int .u16 (tabZ j)) := by
 rw [tArr_get 256 j h, tb_get 256 j h h (by omega)]
set_option maxHeartbeats 400000 in
set_option maxRecDepth 100000 in
theorem table_any (w : World) :
 Calls Try.prog 78 #[.func (.func 79) #[] #[]] w fun e w' => e = .returned (.agg (tArr (tb 256))) ∧ Below w.heap.size w w' := by
 have hu := Try.underlying100
 obtain ⟨A, hA⟩ : ∃ A, tArr (tb 256) = A := ⟨_, rfl⟩
 have hi : (Try.prog.info? 100).map (·.size) = some A.size := hA ▸ tArr_info 256
 have hs : (tArr (tb 0)).size = A.size := by rw [← hA, tArr_size, tArr_size]
 have h1 : A.all (·.oneCell') = true := hA ▸ tArr_one 256
 have HI := Aside0.mk hi
 have HS := Aside0.mk hs
 have HO := Aside0.mk h1
 have HA := Aside0.mk hA
 rw [hA]
 clear hA hi hs h1
 go_enter Try.func78, Try.ntmps78
 go_wp2_with (fail)
 rw [tArr_zero]
 go_loopg [5] 256 (fun gk v5 wr => ∃ k : Nat, k ≤ 256 ∧ 256 - k ≤ gk ∧ v5 = .int .i64 k ∧ Aside0 (wr.heap[w.heap.size]? = some (.cells (tArr (tb 0)) 100 (0, 0))) ∧ Aside0 (wr.heap[w.heap.size + 1]? = some (.cells (tArr (tb k)) 100 (0, 0))) ∧ Aside0 (Below w.heap.size w wr))
 case atStart =>
  obtain ⟨h0, h1, h2⟩ := two_new (rfl : (w.alloc (.cells (tArr (tb 0)) 100 (0, 0))).alloc (.cells (tArr (tb 0)) 100 (0, 0)) = _)
  exact ⟨0, by omega, by omega, rfl, ⟨h0⟩, ⟨h1⟩, ⟨h2⟩⟩
 case round =>
  obtain ⟨k, hk, hg, rfl, H0, HH, HB⟩ := hrel
  by_cases hlt : k < 256
  · have hltz : (k : Int) < 256 := by omega
    have hk0 : 0 ≤ (k : Int) := by omega
    have HC := Aside0.mk (fun W => checksum_direct_1.calls 10 (k : Int) (tabZ k) W (dir1_all ⟨k, hlt⟩))
    go_wp2_with (fail)
    refine (HC.out wr).mono ?_
    rintro e w2 ⟨rfl, hd⟩
    have hh2 := blk_below HH.out hd.below
    have hc := (blk_cell hh2 k).trans (tArr_get k k hlt)
    have hf := blk_frozen hh2 k
    have HB2 := Aside0.mk (below_step HB.out hd.below)
    have HH2 := Aside0.mk hh2
    have H02 := Aside0.mk (blk_below H0.out hd.below)
    clear hd hh2
    go_wp2_with (fail)
    go_roundg (256 - (k + 1))
    case measure => omega
    case rel => exact ⟨k + 1, by omega, by omega, by go_num, ⟨blk_far H02.out (by simp) _⟩, ⟨blk_put HH2.out k _ (tArr_set _ _ _)⟩, ⟨HB2.out.setCell (by simp) _⟩⟩
  · obtain rfl : k = 256 := by omega
    clear hlt hg
    have hh := HH.out
    rw [HA.out] at hh
    have HF := Aside0.mk (show (wr.setRow w.heap.size A).heap[w.heap.size]? = some (.cells A 100 (0, 0)) from setRow_heap _ _ _ _ _ _ H0.out)
    have HH2 := Aside0.mk hh
    clear hh HH HA
    rw [show ((256 : Nat) : Int) = (256 : Int) from rfl]
    clear hk
    go_wp2_with (first | (refine wpList_load_row rfl 100 (.tmp 3) rfl (w.heap.size + 1) rfl _ _ (0, 0) _ HH2.out hu rfl HI.out ?_) | (refine wpList_store_row rfl 100 (.tmp 2) (.tmp 15) rfl w.heap.size A rfl rfl _ _ H0.out HI.out HS.out HO.out ?_))
    refine bodyPost_ret (results_cell_row rfl _ _ w.heap.size 100 A (0, 0) _ rfl HF.out hu rfl HI.out) rfl ?_
    exact ⟨rfl, below_setRow HB.out (Nat.le_refl _) _⟩
set_option maxHeartbeats 400000 in
set_option maxRecDepth 100000 in
theorem direct_any (w : World) :
 Calls Try.prog 76 #[] w fun e w' => e = .returned (.agg (tArr (tb 256))) ∧ Below w.heap.size w w' := by
 have hu := Try.underlying100
 obtain ⟨A, hA⟩ : ∃ A, tArr (tb 256) = A := ⟨_, rfl⟩
 have hi : (Try.prog.info? 100).map (·.size) = some A.size := hA ▸ tArr_info 256
 have hs : (tArr (tb 0)).size = A.size := by rw [← hA, tArr_size, tArr_size]
 have h1 : A.all (·.oneCell') = true := hA ▸ tArr_one 256
 have HC := fun W => Aside0.mk (table_any W)
 rw [hA] at HC ⊢
 have HI := Aside0.mk hi
 have HS := Aside0.mk hs
 have HO := Aside0.mk h1
 clear hA hi hs h1
 go_enter Try.func76, Try.ntmps76
 go_wp2_with (fail)
 rw [tArr_zero]
 generalize hw0 : w.alloc _ = w0
 have HN := Aside0.mk (show w0.heap[w.heap.size]? = some (.cells (tArr (tb 0)) 100 (0, 0)) from hw0 ▸ blk_new w _)
 have HB := Aside0.mk (show Below w.heap.size w w0 from hw0 ▸ (Below.refl _ _).alloc (Nat.le_refl _) _)
 clear hw0
 refine (HC w0).out.mono ?_
 rintro e w1 ⟨rfl, hb⟩
 have HN1 := Aside0.mk (blk_below HN.out hb)
 have HB1 := Aside0.mk (below_step HB.out hb)
 have HF := Aside0.mk (show (w1.setRow w.heap.size A).heap[w.heap.size]? = some (.cells A 100 (0, 0)) from setRow_heap _ _ _ _ _ _ HN1.out)
 clear hb
 go_wp2_with (first | (refine wpList_store_row rfl 100 (.tmp 0) (.tmp 1) rfl w.heap.size A rfl rfl _ _ HN1.out HI.out HS.out HO.out ?_))
 refine bodyPost_ret (results_cell_row rfl _ _ w.heap.size 100 A (0, 0) _ rfl HF.out hu rfl HI.out) rfl ?_
 exact ⟨rfl, below_setRow HB1.out (Nat.le_refl _) _⟩
def regK (c : BitVec 16) (s : ByteArray) : Nat → BitVec 16
 | 0 => c
 | k + 1 => Crc.one (regK c s k) (BitVec.ofInt 8 (bt s (k : Int)))
def regZ (c : BitVec 16) (s : ByteArray) (k : Nat) : Int := ((regK c s k).toNat : Int)
def checksum_ExtendCRC16.f (a0 : Int) (a1 : ByteArray) : Option Int := if 0 ≤ a0 ∧ a0 < 65536 ∧ a1.size ≤ 140737488351232 then some (regZ (BitVec.ofInt 16 a0) a1 a1.size) else none
theorem lt8 (y : BitVec 8) : ((y.toNat : Nat) : Int) < 2 ^ 8 := by have := y.isLt; omega
theorem lt16 (y : BitVec 16) : ((y.toNat : Nat) : Int) < 65536 := by have := y.isLt; omega
theorem xor8 (R : BitVec 16) (b : Int) : Go.bits .xor .u8 ((R.toNat : Int) / 256) b = ((((R >>> 8).setWidth 8 ^^^ BitVec.ofInt 8 b).toNat : Nat) : Int) := by
 have e : BitVec.ofInt IntKind.u8.bits ((R.toNat : Int) / 256) = (R >>> 8).setWidth 8 := by
  show BitVec.ofInt 8 ((R.toNat : Int) / 256) = (R >>> 8).setWidth 8
  apply BitVec.eq_of_toNat_eq
  rw [BitVec.toNat_ofInt, BitVec.toNat_setWidth, BitVec.toNat_ushiftRight, Nat.shiftRight_eq_div_pow]
  omega
 simp only [Go.bits]
 rw [e]
 exact wraps_u8 _ (Int.natCast_nonneg _) (lt8 _)
theorem wraps_u16 (n : Int) (h0 : 0 ≤ n) (h1 : n < 65536) : IntKind.u16.wrap n = n := by
 simp [IntKind.wrap, IntKind.bits, IntKind.signed]
 omega
theorem wrap16 (n : Int) : IntKind.u16.wrap n = n % 65536 := by
 simp [IntKind.wrap, IntKind.bits, IntKind.signed]
theorem xor16 (R T : BitVec 16) : Go.bits .xor .u16 (IntKind.u16.wrap ((R.toNat : Int) * 256)) (T.toNat : Int) = (((R <<< 8) ^^^ T).toNat : Int) := by
 have e : BitVec.ofInt IntKind.u16.bits (IntKind.u16.wrap ((R.toNat : Int) * 256)) = R <<< 8 := by
  show BitVec.ofInt 16 _ = _
  rw [wrap16]
  apply BitVec.eq_of_toNat_eq
  rw [BitVec.toNat_ofInt, BitVec.toNat_shiftLeft, Nat.shiftLeft_eq]
  omega
 have e2 : BitVec.ofInt IntKind.u16.bits (T.toNat : Int) = T := by
  show BitVec.ofInt 16 _ = _
  simp
 simp only [Go.bits]
 rw [e, e2]
 exact wraps_u16 _ (Int.natCast_nonneg _) (lt16 _)
theorem regZ_succ (c : BitVec 16) (s : ByteArray) (k : Nat) : Go.bits .xor .u16 (IntKind.u16.wrap (regZ c s k * 256)) (tabZ (Go.bits .xor .u8 (regZ c s k / 256) (bt s (k : Int))).toNat) = regZ c s (k + 1) := by
 unfold regZ tabZ
 rw [xor8, xor16]
 rfl
set_option maxHeartbeats 400000 in
set_option maxRecDepth 100000 in
theorem checksum_ExtendCRC16.calls (a0 : Int) (a1 : ByteArray) (r : Int) (w : World) (h : checksum_ExtendCRC16.f a0 a1 = some r) :
 Calls Try.prog 73 #[.int .u16 a0, .string a1] w fun e w' => e = .returned (.int .u16 r) ∧ Below w.heap.size w w' := by
 have hu := Try.underlying100
 obtain ⟨A, hA⟩ : ∃ A, tArr (tb 256) = A := ⟨_, rfl⟩
 have hi : (Try.prog.info? 100).map (·.size) = some A.size := hA ▸ tArr_info 256
 have hs : (tArr (tb 0)).size = A.size := by rw [← hA, tArr_size, tArr_size]
 have h1 : A.all (·.oneCell') = true := hA ▸ tArr_one 256
 have hat : ∀ j : Nat, j < 256 → A[j]? = some (.int .u16 (tabZ j)) := fun j hj => hA ▸ tArr_at j hj
 have HAT := Aside0.mk hat
 have HI := Aside0.mk hi
 have HS := Aside0.mk hs
 have HO := Aside0.mk h1
 have HC := fun W => Aside0.mk (direct_any W)
 rw [hA] at HC
 clear hA hi hs h1 hat
 unfold checksum_ExtendCRC16.f at h
 split at h
 case isFalse => cases h
 rename_i hr
 obtain ⟨hr0, hr1, hsz⟩ := hr
 obtain ⟨c, hc⟩ : ∃ c : BitVec 16, c = BitVec.ofInt 16 a0 := ⟨_, rfl⟩
 have hc0 : a0 = regZ c a1 0 := by
  rw [hc]; simp [regZ, regK]; omega
 rw [← hc] at h
 have HR := Aside0.mk (Option.some.inj h)
 have HC0 := Aside0.mk hc0
 clear h hc hc0
 go_enter Try.func73, Try.ntmps73
 go_wp2_with (fail)
 refine (HC _).out.mono ?_
 rintro e w1 ⟨rfl, hb⟩
 have HN := Aside0.mk (show (w1.alloc (.cells Try.zeroCells100 100)).heap[w1.heap.size]? = some (.cells Try.zeroCells100 100 (0, 0)) from blk_new w1 _)
 have HZ := Aside0.mk (show Try.zeroCells100.size = A.size by rw [tArr_zero]; exact HS.out)
 have HB := Aside0.mk (below_alloc hb (.cells Try.zeroCells100 100))
 have hge := hb.size
 clear hb
 go_wp2_with (first | (refine wpList_store_row rfl 100 (.tmp 5) (.tmp 7) rfl w1.heap.size A rfl rfl _ _ HN.out HI.out HZ.out HO.out ?_))
 have HF := Aside0.mk (setRow_heap _ _ _ A _ _ HN.out)
 have HB2 := Aside0.mk (below_setRow HB.out hge A)
 generalize (w1.alloc (.cells Try.zeroCells100 100)).setRow w1.heap.size A = w2 at HF HB2 ⊢
 clear HN HZ HB
 generalize w1.heap.size = g at HF hge ⊢
 rw [HC0.out]
 go_loopg [0, 10] a1.size (fun gk v0 v10 wr => ∃ k : Nat, k ≤ a1.size ∧ a1.size - k ≤ gk ∧ v10 = .int .i64 k ∧ v0 = .int .u16 (regZ c a1 k) ∧ Aside0 (wr.heap[g]? = some (.cells A 100 (0, 0))) ∧ Aside0 (Below w.heap.size w wr))
 case atStart => exact ⟨0, by omega, by omega, rfl, rfl, HF, HB2⟩
 case round =>
  obtain ⟨k, hk, hg, rfl, rfl, HH, HBB⟩ := hrel
  by_cases hlt : k < a1.size
  · have hltz : (k : Int) < (a1.size : Int) := by omega
    have hk0 : 0 ≤ (k : Int) := by omega
    obtain ⟨x, hx⟩ : ∃ x, regZ c a1 k = x := ⟨_, rfl⟩
    have hx0 : 0 ≤ x := by rw [← hx]; exact Int.natCast_nonneg _
    have hx1 : x < 65536 := by rw [← hx]; have := (regK c a1 k).isLt; unfold regZ; omega
    rw [hx]
    have HX := Aside0.mk hx
    clear hx
    have hbt := bt_at a1 (k : Int) (by rw [Int.toNat_natCast]; exact hlt)
    obtain ⟨j, hj⟩ : ∃ j, Go.bits .xor .u8 (x / 256) (bt a1 (k : Int)) = j := ⟨_, rfl⟩
    have hjr : 0 ≤ j ∧ j < 256 := by
     rw [← hj, ← HX.out]
     unfold regZ
     rw [xor8]
     have := ((regK c a1 k >>> 8).setWidth 8 ^^^ BitVec.ofInt 8 (bt a1 (k : Int))).isLt
     omega
    have hS := regZ_succ c a1 k
    rw [HX.out, hj] at hS
    have HSS := Aside0.mk hS
    rw [← hbt] at hj
    simp only [Int.toNat_natCast] at hj
    have hj0 := hjr.1
    have hj1 := hjr.2
    have hc := (blk_cell HH.out j.toNat).trans (HAT.out j.toNat (by omega))
    clear hS hbt hjr HX
    go_wp2_with (fail)
    go_roundg (a1.size - (k + 1))
    case measure => omega
    case rel => exact ⟨k + 1, by omega, by omega, by go_num, by rw [HSS.out], HH, HBB⟩
  · have hltz : ¬ (k : Int) < (a1.size : Int) := by omega
    have HK := Aside0.mk (show k = a1.size by omega)
    go_wp2_with (fail)
    go_ret
    exact ⟨by rw [HK.out, HR.out]; rfl, HBB.out⟩
end Go.Proofs.Ytpmkibggmkibeaa.G
namespace Go.Proofs.Ytpmkibggmkibeaa.G
open Go.RowKit Go.Proofs.YtpmkibggmkibeaaW.PrintWords Go.Proofs.YtpmkibggmkibeaaW.PrintLast Go.Proofs.YtpmkibggmkibeaaW.PrintMore
attribute [local go_sem] max2_int min2_int max_two min_two max_three min_three max_four min_four   -- for this text's walks alone
set_option linter.unusedVariables false
set_option linter.unusedSimpArgs false
mutual
def masterdiscref02_ExtendCRC16.l0 : Nat → Int → ByteArray → Int → Option (Int)
 | 0, _, _, _ => none
 | k + 1, x0, x1, x5 => if x5 < (x1.size : Int) then (if 0 ≤ x5 then (masterdiscref02_ExtendCRC16.l1 k (Go.bits .xor .u16 x0 (IntKind.u16.wrap ((IntKind.u16.wrap (bt x1 x5)) * 256))) x1 x5 0) else (none)) else (some x0)
def masterdiscref02_ExtendCRC16.l1 : Nat → Int → ByteArray → Int → Int → Option (Int)
 | 0, _, _, _, _ => none
 | k + 1, x0, x1, x5, x6 => if x6 < 8 then (if (IntKind.u16.wrap (Int.tdiv x0 32768)) = 1 then (masterdiscref02_ExtendCRC16.l1 k (Go.bits .xor .u16 (IntKind.u16.wrap ((Int.tmod x0 32768) * 2)) 4129) x1 x5 (wrap64 (x6 + 1))) else (masterdiscref02_ExtendCRC16.l1 k (IntKind.u16.wrap ((Int.tmod x0 32768) * 2)) x1 x5 (wrap64 (x6 + 1)))) else (masterdiscref02_ExtendCRC16.l0 k x0 x1 (wrap64 (x5 + 1)))
end
def masterdiscref02_ExtendCRC16.f (k : Nat) (a0 : Int) (a1 : ByteArray) : Option (Int) := masterdiscref02_ExtendCRC16.l0 k a0 a1 0
theorem masterdiscref02_ExtendCRC16.mono_l : ∀ k, (∀ y0 y1 y2, LeO (masterdiscref02_ExtendCRC16.l0 k y0 y1 y2) (masterdiscref02_ExtendCRC16.l0 (k + 1) y0 y1 y2)) ∧ (∀ y0 y1 y2 y3, LeO (masterdiscref02_ExtendCRC16.l1 k y0 y1 y2 y3) (masterdiscref02_ExtendCRC16.l1 (k + 1) y0 y1 y2 y3))
 | 0 => ⟨fun _ _ _ r h => by simp [masterdiscref02_ExtendCRC16.l0] at h, fun _ _ _ _ r h => by simp [masterdiscref02_ExtendCRC16.l1] at h⟩
 | k + 1 => by
  obtain ⟨ih0, ih1⟩ := masterdiscref02_ExtendCRC16.mono_l k
  refine ⟨?_, ?_⟩
  · intro y0 y1 y2
    unfold masterdiscref02_ExtendCRC16.l0
    repeat' first
    | (with_reducible exact ih0 _ _ _)
    | (with_reducible exact ih1 _ _ _ _)
    | (with_reducible exact LeO.refl _)
    | (with_reducible exact LeO.none _)
    | (with_reducible refine LeO.ite ?_ ?_)
    | (with_reducible refine LeO.bind ?_ (fun _ => ?_))
    | exact ih0 _ _ _
    | exact ih1 _ _ _ _
    | exact LeO.none _
    | refine LeO.ite ?_ ?_
    | refine LeO.bind ?_ (fun _ => ?_)
  · intro y0 y1 y2 y3
    unfold masterdiscref02_ExtendCRC16.l1
    repeat' first
    | (with_reducible exact ih0 _ _ _)
    | (with_reducible exact ih1 _ _ _ _)
    | (with_reducible exact LeO.refl _)
    | (with_reducible exact LeO.none _)
    | (with_reducible refine LeO.ite ?_ ?_)
    | (with_reducible refine LeO.bind ?_ (fun _ => ?_))
    | exact ih0 _ _ _
    | exact ih1 _ _ _ _
    | exact LeO.none _
    | refine LeO.ite ?_ ?_
    | refine LeO.bind ?_ (fun _ => ?_)
theorem masterdiscref02_ExtendCRC16.mono : ∀ a0 a1 k, LeO (masterdiscref02_ExtendCRC16.f k a0 a1) (masterdiscref02_ExtendCRC16.f (k + 1) a0 a1) := by
 intro a0 a1 k
 obtain ⟨ih0, ih1⟩ := masterdiscref02_ExtendCRC16.mono_l k
 unfold masterdiscref02_ExtendCRC16.f
 repeat' first
  | (with_reducible exact ih0 _ _ _)
  | (with_reducible exact ih1 _ _ _ _)
  | (with_reducible exact LeO.refl _)
  | (with_reducible exact LeO.none _)
  | (with_reducible refine LeO.ite ?_ ?_)
  | (with_reducible refine LeO.bind ?_ (fun _ => ?_))
  | exact ih0 _ _ _
  | exact ih1 _ _ _ _
  | exact LeO.none _
  | refine LeO.ite ?_ ?_
  | refine LeO.bind ?_ (fun _ => ?_)
set_option maxHeartbeats 8000000 in
set_option maxRecDepth 100000 in
theorem masterdiscref02_ExtendCRC16.calls (k : Nat) (a0 : Int) (a1 : ByteArray) (r : Int) (w : World) (h : masterdiscref02_ExtendCRC16.f k a0 a1 = some r) :
 Calls Try.prog 74 #[.int .u16 a0, .string a1] w fun e w' => e = .returned (.int .u16 r) ∧ Drawn0 w w' := by
 have H : (masterdiscref02_ExtendCRC16.l0 k a0 a1 0) = some r := h
 clear h
 have H' := Aside0.mk H
 clear H
 go_enter Try.func74, Try.ntmps74
 go_wp2
 go_loopg [0, 5] k (fun kq v0 v5 w' => ∃ (x0_1 : Int) (x5_1 : Int), v0 = .int .u16 x0_1 ∧ v5 = .int .i64 x5_1 ∧ Aside0 (masterdiscref02_ExtendCRC16.l0 kq x0_1 a1 x5_1 = some r) ∧ Aside0 (kq ≤ k) ∧ Drawn0 w w')
 case atStart => exact ⟨(a0), (0), (by first | rfl | (simp; done) | (simp [*]; done)), (by first | rfl | (simp; done) | (simp [*]; done)), H', ⟨Nat.le_refl _⟩, by repeat (first | exact Drawn0.refl _ | apply Drawn0.step)⟩
 case round =>
  clear H'
  try clear p2
  obtain ⟨x0_1, x5_1, rfl, rfl, HA, HK1, ⟨m1, rfl⟩⟩ := hrel
  cases gk with
  | zero => exact absurd HA.out (by simp [masterdiscref02_ExtendCRC16.l0])
  | succ k1 =>
   have H := HA.out
   clear HA
   simp only [masterdiscref02_ExtendCRC16.l0] at H
   by_cases c3 : x5_1 < (a1.size : Int)
   · rw [if_pos c3] at H
     have c3b0 : decide (x5_1 < (a1.size : Int)) = true := decide_eq_true c3
     clear c3
     by_cases c4 : 0 ≤ x5_1
     · rw [if_pos c4] at H
       have c4b0 : decide (0 ≤ x5_1) = true := decide_eq_true c4
       clear c4
       have H' := Aside0.mk H
       clear H
       have p5 : 0 ≤ (x5_1 : Int) := of_decide_eq_true (by first | (with_reducible assumption) | assumption)
       have q5 : x5_1 < (a1.size : Int) := of_decide_eq_true (by first | (with_reducible assumption) | assumption)
       have hx5 := bt_at a1 x5_1
       replace p5 := eq_true p5
       replace q5 := eq_true q5
       go_wp2
       go_loopg [0, 6] k1 (fun kq v0 v6 w' => ∃ (x0_2 : Int) (x6_2 : Int), v0 = .int .u16 x0_2 ∧ v6 = .int .i64 x6_2 ∧ Aside0 (masterdiscref02_ExtendCRC16.l1 kq x0_2 a1 x5_1 x6_2 = some r) ∧ Aside0 (kq ≤ k1) ∧ Drawn0 w w')
       case atStart => exact ⟨(Go.bits .xor .u16 x0_1 (IntKind.u16.wrap ((IntKind.u16.wrap (bt a1 x5_1)) * 256))), (0), (by first | rfl | (simp; done) | (simp [*]; done)), (by first | rfl | (simp; done) | (simp [*]; done)), H', ⟨Nat.le_refl _⟩, by repeat (first | exact Drawn0.refl _ | apply Drawn0.step)⟩
       case round =>
        clear H'
        try clear p2
        try clear c3
        try clear c3b0
        try clear c4
        try clear c4b0
        try clear p5
        try clear q5
        try clear hx5
        try clear p2
        try clear p5
        try clear q5
        obtain ⟨x0_2, x6_2, rfl, rfl, HA, HK2, ⟨m2, rfl⟩⟩ := hrel
        cases gk with
        | zero => exact absurd HA.out (by simp [masterdiscref02_ExtendCRC16.l1])
        | succ k2 =>
         have H := HA.out
         clear HA
         simp only [masterdiscref02_ExtendCRC16.l1] at H
         by_cases c6 : x6_2 < 8
         · rw [if_pos c6] at H
           have c6b0 : decide (x6_2 < 8) = true := decide_eq_true c6
           clear c6
           by_cases c7 : (IntKind.u16.wrap (Int.tdiv x0_2 32768)) = 1
           · rw [if_pos c7] at H
             have c7b0 : ((IntKind.u16.wrap (Int.tdiv x0_2 32768)) == 1) = true := beq_iff_eq.mpr c7
             have c7b1 : ((IntKind.u16.wrap (Int.tdiv x0_2 32768)) != 1) = false := bne_eq_false_iff_eq.mpr c7
             clear c7
             have H' := Aside0.mk H
             clear H
             go_wp2
             go_roundg k2
             case measure => have := HK1.out; have := HK2.out; omega
             case rel => exact ⟨(Go.bits .xor .u16 (IntKind.u16.wrap ((Int.tmod x0_2 32768) * 2)) 4129), (wrap64 (x6_2 + 1)), (by first | rfl | (simp; done) | (simp [*]; done)), (by first | rfl | (simp; done) | (simp [*]; done)), H', ⟨by have := HK1.out; have := HK2.out; omega⟩, by repeat (first | exact Drawn0.refl _ | apply Drawn0.step)⟩
           · rw [if_neg c7] at H
             have c7b0 : ((IntKind.u16.wrap (Int.tdiv x0_2 32768)) == 1) = false := beq_eq_false_iff_ne.mpr c7
             have c7b1 : ((IntKind.u16.wrap (Int.tdiv x0_2 32768)) != 1) = true := bne_iff_ne.mpr c7
             have H' := Aside0.mk H
             clear H
             go_wp2
             go_roundg k2
             case measure => have := HK1.out; have := HK2.out; omega
             case rel => exact ⟨(IntKind.u16.wrap ((Int.tmod x0_2 32768) * 2)), (wrap64 (x6_2 + 1)), (by first | rfl | (simp; done) | (simp [*]; done)), (by first | rfl | (simp; done) | (simp [*]; done)), H', ⟨by have := HK1.out; have := HK2.out; omega⟩, by repeat (first | exact Drawn0.refl _ | apply Drawn0.step)⟩
         · rw [if_neg c6] at H
           have c6b0 : decide (x6_2 < 8) = false := decide_eq_false c6
           clear c6
           have H' := Aside0.mk H
           clear H
           go_wp2
           go_roundg k2
           case measure => have := HK1.out; have := HK2.out; omega
           case rel => exact ⟨(x0_2), (wrap64 (x5_1 + 1)), (by first | rfl | (simp; done) | (simp [*]; done)), (by first | rfl | (simp; done) | (simp [*]; done)), H', ⟨by have := HK1.out; have := HK2.out; omega⟩, by repeat (first | exact Drawn0.refl _ | apply Drawn0.step)⟩
     · rw [if_neg c4] at H
       exact absurd H (by simp)
   · rw [if_neg c3] at H
     have c3b0 : decide (x5_1 < (a1.size : Int)) = false := decide_eq_false c3
     clear c3
     obtain rfl := Option.some.inj H
     go_wp2
     go_ret
     exact ⟨by first | rfl | (simp; done) | (simp [*]; done), by repeat (first | exact Drawn0.refl _ | apply Drawn0.step)⟩
end Go.Proofs.Ytpmkibggmkibeaa.G
namespace Go.Proofs.Ytpmkibggmkibeaa.G
open Go.RowKit Go.Proofs.YtpmkibggmkibeaaW.PrintWords Go.Proofs.YtpmkibggmkibeaaW.PrintLast Go.Proofs.YtpmkibggmkibeaaW.PrintMore
attribute [local go_sem] max2_int min2_int max_two min_two max_three min_three max_four min_four   -- for this text's walks alone
set_option linter.unusedVariables false
set_option linter.unusedSimpArgs false
def masterdiscref02_CRC16.f (k : Nat) (a0 : ByteArray) : Option (Int) := (masterdiscref02_ExtendCRC16.f k 0 a0).bind fun t403 => (some t403)
theorem masterdiscref02_CRC16.mono : ∀ a0 k, LeO (masterdiscref02_CRC16.f k a0) (masterdiscref02_CRC16.f (k + 1) a0) := by
 intro a0 k
 unfold masterdiscref02_CRC16.f
 repeat' first
  | (with_reducible exact masterdiscref02_ExtendCRC16.mono _ _ _)
  | (with_reducible exact LeO.refl _)
  | (with_reducible exact LeO.none _)
  | (with_reducible refine LeO.ite ?_ ?_)
  | (with_reducible refine LeO.bind ?_ (fun _ => ?_))
  | exact masterdiscref02_ExtendCRC16.mono _ _ _
  | exact LeO.none _
  | refine LeO.ite ?_ ?_
  | refine LeO.bind ?_ (fun _ => ?_)
set_option maxHeartbeats 8000000 in
set_option maxRecDepth 100000 in
theorem masterdiscref02_CRC16.calls (k : Nat) (a0 : ByteArray) (r : Int) (w : World) (h : masterdiscref02_CRC16.f k a0 = some r) :
 Calls Try.prog 67 #[.string a0] w fun e w' => e = .returned (.int .u16 r) ∧ Drawn0 w w' := by
 have H : ((masterdiscref02_ExtendCRC16.f k 0 a0).bind fun t403 => (some t403)) = some r := h
 clear h
 replace H := Option.bind_eq_some_iff.mp H
 obtain ⟨t403, A20, H⟩ := H
 replace H : (some t403) = some r := H
 have A2 := Aside0.mk A20
 clear A20
 obtain rfl := Option.some.inj H
 go_enter Try.func67, Try.ntmps67
 go_wp2_with (first | ((with_reducible refine gate_callee (f := 74) rfl ?_); refine goesL_ (some 4) rfl rfl Try.func74 (by kernel_rfl) rfl #[.int .u16 0, .string a0] rfl (by (try simp only [List.map_toArray, List.map_cons, List.map_nil]); first | done | rfl | (simp only [List.length_drop, List.length_take]; rfl)) ?_; (with_reducible refine (masterdiscref02_ExtendCRC16.calls k 0 a0 t403 _ A2.out).mono ?_); rintro e w' ⟨rfl, ⟨nd, rfl⟩⟩; refine ⟨_, rfl, ?_⟩))
 go_ret
 exact ⟨by first | rfl | (simp; done) | (simp [*]; done), by repeat (first | exact Drawn0.refl _ | apply Drawn0.step)⟩
end Go.Proofs.Ytpmkibggmkibeaa.G
namespace Go.Proofs.Ytpmkibggmkibeaa.G
open Go.RowKit Go.Proofs.YtpmkibggmkibeaaW.PrintWords Go.Proofs.YtpmkibggmkibeaaW.PrintLast Go.Proofs.YtpmkibggmkibeaaW.PrintMore
attribute [local go_sem] max2_int min2_int max_two min_two max_three min_three max_four min_four   -- for this text's walks alone
set_option linter.unusedVariables false
set_option linter.unusedSimpArgs false
def masterdiscref02_CRCBytes.f (a0 : Int) : Option (ByteArray) := some (strOfNums (([(IntKind.u16.wrap (Int.tdiv a0 256)) % 256, (Int.tmod a0 256) % 256] : List Int)))
set_option maxHeartbeats 8000000 in
set_option maxRecDepth 100000 in
theorem masterdiscref02_CRCBytes.calls (a0 : Int) (r : ByteArray) (w : World) (h : masterdiscref02_CRCBytes.f a0 = some r) :
 Calls Try.prog 66 #[.int .u16 a0] w fun e w' => e = .returned (.string r) ∧ Below w.heap.size w w' := by
 have HB := Aside0.mk (Below.refl w.heap.size w)
 have H : (some (strOfNums (([(IntKind.u16.wrap (Int.tdiv a0 256)) % 256, (Int.tmod a0 256) % 256] : List Int)))) = some r := h
 clear h
 obtain ⟨y400, hy400⟩ : ∃ y_ : List Int, y_ = (([(IntKind.u16.wrap (Int.tdiv a0 256)) % 256, (Int.tmod a0 256) % 256] : List Int)) := ⟨_, rfl⟩
 replace H : (some (strOfNums y400)) = some r := by first | (rw [hy400]; with_reducible exact H) | (have H2_ := (Option.bind_some _ _).symm.trans H; rw [hy400]; with_reducible exact H2_) | (have H2_ := (Option.bind_some _ _).symm.trans H; with_reducible exact H2_) | with_reducible exact H | (rw [hy400]; exact H) | exact H
 have Ny400 := Aside0.mk hy400
 clear hy400
 obtain rfl := Option.some.inj H
 go_enter Try.func66, Try.ntmps66
 go_wp2_with (first | ((with_reducible refine gate_dst (N := 9) rfl ?_); refine Kd.R_lit (Kd.int .u8) _ 5 ?hg (N := 9) ?hd (xs := ([(IntKind.u16.wrap (Int.tdiv a0 256)) % 256, (Int.tmod a0 256) % 256] : List Int)) (inner := [.int .u8 ((IntKind.u16.wrap (Int.tdiv a0 256)) % 256), .int .u8 ((Int.tmod a0 256) % 256)]) (ok := fun _ => True) (okp := fun _ => True) ?hr ?hp (fun _ hk => hk) trivial (Below.refl _ _) (Nat.le_refl _) (by simp) ?_; (case hd => rfl); (case hg => rfl); (case hr => first | (go_simp; done) | (go_simp; rfl)); (case hp => exact (Reps.one (show Kd.M (Kd.int .u8) _ _ _ ((IntKind.u16.wrap (Int.tdiv a0 256)) % 256) [.int .u8 ((IntKind.u16.wrap (Int.tdiv a0 256)) % 256)] from rfl) (Reps.one (show Kd.M (Kd.int .u8) _ _ _ ((Int.tmod a0 256) % 256) [.int .u8 ((Int.tmod a0 256) % 256)] from rfl) (Reps.none _ _)))); intro v401 w2 ho3 hb hg_ hnew_; clear hg_ hnew_; (first | rw [← Ny400.out] at ho3 | (simp only [Int.reduceToNat] at ho3; rw [← Ny400.out] at ho3)); have n0_ := Aside0.mk (Kd.R_lower ho3 (below_size (by repeat (first | (with_reducible first | exact HB.out | apply below_alloc | apply pw_below_drewN | apply below_drew1) | exact HB.out)))); have n1_ := Aside0.mk (below_step (by repeat (first | (with_reducible first | exact HB.out | apply below_alloc | apply pw_below_drewN | apply below_drew1) | exact HB.out)) hb); clear HB; have HO402 := n0_; have HB := n1_; clear n0_ n1_; clear hb ho3; have hcv4 := own_string (P := Try.prog) Try.underlying49 Try.underlying5 Try.underlying9 (Kd.own_of_R HO402.out)))
 go_ret
 exact ⟨by first | rfl | (simp [errW_none, errW_some] <;> rfl) | (simp [*, errW_none, errW_some] <;> rfl), by repeat (first | (with_reducible first | exact HB.out | apply below_alloc | apply pw_below_drewN | apply below_drew1) | exact HB.out)⟩
end Go.Proofs.Ytpmkibggmkibeaa.G
namespace Go.Proofs.Ytpmkibggmkibeaa.G
open Go.RowKit Go.Proofs.YtpmkibggmkibeaaW.PrintWords Go.Proofs.YtpmkibggmkibeaaW.PrintLast Go.Proofs.YtpmkibggmkibeaaW.PrintMore
attribute [local go_sem] max2_int min2_int max_two min_two max_three min_three max_four min_four   -- for this text's walks alone
set_option linter.unusedVariables false
set_option linter.unusedSimpArgs false
def masterdiscref10_check.f (k : Nat) (a0 : ByteArray) : Option (ByteArray) := (masterdiscref02_CRC16.f k a0).bind fun t404 => ((masterdiscref02_CRCBytes.f (IntKind.u16.wrap (65535 - t404))).bind fun t405 => (some t405))
theorem masterdiscref10_check.mono : ∀ a0 k, LeO (masterdiscref10_check.f k a0) (masterdiscref10_check.f (k + 1) a0) := by
 intro a0 k
 unfold masterdiscref10_check.f
 repeat' first
  | (with_reducible exact masterdiscref02_CRC16.mono _ _)
  | (with_reducible exact LeO.refl _)
  | (with_reducible exact LeO.none _)
  | (with_reducible refine LeO.ite ?_ ?_)
  | (with_reducible refine LeO.bind ?_ (fun _ => ?_))
  | exact masterdiscref02_CRC16.mono _ _
  | exact LeO.none _
  | refine LeO.ite ?_ ?_
  | refine LeO.bind ?_ (fun _ => ?_)
set_option maxHeartbeats 8000000 in
set_option maxRecDepth 100000 in
theorem masterdiscref10_check.calls (k : Nat) (a0 : ByteArray) (r : ByteArray) (w : World) (h : masterdiscref10_check.f k a0 = some r) :
 Calls Try.prog 49 #[.string a0] w fun e w' => e = .returned (.string r) ∧ Below w.heap.size w w' := by
 have HB := Aside0.mk (Below.refl w.heap.size w)
 have H : ((masterdiscref02_CRC16.f k a0).bind fun t404 => ((masterdiscref02_CRCBytes.f (IntKind.u16.wrap (65535 - t404))).bind fun t405 => (some t405))) = some r := h
 clear h
 replace H := Option.bind_eq_some_iff.mp H
 obtain ⟨t404, A20, H⟩ := H
 replace H : ((masterdiscref02_CRCBytes.f (IntKind.u16.wrap (65535 - t404))).bind fun t405 => (some t405)) = some r := H
 have A2 := Aside0.mk A20
 clear A20
 replace H := Option.bind_eq_some_iff.mp H
 obtain ⟨t405, A30, H⟩ := H
 replace H : (some t405) = some r := H
 have A3 := Aside0.mk A30
 clear A30
 obtain rfl := Option.some.inj H
 go_enter Try.func49, Try.ntmps49
 go_wp2_with (first | ((with_reducible refine gate_callee (f := 67) rfl ?_); refine goesL_ (some 4) rfl rfl Try.func67 (by kernel_rfl) rfl #[.string a0] rfl (by (try simp only [List.map_toArray, List.map_cons, List.map_nil]); first | done | rfl | (simp only [List.length_drop, List.length_take]; rfl)) ?_; (with_reducible refine (masterdiscref02_CRC16.calls k a0 t404 _ A2.out).mono ?_); rintro e w' ⟨rfl, ⟨nd, rfl⟩⟩; refine ⟨_, rfl, ?_⟩) | ((with_reducible refine gate_callee (f := 66) rfl ?_); refine goesL_ (some 6) rfl rfl Try.func66 (by kernel_rfl) rfl #[.int .u16 (IntKind.u16.wrap (65535 - t404))] rfl (by (try simp only [List.map_toArray, List.map_cons, List.map_nil]); first | done | rfl | (simp only [List.length_drop, List.length_take]; rfl)) ?_; (with_reducible refine (masterdiscref02_CRCBytes.calls (IntKind.u16.wrap (65535 - t404)) t405 _ A3.out).mono ?_); rintro e w4 ⟨rfl, hb⟩; refine ⟨_, rfl, ?_⟩; have n0_ := Aside0.mk (below_step (by repeat (first | (with_reducible first | exact HB.out | apply below_alloc | apply pw_below_drewN | apply below_drew1) | exact HB.out)) hb); clear HB; have HB := n0_; clear n0_; (try clear hb); (try clear hb2); (try clear hk); (try clear hi)))
 go_ret
 exact ⟨by first | rfl | (simp [errW_none, errW_some] <;> rfl) | (simp [*, errW_none, errW_some] <;> rfl), by repeat (first | (with_reducible first | exact HB.out | apply below_alloc | apply pw_below_drewN | apply below_drew1) | exact HB.out)⟩
end Go.Proofs.Ytpmkibggmkibeaa.G
namespace Go.Proofs.Ytpmkibggmkibeaa.G
open Go.RowKit Go.Proofs.YtpmkibggmkibeaaW.PrintWords Go.Proofs.YtpmkibggmkibeaaW.PrintLast Go.Proofs.YtpmkibggmkibeaaW.PrintMore
attribute [local go_sem] max2_int min2_int max_two min_two max_three min_three max_four min_four   -- for this text's walks alone
set_option linter.unusedVariables false
set_option linter.unusedSimpArgs false
def checksum_CRC16.f (a0 : ByteArray) : Option (Int) := (checksum_ExtendCRC16.f 0 a0).bind fun t156 => (some t156)
set_option maxHeartbeats 8000000 in
set_option maxRecDepth 100000 in
theorem checksum_CRC16.calls (a0 : ByteArray) (r : Int) (w : World) (h : checksum_CRC16.f a0 = some r) :
 Calls Try.prog 62 #[.string a0] w fun e w' => e = .returned (.int .u16 r) ∧ Below w.heap.size w w' := by
 have HB := Aside0.mk (Below.refl w.heap.size w)
 have H : ((checksum_ExtendCRC16.f 0 a0).bind fun t156 => (some t156)) = some r := h
 clear h
 replace H := Option.bind_eq_some_iff.mp H
 obtain ⟨t156, A20, H⟩ := H
 replace H : (some t156) = some r := H
 have A2 := Aside0.mk A20
 clear A20
 obtain rfl := Option.some.inj H
 go_enter Try.func62, Try.ntmps62
 go_wp2_with (first | ((with_reducible refine gate_callee (f := 73) rfl ?_); refine goesL_ (some 4) rfl rfl Try.func73 (by kernel_rfl) rfl #[.int .u16 0, .string a0] rfl (by (try simp only [List.map_toArray, List.map_cons, List.map_nil]); first | done | rfl | (simp only [List.length_drop, List.length_take]; rfl)) ?_; (with_reducible refine (checksum_ExtendCRC16.calls 0 a0 t156 _ A2.out).mono ?_); rintro e w3 ⟨rfl, hb⟩; refine ⟨_, rfl, ?_⟩; have n0_ := Aside0.mk (below_step (by repeat (first | (with_reducible first | exact HB.out | apply below_alloc | apply pw_below_drewN | apply below_drew1) | exact HB.out)) hb); clear HB; have HB := n0_; clear n0_; (try clear hb); (try clear hb2); (try clear hk); (try clear hi)))
 go_ret
 exact ⟨by first | rfl | (simp [errW_none, errW_some] <;> rfl) | (simp [*, errW_none, errW_some] <;> rfl), by repeat (first | (with_reducible first | exact HB.out | apply below_alloc | apply pw_below_drewN | apply below_drew1) | exact HB.out)⟩
end Go.Proofs.Ytpmkibggmkibeaa.G
namespace Go.Proofs.Ytpmkibggmkibeaa.G
open Go.RowKit Go.Proofs.YtpmkibggmkibeaaW.PrintWords Go.Proofs.YtpmkibggmkibeaaW.PrintLast Go.Proofs.YtpmkibggmkibeaaW.PrintMore
attribute [local go_sem] max2_int min2_int max_two min_two max_three min_three max_four min_four   -- for this text's walks alone
set_option linter.unusedVariables false
set_option linter.unusedSimpArgs false
def checksum_CRCBytes.f (a0 : Int) : Option (ByteArray) := some (strOfNums (([(a0 / 256) % 256, (a0) % 256] : List Int)))
set_option maxHeartbeats 8000000 in
set_option maxRecDepth 100000 in
theorem checksum_CRCBytes.calls (a0 : Int) (r : ByteArray) (w : World) (h : checksum_CRCBytes.f a0 = some r) :
 Calls Try.prog 61 #[.int .u16 a0] w fun e w' => e = .returned (.string r) ∧ Below w.heap.size w w' := by
 have HB := Aside0.mk (Below.refl w.heap.size w)
 have H : (some (strOfNums (([(a0 / 256) % 256, (a0) % 256] : List Int)))) = some r := h
 clear h
 obtain ⟨y153, hy153⟩ : ∃ y_ : List Int, y_ = (([(a0 / 256) % 256, (a0) % 256] : List Int)) := ⟨_, rfl⟩
 replace H : (some (strOfNums y153)) = some r := by first | (rw [hy153]; with_reducible exact H) | (have H2_ := (Option.bind_some _ _).symm.trans H; rw [hy153]; with_reducible exact H2_) | (have H2_ := (Option.bind_some _ _).symm.trans H; with_reducible exact H2_) | with_reducible exact H | (rw [hy153]; exact H) | exact H
 have Ny153 := Aside0.mk hy153
 clear hy153
 obtain rfl := Option.some.inj H
 go_enter Try.func61, Try.ntmps61
 go_wp2_with (first | ((with_reducible refine gate_dst (N := 8) rfl ?_); refine Kd.R_lit (Kd.int .u8) _ 5 ?hg (N := 8) ?hd (xs := ([(a0 / 256) % 256, (a0) % 256] : List Int)) (inner := [.int .u8 ((a0 / 256) % 256), .int .u8 ((a0) % 256)]) (ok := fun _ => True) (okp := fun _ => True) ?hr ?hp (fun _ hk => hk) trivial (Below.refl _ _) (Nat.le_refl _) (by simp) ?_; (case hd => rfl); (case hg => rfl); (case hr => first | (go_simp; done) | (go_simp; rfl)); (case hp => exact (Reps.one (show Kd.M (Kd.int .u8) _ _ _ ((a0 / 256) % 256) [.int .u8 ((a0 / 256) % 256)] from rfl) (Reps.one (show Kd.M (Kd.int .u8) _ _ _ ((a0) % 256) [.int .u8 ((a0) % 256)] from rfl) (Reps.none _ _)))); intro v154 w2 ho3 hb hg_ hnew_; clear hg_ hnew_; (first | rw [← Ny153.out] at ho3 | (simp only [Int.reduceToNat] at ho3; rw [← Ny153.out] at ho3)); have n0_ := Aside0.mk (Kd.R_lower ho3 (below_size (by repeat (first | (with_reducible first | exact HB.out | apply below_alloc | apply pw_below_drewN | apply below_drew1) | exact HB.out)))); have n1_ := Aside0.mk (below_step (by repeat (first | (with_reducible first | exact HB.out | apply below_alloc | apply pw_below_drewN | apply below_drew1) | exact HB.out)) hb); clear HB; have HO155 := n0_; have HB := n1_; clear n0_ n1_; clear hb ho3; have hcv4 := own_string (P := Try.prog) Try.underlying49 Try.underlying5 Try.underlying9 (Kd.own_of_R HO155.out)))
 go_ret
 exact ⟨by first | rfl | (simp [errW_none, errW_some] <;> rfl) | (simp [*, errW_none, errW_some] <;> rfl), by repeat (first | (with_reducible first | exact HB.out | apply below_alloc | apply pw_below_drewN | apply below_drew1) | exact HB.out)⟩
end Go.Proofs.Ytpmkibggmkibeaa.G
namespace Go.Proofs.Ytpmkibggmkibeaa.G
open Go.RowKit Go.Proofs.YtpmkibggmkibeaaW.PrintWords Go.Proofs.YtpmkibggmkibeaaW.PrintLast Go.Proofs.YtpmkibggmkibeaaW.PrintMore
attribute [local go_sem] max2_int min2_int max_two min_two max_three min_three max_four min_four   -- for this text's walks alone
set_option linter.unusedVariables false
set_option linter.unusedSimpArgs false
def subchannel_check.f (a0 : ByteArray) : Option (ByteArray) := (checksum_CRC16.f a0).bind fun t157 => ((checksum_CRCBytes.f (Go.bits .xor .u16 (-1) t157)).bind fun t158 => (some t158))
set_option maxHeartbeats 8000000 in
set_option maxRecDepth 100000 in
theorem subchannel_check.calls (a0 : ByteArray) (r : ByteArray) (w : World) (h : subchannel_check.f a0 = some r) :
 Calls Try.prog 43 #[.string a0] w fun e w' => e = .returned (.string r) ∧ Below w.heap.size w w' := by
 have HB := Aside0.mk (Below.refl w.heap.size w)
 have H : ((checksum_CRC16.f a0).bind fun t157 => ((checksum_CRCBytes.f (Go.bits .xor .u16 (-1) t157)).bind fun t158 => (some t158))) = some r := h
 clear h
 replace H := Option.bind_eq_some_iff.mp H
 obtain ⟨t157, A20, H⟩ := H
 replace H : ((checksum_CRCBytes.f (Go.bits .xor .u16 (-1) t157)).bind fun t158 => (some t158)) = some r := H
 have A2 := Aside0.mk A20
 clear A20
 replace H := Option.bind_eq_some_iff.mp H
 obtain ⟨t158, A30, H⟩ := H
 replace H : (some t158) = some r := H
 have A3 := Aside0.mk A30
 clear A30
 obtain rfl := Option.some.inj H
 go_enter Try.func43, Try.ntmps43
 go_wp2_with (first | ((with_reducible refine gate_callee (f := 62) rfl ?_); refine goesL_ (some 4) rfl rfl Try.func62 (by kernel_rfl) rfl #[.string a0] rfl (by (try simp only [List.map_toArray, List.map_cons, List.map_nil]); first | done | rfl | (simp only [List.length_drop, List.length_take]; rfl)) ?_; (with_reducible refine (checksum_CRC16.calls a0 t157 _ A2.out).mono ?_); rintro e w4 ⟨rfl, hb⟩; refine ⟨_, rfl, ?_⟩; have n0_ := Aside0.mk (below_step (by repeat (first | (with_reducible first | exact HB.out | apply below_alloc | apply pw_below_drewN | apply below_drew1) | exact HB.out)) hb); clear HB; have HB := n0_; clear n0_; (try clear hb); (try clear hb2); (try clear hk); (try clear hi)) | ((with_reducible refine gate_callee (f := 61) rfl ?_); refine goesL_ (some 6) rfl rfl Try.func61 (by kernel_rfl) rfl #[.int .u16 (Go.bits .xor .u16 (-1) t157)] rfl (by (try simp only [List.map_toArray, List.map_cons, List.map_nil]); first | done | rfl | (simp only [List.length_drop, List.length_take]; rfl)) ?_; (with_reducible refine (checksum_CRCBytes.calls (Go.bits .xor .u16 (-1) t157) t158 _ A3.out).mono ?_); rintro e w5 ⟨rfl, hb⟩; refine ⟨_, rfl, ?_⟩; have n0_ := Aside0.mk (below_step (by repeat (first | (with_reducible first | exact HB.out | apply below_alloc | apply pw_below_drewN | apply below_drew1) | exact HB.out)) hb); clear HB; have HB := n0_; clear n0_; (try clear hb); (try clear hb2); (try clear hk); (try clear hi)))
 go_ret
 exact ⟨by first | rfl | (simp [errW_none, errW_some] <;> rfl) | (simp [*, errW_none, errW_some] <;> rfl), by repeat (first | (with_reducible first | exact HB.out | apply below_alloc | apply pw_below_drewN | apply below_drew1) | exact HB.out)⟩
end Go.Proofs.Ytpmkibggmkibeaa.G
namespace Go.Proofs.Ytpmkibggmkibeaa.G
open Go.RowKit Go.Proofs.YtpmkibggmkibeaaW.PrintWords Go.Proofs.YtpmkibggmkibeaaW.PrintLast Go.Proofs.YtpmkibggmkibeaaW.PrintMore
set_option linter.unusedVariables false
theorem bits16 (op : BinOp) (R T : BitVec 16) : Go.bits .xor .u16 (R.toNat : Int) (T.toNat : Int) = ((R ^^^ T).toNat : Int) := by
 have e1 : BitVec.ofInt IntKind.u16.bits (R.toNat : Int) = R := by
  show BitVec.ofInt 16 _ = _
  simp
 have e2 : BitVec.ofInt IntKind.u16.bits (T.toNat : Int) = T := by
  show BitVec.ofInt 16 _ = _
  simp
 simp only [Go.bits]
 rw [e1, e2]
 exact wraps_u16 _ (Int.natCast_nonneg _) (lt16 _)
theorem inner_step (R : BitVec 16) : (if (IntKind.u16.wrap (Int.tdiv (R.toNat : Int) 32768)) = 1 then Go.bits .xor .u16 (IntKind.u16.wrap ((Int.tmod (R.toNat : Int) 32768) * 2)) 4129 else IntKind.u16.wrap ((Int.tmod (R.toNat : Int) 32768) * 2)) = ((Crc.stp R).toNat : Int) := by
 have hR := R.isLt
 have e1 : Int.tdiv (R.toNat : Int) 32768 = (R.toNat : Int) / 32768 := Int.tdiv_eq_ediv_of_nonneg (by omega)
 have e2 : Int.tmod (R.toNat : Int) 32768 = (R.toNat : Int) % 32768 := Int.tmod_eq_emod_of_nonneg (by omega)
 have hsh : ((R <<< 1).toNat : Int) = (R.toNat : Int) % 32768 * 2 := by
  rw [BitVec.toNat_shiftLeft, Nat.shiftLeft_eq]
  omega
 rw [e1, e2, wraps_u16 ((R.toNat : Int) / 32768) (by omega) (by omega), wraps_u16 ((R.toNat : Int) % 32768 * 2) (by omega) (by omega), ← hsh]
 have hm : R.msb = decide (32768 ≤ R.toNat) := by
  rw [BitVec.msb_eq_decide]
 unfold Crc.stp
 by_cases h : 32768 ≤ R.toNat
 · rw [if_pos (by omega), hm, decide_eq_true h, if_pos rfl]
   have := bits16 .xor (R <<< 1) 0x1021#16
   exact this
 · rw [if_neg (by omega), hm, decide_eq_false h, if_neg (by decide)]
theorem inner_loop (s : ByteArray) (x5 : Int) (d : Nat) : ∀ (K : Nat) (i : Nat) (R : BitVec 16), i + d = 8 → ∃ Q : BitVec 16, masterdiscref02_ExtendCRC16.l1 (K + d + 1) (R.toNat : Int) s x5 (i : Int) = masterdiscref02_ExtendCRC16.l0 K (Q.toNat : Int) s (wrap64 (x5 + 1)) ∧ Q = (Nat.repeat Crc.stp d R) := by
 induction d with
 | zero =>
  intro K i R hi
  refine ⟨R, ?_, rfl⟩
  rw [masterdiscref02_ExtendCRC16.l1.eq_def]
  dsimp only
  rw [if_neg (by omega)]
 | succ d ih =>
  intro K i R hi
  obtain ⟨Q, hQ, hq⟩ := ih K (i + 1) (Crc.stp R) (by omega)
  refine ⟨Q, ?_, ?_⟩
  · rw [masterdiscref02_ExtendCRC16.l1.eq_def]
    dsimp only
    rw [if_pos (by omega), show wrap64 ((i : Int) + 1) = ((i + 1 : Nat) : Int) by unfold wrap64; omega]
    have hs := inner_step R
    by_cases h : (IntKind.u16.wrap (Int.tdiv (R.toNat : Int) 32768)) = 1
    · rw [if_pos h] at hs ⊢
      rw [hs, show K + (d + 1) = K + d + 1 by omega]
      exact hQ
    · rw [if_neg h] at hs ⊢
      rw [hs, show K + (d + 1) = K + d + 1 by omega]
      exact hQ
  · rw [hq]
    clear hQ hq ih
    have : ∀ (d : Nat) (R : BitVec 16), Nat.repeat Crc.stp d (Crc.stp R) = Nat.repeat Crc.stp (d + 1) R := by
     intro d
     induction d with
     | zero => intro R; rfl
     | succ d ih => intro R; show Crc.stp (Nat.repeat Crc.stp d (Crc.stp R)) = _; rw [ih]; rfl
    exact this d R
theorem repeat8 (R : BitVec 16) : Nat.repeat Crc.stp 8 R = Crc.st8 R := rfl
theorem byte_xor (R : BitVec 16) (b : Int) (h0 : 0 ≤ b) (h1 : b ≤ 255) : Go.bits .xor .u16 (R.toNat : Int) (IntKind.u16.wrap ((IntKind.u16.wrap b) * 256)) = ((R ^^^ ((BitVec.ofInt 8 b).setWidth 16 <<< 8 : BitVec 16)).toNat : Int) := by
 have e : IntKind.u16.wrap ((IntKind.u16.wrap b) * 256) = ((((BitVec.ofInt 8 b).setWidth 16 <<< 8 : BitVec 16)).toNat : Int) := by
  rw [wraps_u16 b (by omega) (by omega), wraps_u16 (b * 256) (by omega) (by omega), BitVec.toNat_shiftLeft, Nat.shiftLeft_eq, BitVec.toNat_setWidth, BitVec.toNat_ofInt]
  omega
 rw [e]
 exact bits16 .xor R _
theorem outer_loop (s : ByteArray) (hs : s.size ≤ 140737488351232) (c : BitVec 16) (d : Nat) : ∀ (K i : Nat), i + d = s.size → masterdiscref02_ExtendCRC16.l0 (K + 10 * d + 1) ((regK c s i).toNat : Int) s (i : Int) = some (regZ c s s.size) := by
 induction d with
 | zero =>
  intro K i hi
  rw [masterdiscref02_ExtendCRC16.l0.eq_def]
  dsimp only
  rw [if_neg (by omega), show i = s.size by omega]
  rfl
 | succ d ih =>
  intro K i hi
  rw [show K + 10 * (d + 1) + 1 = (K + 10 * d + 1 + 9) + 1 by omega, masterdiscref02_ExtendCRC16.l0.eq_def]
  dsimp only
  have hb := bt_range s (i : Int)
  rw [if_pos (by omega), if_pos (by omega), byte_xor _ _ hb.1 hb.2]
  obtain ⟨Q, h1, h2⟩ := inner_loop s (i : Int) 8 (K + 10 * d + 1) 0 (regK c s i ^^^ ((BitVec.ofInt 8 (bt s (i : Int))).setWidth 16 <<< 8 : BitVec 16)) (by omega)
  rw [repeat8] at h2
  have h1 : masterdiscref02_ExtendCRC16.l1 (K + 10 * d + 1 + 9) _ s (i : Int) 0 = _ := h1
  rw [h1, show wrap64 ((i : Int) + 1) = ((i + 1 : Nat) : Int) by unfold wrap64; omega]
  have h3 : Q = regK c s (i + 1) := by
   rw [h2]
   exact (Crc.one_eq (regK c s i) (BitVec.ofInt 8 (bt s (i : Int)))).symm
  rw [h3]
  exact ih K (i + 1) (by omega)
theorem refcrc_plain (s : ByteArray) (hs : s.size ≤ 140737488351232) : masterdiscref02_CRC16.f (10 * s.size + 1) s = some (regZ 0#16 s s.size) := by
 unfold masterdiscref02_CRC16.f masterdiscref02_ExtendCRC16.f
 have := outer_loop s hs 0#16 s.size 0 0 (by omega)
 rw [show 0 + 10 * s.size + 1 = 10 * s.size + 1 by omega] at this
 have this : masterdiscref02_ExtendCRC16.l0 (10 * s.size + 1) 0 s 0 = _ := this
 rw [this]
 rfl
def chkZ (s : ByteArray) : Int := 65535 - regZ 0#16 s s.size
theorem regZ_range (c : BitVec 16) (s : ByteArray) (k : Nat) : 0 ≤ regZ c s k ∧ regZ c s k < 65536 := by
 have := (regK c s k).isLt
 unfold regZ
 omega
def chkS (s : ByteArray) : ByteArray := strOfNums [chkZ s / 256, chkZ s % 256]
theorem check_plain (s : ByteArray) (hs : s.size ≤ 140737488351232) : subchannel_check.f s = some (chkS s) := by
 unfold subchannel_check.f checksum_CRC16.f checksum_ExtendCRC16.f checksum_CRCBytes.f
 rw [if_pos ⟨by decide, by decide, hs⟩]
 simp only [Option.bind_some]
 have hr := regZ_range 0#16 s s.size
 have e : Go.bits .xor .u16 (-1) (regZ (BitVec.ofInt 16 0) s s.size) = chkZ s := by
  have e1 : BitVec.ofInt IntKind.u16.bits (-1) = 0xFFFF#16 := rfl
  have e2 : BitVec.ofInt IntKind.u16.bits (regZ (BitVec.ofInt 16 0) s s.size) = regK 0#16 s s.size := by
   show BitVec.ofInt 16 ((regK (BitVec.ofInt 16 0) s s.size).toNat : Int) = _
   simp
  simp only [Go.bits]
  rw [e1, e2]
  have e3 : (0xFFFF#16 ^^^ regK 0#16 s s.size) = ~~~ (regK 0#16 s s.size) := by
   rw [show (0xFFFF#16) = BitVec.allOnes 16 from rfl, BitVec.allOnes_xor]
  show IntKind.u16.wrap ((((0xFFFF#16 ^^^ regK 0#16 s s.size : BitVec 16)).toNat : Nat) : Int) = chkZ s
  rw [e3]
  unfold chkZ regZ
  have hl := (regK 0#16 s s.size).isLt
  have e4 : (~~~ (regK 0#16 s s.size)).toNat = 65535 - (regK 0#16 s s.size).toNat := by
   rw [BitVec.toNat_not]
  have e5 : (((~~~ (regK 0#16 s s.size)).toNat : Nat) : Int) = 65535 - ((regK 0#16 s s.size).toNat : Int) := by omega
  have e6 := wraps_u16 (65535 - ((regK 0#16 s s.size).toNat : Int)) (by omega) (by omega)
  rw [← e5] at e6 ⊢
  exact e6
 rw [e]
 unfold chkS
 rw [show chkZ s / 256 % 256 = chkZ s / 256 by unfold chkZ; omega]
theorem refcheck_plain (s : ByteArray) (hs : s.size ≤ 140737488351232) : masterdiscref10_check.f (10 * s.size + 1) s = some (chkS s) := by
 have hr := regZ_range 0#16 s s.size
 unfold masterdiscref10_check.f masterdiscref02_CRCBytes.f
 rw [refcrc_plain s hs]
 simp only [Option.bind_some]
 have e1 : IntKind.u16.wrap (65535 - regZ 0#16 s s.size) = chkZ s := wraps_u16 _ (by omega) (by omega)
 rw [e1]
 have hc : 0 ≤ chkZ s ∧ chkZ s < 65536 := by unfold chkZ; omega
 have e2 : Int.tdiv (chkZ s) 256 = chkZ s / 256 := Int.tdiv_eq_ediv_of_nonneg hc.1
 have e3 : Int.tmod (chkZ s) 256 = chkZ s % 256 := Int.tmod_eq_emod_of_nonneg hc.1
 rw [e2, e3, wraps_u16 (chkZ s / 256) (by omega) (by omega), show chkZ s / 256 % 256 = chkZ s / 256 by omega, show chkZ s % 256 % 256 = chkZ s % 256 by omega]
 rfl
end Go.Proofs.Ytpmkibggmkibeaa.G
namespace Go.Proofs.Ytpmkibggmkibeaa.G
open Go.RowKit Go.Proofs.YtpmkibggmkibeaaW.PrintWords Go.Proofs.YtpmkibggmkibeaaW.PrintLast Go.Proofs.YtpmkibggmkibeaaW.PrintMore
def sesOk (l : List (S53)) (i : Nat) (last : Int) : Bool :=
 decide (1 ≤ (rd_T53 l (i : Int)).f0 ∧ (rd_T53 l (i : Int)).f0 ≤ 99 ∧ (0 < i → (rd_T53 l (i : Int)).f0 = (rd_T53 l ((i : Int) - 1)).f0 + 1) ∧ last ≤ (rd_T53 l (i : Int)).f2 ∧ (rd_T53 l (i : Int)).f2 ≤ 449849 ∧ 1 ≤ (rd_T53 l (i : Int)).f3 ∧ (rd_T53 l (i : Int)).f3 ≤ 449849 ∧ (rd_T53 l (i : Int)).f2 + (rd_T53 l (i : Int)).f3 ≤ 449849)
def sesGo (l : List (S53)) : Nat → Nat → Int → Bool
 | 0, _, _ => true
 | d + 1, i, last => sesOk l i last && sesGo l d (i + 1) ((rd_T53 l (i : Int)).f2 + (rd_T53 l (i : Int)).f3)
def sesB (l : List (S53)) : Bool := decide (1 ≤ l.length ∧ l.length ≤ 99) && sesGo l l.length 0 0
structure Ses (l : List (S53)) : Prop where
 one : 1 ≤ l.length
 most : l.length ≤ 99
 num : ∀ i, i < l.length → 1 ≤ (rd_T53 l (i : Int)).f0 ∧ (rd_T53 l (i : Int)).f0 ≤ 99
 next : ∀ i, 0 < i → i < l.length → (rd_T53 l (i : Int)).f0 = (rd_T53 l ((i : Int) - 1)).f0 + 1
 start : ∀ i, i < l.length → 0 ≤ (rd_T53 l (i : Int)).f2 ∧ (rd_T53 l (i : Int)).f2 ≤ 449849
 behind : ∀ i, 0 < i → i < l.length → (rd_T53 l ((i : Int) - 1)).f2 + (rd_T53 l ((i : Int) - 1)).f3 ≤ (rd_T53 l (i : Int)).f2
 len : ∀ i, i < l.length → 1 ≤ (rd_T53 l (i : Int)).f3 ∧ (rd_T53 l (i : Int)).f3 ≤ 449849 ∧ (rd_T53 l (i : Int)).f2 + (rd_T53 l (i : Int)).f3 ≤ 449849
theorem sesGo_all (l : List (S53)) (d : Nat) : ∀ (i : Nat) (last : Int), sesGo l d i last = true → ∀ j, i ≤ j → j < i + d → ∃ la, sesOk l j la = true ∧ (j = i → la = last) ∧ (i < j → la = (rd_T53 l ((j : Int) - 1)).f2 + (rd_T53 l ((j : Int) - 1)).f3) := by
 induction d with
 | zero => intro i last _ j h1 h2; omega
 | succ d ih =>
  intro i last h j h1 h2
  simp only [sesGo, Bool.and_eq_true] at h
  by_cases e : j = i
  · subst e
    exact ⟨last, h.1, fun _ => rfl, fun h => absurd h (by omega)⟩
  · obtain ⟨la, a1, a2, a3⟩ := ih (i + 1) _ h.2 j (by omega) (by omega)
    refine ⟨la, a1, fun h => absurd h e, fun _ => ?_⟩
    by_cases e2 : j = i + 1
    · subst e2
      rw [a2 rfl, show (((i + 1 : Nat) : Int) - 1) = (i : Int) by omega]
    · exact a3 (by omega)
theorem ses_of {l : List (S53)} (h : sesB l = true) : Ses l := by
 simp only [sesB, Bool.and_eq_true, decide_eq_true_eq] at h
 obtain ⟨⟨h1, h2⟩, h3⟩ := h
 have key : ∀ i, i < l.length → ∃ la, sesOk l i la = true ∧ (i = 0 → la = 0) ∧ (0 < i → la = (rd_T53 l ((i : Int) - 1)).f2 + (rd_T53 l ((i : Int) - 1)).f3) := fun i hi => sesGo_all l l.length 0 0 h3 i (by omega) (by omega)
 have ok : ∀ i, i < l.length → ∃ la : Int, (1 ≤ (rd_T53 l (i : Int)).f0 ∧ (rd_T53 l (i : Int)).f0 ≤ 99 ∧ (0 < i → (rd_T53 l (i : Int)).f0 = (rd_T53 l ((i : Int) - 1)).f0 + 1) ∧ la ≤ (rd_T53 l (i : Int)).f2 ∧ (rd_T53 l (i : Int)).f2 ≤ 449849 ∧ 1 ≤ (rd_T53 l (i : Int)).f3 ∧ (rd_T53 l (i : Int)).f3 ≤ 449849 ∧ (rd_T53 l (i : Int)).f2 + (rd_T53 l (i : Int)).f3 ≤ 449849) ∧ (i = 0 → la = 0) ∧ (0 < i → la = (rd_T53 l ((i : Int) - 1)).f2 + (rd_T53 l ((i : Int) - 1)).f3) := by
  intro i hi
  obtain ⟨la, a1, a2, a3⟩ := key i hi
  simp only [sesOk, decide_eq_true_eq] at a1
  exact ⟨la, a1, a2, a3⟩
 have st : ∀ i, i < l.length → 0 ≤ (rd_T53 l (i : Int)).f2 := by
  intro i
  induction i with
  | zero => intro hi; obtain ⟨la, a1, a2, a3⟩ := ok 0 hi; have := a2 rfl; omega
  | succ i ih =>
   intro hi
   obtain ⟨la, a1, a2, a3⟩ := ok (i + 1) hi
   obtain ⟨lb, b1, -, -⟩ := ok i (by omega)
   have h5 := a3 (by omega)
   rw [show (((i + 1 : Nat) : Int) - 1) = (i : Int) by omega] at h5
   have := ih (by omega)
   omega
 refine ⟨h1, h2, fun i hi => ?_, fun i h0 hi => ?_, fun i hi => ?_, fun i h0 hi => ?_, fun i hi => ?_⟩
 · obtain ⟨la, a1, -, -⟩ := ok i hi; exact ⟨a1.1, a1.2.1⟩
 · obtain ⟨la, a1, -, -⟩ := ok i hi; exact a1.2.2.1 h0
 · obtain ⟨la, a1, -, -⟩ := ok i hi; exact ⟨st i hi, a1.2.2.2.2.1⟩
 · obtain ⟨la, a1, -, a3⟩ := ok i hi; rw [← a3 h0]; exact a1.2.2.2.1
 · obtain ⟨la, a1, -, -⟩ := ok i hi; exact ⟨a1.2.2.2.2.2.1, a1.2.2.2.2.2.2.1, a1.2.2.2.2.2.2.2⟩
def lastE (l : List (S53)) : Int := (rd_T53 l ((l.length : Int) - 1)).f2 + (rd_T53 l ((l.length : Int) - 1)).f3
end Go.Proofs.Ytpmkibggmkibeaa.G
namespace Go.Proofs.Ytpmkibggmkibeaa.G
open Go.RowKit Go.Proofs.YtpmkibggmkibeaaW.PrintWords Go.Proofs.YtpmkibggmkibeaaW.PrintLast Go.Proofs.YtpmkibggmkibeaaW.PrintMore
attribute [local go_sem] max2_int min2_int max_two min_two max_three min_three max_four min_four   -- for this text's walks alone
set_option linter.unusedVariables false
set_option linter.unusedSimpArgs false
def subchannel_between.f (a0 : Int) (a1 : Int) (a2 : Int) : Option (Bool) := if a0 ≥ a1 then (some (decide (a0 ≤ a2))) else (some false)
set_option maxHeartbeats 8000000 in
set_option maxRecDepth 100000 in
theorem subchannel_between.calls (a0 : Int) (a1 : Int) (a2 : Int) (r : Bool) (w : World) (h : subchannel_between.f a0 a1 a2 = some r) :
 Calls Try.prog 26 #[.int .i64 a0, .int .i64 a1, .int .i64 a2] w fun e w' => e = .returned (.bool r) ∧ Drawn0 w w' := by
 have H : (if a0 ≥ a1 then (some (decide (a0 ≤ a2))) else (some false)) = some r := h
 clear h
 by_cases c4 : a0 ≥ a1
 · rw [if_pos c4] at H
   have c4b0 : decide (a1 ≤ a0) = true := decide_eq_true c4
   clear c4
   obtain rfl := Option.some.inj H
   go_enter Try.func26, Try.ntmps26
   go_wp2
   go_ret
   exact ⟨by first | rfl | (simp; done) | (simp [*]; done), by repeat (first | exact Drawn0.refl _ | apply Drawn0.step)⟩
 · rw [if_neg c4] at H
   have c4b0 : decide (a1 ≤ a0) = false := decide_eq_false c4
   clear c4
   obtain rfl := Option.some.inj H
   go_enter Try.func26, Try.ntmps26
   go_wp2
   go_ret
   exact ⟨by first | rfl | (simp; done) | (simp [*]; done), by repeat (first | exact Drawn0.refl _ | apply Drawn0.step)⟩
end Go.Proofs.Ytpmkibggmkibeaa.G
namespace Go.Proofs.Ytpmkibggmkibeaa.G
open Go.RowKit Go.Proofs.YtpmkibggmkibeaaW.PrintWords Go.Proofs.YtpmkibggmkibeaaW.PrintLast Go.Proofs.YtpmkibggmkibeaaW.PrintMore
attribute [local go_sem] max2_int min2_int max_two min_two max_three min_three max_four min_four   -- for this text's walks alone
set_option linter.unusedVariables false
set_option linter.unusedSimpArgs false
def subchannel_end.f (a0_0 : Int) (a0_1 : Int) (a0_2 : Int) (a0_3 : Int) (a0_4 : Int) (a0_5 : Int) (a0_6 : Int) : Option (Int) := some (wrap64 (a0_2 + a0_3))
set_option maxHeartbeats 8000000 in
set_option maxRecDepth 100000 in
theorem subchannel_end.calls (a0_0 : Int) (a0_1 : Int) (a0_2 : Int) (a0_3 : Int) (a0_4 : Int) (a0_5 : Int) (a0_6 : Int) (r : Int) (w : World) (h : subchannel_end.f a0_0 a0_1 a0_2 a0_3 a0_4 a0_5 a0_6 = some r) :
 Calls Try.prog 30 #[.agg #[.int .i64 a0_0, .int .i64 a0_1, .int .i64 a0_2, .int .i64 a0_3, .int .i64 a0_4, .int .i64 a0_5, .int .i64 a0_6]] w fun e w' => e = .returned (.int .i64 r) ∧ Below w.heap.size w w' := by
 have hu53 := Try.underlying53
 have HB := Aside0.mk (Below.refl w.heap.size w)
 have H : (some (wrap64 (a0_2 + a0_3))) = some r := h
 clear h
 obtain rfl := Option.some.inj H
 go_enter Try.func30, Try.ntmps30
 go_wp2_with (first | ((with_reducible refine gate_dst (N := 1) rfl ?_); refine box_event ?hg (N := 1) ?hd (cs := #[.int .i64 a0_0, .int .i64 a0_1, .int .i64 a0_2, .int .i64 a0_3, .int .i64 a0_4, .int .i64 a0_5, .int .i64 a0_6]) (t := 53) ?hr ?_; (case hd => rfl); (case hg => rfl); (case hr => first | (go_simp; done) | (go_simp; rfl)); intro gb113 hg w2 hbox hb; have n0_ := Aside0.mk (below_step (by repeat (first | (with_reducible first | exact HB.out | apply below_alloc | apply pw_below_drewN | apply below_drew1) | exact HB.out)) hb); have n1_ := Aside0.mk (hbox); have n2_ := Aside0.mk ((by rw [hg]; exact (below_size (by repeat (first | (with_reducible first | exact HB.out | apply below_alloc | apply pw_below_drewN | apply below_drew1) | exact HB.out))) : w.heap.size ≤ gb113)); have n3_ := Aside0.mk ((by rw [hg]; exact (below_size (by repeat (first | (with_reducible first | exact HB.out | apply below_alloc | apply pw_below_drewN | apply below_drew1) | exact HB.out))) : w.heap.size ≤ gb113)); clear HB; have HB := n0_; have BK113 := n1_; have GW113 := n2_; have GE113 := n3_; clear n0_ n1_ n2_ n3_; clear hb hbox hg; obtain ⟨hcz3_0, hcz3_1, hcz3_2, hcz3_3, hcz3_4, hcz3_5, hcz3_6⟩ := cel7 BK113.out; obtain ⟨hfz3_0, hfz3_1, hfz3_2, hfz3_3, hfz3_4, hfz3_5, hfz3_6⟩ := frz7 BK113.out))
 go_ret
 exact ⟨by first | rfl | (simp [errW_none, errW_some] <;> rfl) | (simp [*, errW_none, errW_some] <;> rfl), by repeat (first | (with_reducible first | exact HB.out | apply below_alloc | apply pw_below_drewN | apply below_drew1 | refine below_set ?_ GE113.out) | exact HB.out)⟩
end Go.Proofs.Ytpmkibggmkibeaa.G
