/- Texts of one claim, merged by a program of this session; what is proved stands in the last of them. -/
import Derived.ArgAppend
import Derived.Below
import Derived.BigQuiet
import Derived.Deep.AppendLies
import Derived.Deep.CutBlock
import Derived.Deep.DeepCutAuto
import Derived.Deep.Draws
import Derived.Deep.LoopGhost
import Derived.Deep.OwnRows
import Derived.Deep.QuietTactic
import Derived.Deep.RegionHeld3
import Derived.KernelRfl
import Derived.Laws.BitsLemmas
import Derived.Laws.BytesArg
import Derived.Laws.IdiomCopy
import Derived.Laws.MakeOwn
import Derived.Laws.OwnMore
import Derived.Laws.Rows
import Derived.Laws.Slices
import Derived.Lib.AppendStr
import Derived.Lib.ConvBytes
import Derived.Maps.AppendAt
import Derived.OrdersHeld
import Derived.OwnWalk
import Derived.RowKit
import Derived.RowKit3
import Derived.Tactics
import Derived.WalkKit
import Derived.WideLaws
import Derived.Test.YtpmkibggmkibeaaKd0
import Derived.Test.YtpmkibggmkibeaaProg
namespace Go.Proofs.Ytpmkibggmkibeaa.G
open Go.RowKit Go.Proofs.YtpmkibggmkibeaaW.PrintWords Go.Proofs.YtpmkibggmkibeaaW.PrintLast Go.Proofs.YtpmkibggmkibeaaW.PrintMore
attribute [local go_sem] max2_int min2_int max_two min_two max_three min_three max_four min_four   -- for this text's walks alone
set_option linter.unusedVariables false
set_option linter.unusedSimpArgs false
def errW : Option Int → Value
 | none => .nilIface
 | some c => .iface 0 (.int .i64 c)
theorem errW_none : errW none = .nilIface := rfl
theorem errW_some (c : Int) : errW (some c) = .iface 0 (.int .i64 c) := rfl
theorem info3 : (Try.prog.info? 3).map (fun i => (i.zero, i.size, i.bytes)) = some (some (.int .i64 0), 1, 8) := by kernel_rfl
theorem info5 : (Try.prog.info? 5).map (fun i => (i.zero, i.size, i.bytes)) = some (some (.int .u8 0), 1, 1) := by kernel_rfl
theorem info27 : (Try.prog.info? 27).map (fun i => (i.zero, i.size, i.bytes)) = some (some (.agg #[(.int .i64 0), (.int .i64 0), (.int .i64 0), (.int .i64 0), (.int .i64 0), (.int .i64 0), (.int .i64 0), (.int .i64 0), (.int .i64 0)]), 9, 72) := by kernel_rfl
theorem info53 : (Try.prog.info? 53).map (fun i => (i.zero, i.size, i.bytes)) = some (some (.agg #[(.int .i64 0), (.int .i64 0), (.int .i64 0), (.int .i64 0), (.int .i64 0), (.int .i64 0), (.int .i64 0)]), 7, 56) := by kernel_rfl
structure S25 where
 f0 : Int
 f1 : Int
 f2 : Int
def z25 : S25 := ⟨(0 : Int), (0 : Int), (0 : Int)⟩
def k25 : Kd S25 := Kd.iso (Kd.pair (Kd.int .i64) (Kd.pair (Kd.int .i64) (Kd.int .i64))) (fun x : S25 => (x.f0, x.f1, x.f2))
theorem k25_open {w : World} {x : S25} {cs : List Value} (h : k25.K w x cs) : cs = [.int .i64 x.f0, .int .i64 x.f1, .int .i64 x.f2] := by
 obtain ⟨_, _, rfl, rfl, ⟨_, _, rfl, rfl, rfl⟩⟩ := h
 exact rfl
theorem k25_openM {w : World} {base : Nat} {ok : Nat → Prop} {x : S25} {cs : List Value} (h : k25.M w base ok x cs) : cs = [.int .i64 x.f0, .int .i64 x.f1, .int .i64 x.f2] := by
 obtain ⟨_, _, rfl, rfl, ⟨_, _, rfl, rfl, rfl⟩⟩ := h
 exact rfl
theorem k25_mk (w : World) (x : S25)  : k25.K w x [.int .i64 x.f0, .int .i64 x.f1, .int .i64 x.f2] := ⟨[.int .i64 x.f0], [.int .i64 x.f1, .int .i64 x.f2], rfl, rfl, ⟨[.int .i64 x.f1], [.int .i64 x.f2], rfl, rfl, rfl⟩⟩
theorem k25_mkM (w : World) (base : Nat) (ok : Nat → Prop) (x : S25)  : k25.M w base ok x [.int .i64 x.f0, .int .i64 x.f1, .int .i64 x.f2] := ⟨[.int .i64 x.f0], [.int .i64 x.f1, .int .i64 x.f2], rfl, rfl, ⟨[.int .i64 x.f1], [.int .i64 x.f2], rfl, rfl, rfl⟩⟩
def rd_T25 (xs : List S25) (i : Int) : S25 := xs.getD i.toNat z25
theorem at_T25 {w : World} {A : Option Addr} {n : Nat} {xs : List S25} (h : Kd.C k25 w A n xs) (i : Int) (h0 : 0 ≤ i) (h1 : i < n) : ∃ ad , A = some ad ∧ w.cell? (ad.add (i.toNat * 3)) = some (.int .i64 (rd_T25 xs i).f0) ∧ w.cell? ⟨(ad.add (i.toNat * 3)).block, (ad.add (i.toNat * 3)).off + 1, none⟩ = some (.int .i64 (rd_T25 xs i).f1) ∧ w.cell? ⟨(ad.add (i.toNat * 3)).block, (ad.add (i.toNat * 3)).off + 2, none⟩ = some (.int .i64 (rd_T25 xs i).f2) := by
 obtain ⟨ad, c, e, _, hK, hc0⟩ := Kd.C_get h z25 i h0 h1
 have hc : ∀ j u, c[j]? = some u → w.cell? (ad.add (i.toNat * 3 + j)) = some u := hc0
 obtain rfl := k25_open hK
 exact ⟨ad, e, hc 0 _ rfl, by rw [← add_field _ _ 1 (by omega)]; exact hc 1 _ rfl, by rw [← add_field _ _ 2 (by omega)]; exact hc 2 _ rfl⟩
structure S53 where
 f0 : Int
 f1 : Int
 f2 : Int
 f3 : Int
 f4 : Int
 f5 : Int
 f6 : Int
def z53 : S53 := ⟨(0 : Int), (0 : Int), (0 : Int), (0 : Int), (0 : Int), (0 : Int), (0 : Int)⟩
def k53 : Kd S53 := Kd.iso (Kd.pair (Kd.int .i64) (Kd.pair (Kd.int .i64) (Kd.pair (Kd.int .i64) (Kd.pair (Kd.int .i64) (Kd.pair (Kd.int .i64) (Kd.pair (Kd.int .i64) (Kd.int .i64))))))) (fun x : S53 => (x.f0, x.f1, x.f2, x.f3, x.f4, x.f5, x.f6))
theorem k53_open {w : World} {x : S53} {cs : List Value} (h : k53.K w x cs) : cs = [.int .i64 x.f0, .int .i64 x.f1, .int .i64 x.f2, .int .i64 x.f3, .int .i64 x.f4, .int .i64 x.f5, .int .i64 x.f6] := by
 obtain ⟨_, _, rfl, rfl, ⟨_, _, rfl, rfl, ⟨_, _, rfl, rfl, ⟨_, _, rfl, rfl, ⟨_, _, rfl, rfl, ⟨_, _, rfl, rfl, rfl⟩⟩⟩⟩⟩⟩ := h
 exact rfl
theorem k53_openM {w : World} {base : Nat} {ok : Nat → Prop} {x : S53} {cs : List Value} (h : k53.M w base ok x cs) : cs = [.int .i64 x.f0, .int .i64 x.f1, .int .i64 x.f2, .int .i64 x.f3, .int .i64 x.f4, .int .i64 x.f5, .int .i64 x.f6] := by
 obtain ⟨_, _, rfl, rfl, ⟨_, _, rfl, rfl, ⟨_, _, rfl, rfl, ⟨_, _, rfl, rfl, ⟨_, _, rfl, rfl, ⟨_, _, rfl, rfl, rfl⟩⟩⟩⟩⟩⟩ := h
 exact rfl
theorem k53_mk (w : World) (x : S53)  : k53.K w x [.int .i64 x.f0, .int .i64 x.f1, .int .i64 x.f2, .int .i64 x.f3, .int .i64 x.f4, .int .i64 x.f5, .int .i64 x.f6] := ⟨[.int .i64 x.f0], [.int .i64 x.f1, .int .i64 x.f2, .int .i64 x.f3, .int .i64 x.f4, .int .i64 x.f5, .int .i64 x.f6], rfl, rfl, ⟨[.int .i64 x.f1], [.int .i64 x.f2, .int .i64 x.f3, .int .i64 x.f4, .int .i64 x.f5, .int .i64 x.f6], rfl, rfl, ⟨[.int .i64 x.f2], [.int .i64 x.f3, .int .i64 x.f4, .int .i64 x.f5, .int .i64 x.f6], rfl, rfl, ⟨[.int .i64 x.f3], [.int .i64 x.f4, .int .i64 x.f5, .int .i64 x.f6], rfl, rfl, ⟨[.int .i64 x.f4], [.int .i64 x.f5, .int .i64 x.f6], rfl, rfl, ⟨[.int .i64 x.f5], [.int .i64 x.f6], rfl, rfl, rfl⟩⟩⟩⟩⟩⟩
theorem k53_mkM (w : World) (base : Nat) (ok : Nat → Prop) (x : S53)  : k53.M w base ok x [.int .i64 x.f0, .int .i64 x.f1, .int .i64 x.f2, .int .i64 x.f3, .int .i64 x.f4, .int .i64 x.f5, .int .i64 x.f6] := ⟨[.int .i64 x.f0], [.int .i64 x.f1, .int .i64 x.f2, .int .i64 x.f3, .int .i64 x.f4, .int .i64 x.f5, .int .i64 x.f6], rfl, rfl, ⟨[.int .i64 x.f1], [.int .i64 x.f2, .int .i64 x.f3, .int .i64 x.f4, .int .i64 x.f5, .int .i64 x.f6], rfl, rfl, ⟨[.int .i64 x.f2], [.int .i64 x.f3, .int .i64 x.f4, .int .i64 x.f5, .int .i64 x.f6], rfl, rfl, ⟨[.int .i64 x.f3], [.int .i64 x.f4, .int .i64 x.f5, .int .i64 x.f6], rfl, rfl, ⟨[.int .i64 x.f4], [.int .i64 x.f5, .int .i64 x.f6], rfl, rfl, ⟨[.int .i64 x.f5], [.int .i64 x.f6], rfl, rfl, rfl⟩⟩⟩⟩⟩⟩
def rd_T53 (xs : List S53) (i : Int) : S53 := xs.getD i.toNat z53
theorem at_T53 {w : World} {A : Option Addr} {n : Nat} {xs : List S53} (h : Kd.C k53 w A n xs) (i : Int) (h0 : 0 ≤ i) (h1 : i < n) : ∃ ad , A = some ad ∧ w.cell? (ad.add (i.toNat * 7)) = some (.int .i64 (rd_T53 xs i).f0) ∧ w.cell? ⟨(ad.add (i.toNat * 7)).block, (ad.add (i.toNat * 7)).off + 1, none⟩ = some (.int .i64 (rd_T53 xs i).f1) ∧ w.cell? ⟨(ad.add (i.toNat * 7)).block, (ad.add (i.toNat * 7)).off + 2, none⟩ = some (.int .i64 (rd_T53 xs i).f2) ∧ w.cell? ⟨(ad.add (i.toNat * 7)).block, (ad.add (i.toNat * 7)).off + 3, none⟩ = some (.int .i64 (rd_T53 xs i).f3) ∧ w.cell? ⟨(ad.add (i.toNat * 7)).block, (ad.add (i.toNat * 7)).off + 4, none⟩ = some (.int .i64 (rd_T53 xs i).f4) ∧ w.cell? ⟨(ad.add (i.toNat * 7)).block, (ad.add (i.toNat * 7)).off + 5, none⟩ = some (.int .i64 (rd_T53 xs i).f5) ∧ w.cell? ⟨(ad.add (i.toNat * 7)).block, (ad.add (i.toNat * 7)).off + 6, none⟩ = some (.int .i64 (rd_T53 xs i).f6) := by
 obtain ⟨ad, c, e, _, hK, hc0⟩ := Kd.C_get h z53 i h0 h1
 have hc : ∀ j u, c[j]? = some u → w.cell? (ad.add (i.toNat * 7 + j)) = some u := hc0
 obtain rfl := k53_open hK
 exact ⟨ad, e, hc 0 _ rfl, by rw [← add_field _ _ 1 (by omega)]; exact hc 1 _ rfl, by rw [← add_field _ _ 2 (by omega)]; exact hc 2 _ rfl, by rw [← add_field _ _ 3 (by omega)]; exact hc 3 _ rfl, by rw [← add_field _ _ 4 (by omega)]; exact hc 4 _ rfl, by rw [← add_field _ _ 5 (by omega)]; exact hc 5 _ rfl, by rw [← add_field _ _ 6 (by omega)]; exact hc 6 _ rfl⟩
def rd_L6 (xs : List (List S53)) (i : Int) : (List S53) := xs.getD i.toNat ([] : List S53)
theorem at_L6 {w : World} {A : Option Addr} {n : Nat} {xs : List (List S53)} (h : Kd.C (Kd.slice 53 k53) w A n xs) (i : Int) (h0 : 0 ≤ i) (h1 : i < n) : ∃ ad A0 c0, A = some ad ∧ w.cell? (ad.add i.toNat) = some (.slice A0 (rd_L6 xs i).length c0) ∧ (rd_L6 xs i).length ≤ c0 ∧ k53.C w A0 (rd_L6 xs i).length (rd_L6 xs i) := by
 obtain ⟨ad, c, e, _, hK, hc0⟩ := Kd.C_get h ([] : List S53) i h0 h1
 have hc : ∀ j u, c[j]? = some u → w.cell? (ad.add (i.toNat * 1 + j)) = some u := hc0
 obtain ⟨A0, c0, rfl, l0, g0⟩ := hK
 exact ⟨ad, A0, c0, e, by have hq := hc 0 _ rfl; rwa [Nat.mul_one, Nat.add_zero] at hq, l0, g0⟩
structure S27 where
 f0 : Int
 f1 : Int
 f2 : Int
 f3 : S25
 f4 : S25
def z27 : S27 := ⟨(0 : Int), (0 : Int), (0 : Int), z25, z25⟩
def k27 : Kd S27 := Kd.iso (Kd.pair (Kd.int .i64) (Kd.pair (Kd.int .i64) (Kd.pair (Kd.int .i64) (Kd.pair k25 k25)))) (fun x : S27 => (x.f0, x.f1, x.f2, x.f3, x.f4))
theorem k27_open {w : World} {x : S27} {cs : List Value} (h : k27.K w x cs) : cs = [.int .i64 x.f0, .int .i64 x.f1, .int .i64 x.f2, .int .i64 x.f3.f0, .int .i64 x.f3.f1, .int .i64 x.f3.f2, .int .i64 x.f4.f0, .int .i64 x.f4.f1, .int .i64 x.f4.f2] := by
 obtain ⟨_, _, rfl, rfl, ⟨_, _, rfl, rfl, ⟨_, _, rfl, rfl, ⟨_, _, rfl, s3, s6⟩⟩⟩⟩ := h
 obtain rfl := k25_open s3
 obtain rfl := k25_open s6
 exact rfl
theorem k27_openM {w : World} {base : Nat} {ok : Nat → Prop} {x : S27} {cs : List Value} (h : k27.M w base ok x cs) : cs = [.int .i64 x.f0, .int .i64 x.f1, .int .i64 x.f2, .int .i64 x.f3.f0, .int .i64 x.f3.f1, .int .i64 x.f3.f2, .int .i64 x.f4.f0, .int .i64 x.f4.f1, .int .i64 x.f4.f2] := by
 obtain ⟨_, _, rfl, rfl, ⟨_, _, rfl, rfl, ⟨_, _, rfl, rfl, ⟨_, _, rfl, s3, s6⟩⟩⟩⟩ := h
 obtain rfl := k25_openM s3
 obtain rfl := k25_openM s6
 exact rfl
theorem k27_mk (w : World) (x : S27)  : k27.K w x [.int .i64 x.f0, .int .i64 x.f1, .int .i64 x.f2, .int .i64 x.f3.f0, .int .i64 x.f3.f1, .int .i64 x.f3.f2, .int .i64 x.f4.f0, .int .i64 x.f4.f1, .int .i64 x.f4.f2] := ⟨[.int .i64 x.f0], [.int .i64 x.f1, .int .i64 x.f2, .int .i64 x.f3.f0, .int .i64 x.f3.f1, .int .i64 x.f3.f2, .int .i64 x.f4.f0, .int .i64 x.f4.f1, .int .i64 x.f4.f2], rfl, rfl, ⟨[.int .i64 x.f1], [.int .i64 x.f2, .int .i64 x.f3.f0, .int .i64 x.f3.f1, .int .i64 x.f3.f2, .int .i64 x.f4.f0, .int .i64 x.f4.f1, .int .i64 x.f4.f2], rfl, rfl, ⟨[.int .i64 x.f2], [.int .i64 x.f3.f0, .int .i64 x.f3.f1, .int .i64 x.f3.f2, .int .i64 x.f4.f0, .int .i64 x.f4.f1, .int .i64 x.f4.f2], rfl, rfl, ⟨[.int .i64 x.f3.f0, .int .i64 x.f3.f1, .int .i64 x.f3.f2], [.int .i64 x.f4.f0, .int .i64 x.f4.f1, .int .i64 x.f4.f2], rfl, (k25_mk w x.f3 ), (k25_mk w x.f4 )⟩⟩⟩⟩
theorem k27_mkM (w : World) (base : Nat) (ok : Nat → Prop) (x : S27)  : k27.M w base ok x [.int .i64 x.f0, .int .i64 x.f1, .int .i64 x.f2, .int .i64 x.f3.f0, .int .i64 x.f3.f1, .int .i64 x.f3.f2, .int .i64 x.f4.f0, .int .i64 x.f4.f1, .int .i64 x.f4.f2] := ⟨[.int .i64 x.f0], [.int .i64 x.f1, .int .i64 x.f2, .int .i64 x.f3.f0, .int .i64 x.f3.f1, .int .i64 x.f3.f2, .int .i64 x.f4.f0, .int .i64 x.f4.f1, .int .i64 x.f4.f2], rfl, rfl, ⟨[.int .i64 x.f1], [.int .i64 x.f2, .int .i64 x.f3.f0, .int .i64 x.f3.f1, .int .i64 x.f3.f2, .int .i64 x.f4.f0, .int .i64 x.f4.f1, .int .i64 x.f4.f2], rfl, rfl, ⟨[.int .i64 x.f2], [.int .i64 x.f3.f0, .int .i64 x.f3.f1, .int .i64 x.f3.f2, .int .i64 x.f4.f0, .int .i64 x.f4.f1, .int .i64 x.f4.f2], rfl, rfl, ⟨[.int .i64 x.f3.f0, .int .i64 x.f3.f1, .int .i64 x.f3.f2], [.int .i64 x.f4.f0, .int .i64 x.f4.f1, .int .i64 x.f4.f2], rfl, (k25_mkM w base ok x.f3 ), (k25_mkM w base ok x.f4 )⟩⟩⟩⟩
def rd_T27 (xs : List S27) (i : Int) : S27 := xs.getD i.toNat z27
theorem at_T27 {w : World} {A : Option Addr} {n : Nat} {xs : List S27} (h : Kd.C k27 w A n xs) (i : Int) (h0 : 0 ≤ i) (h1 : i < n) : ∃ ad , A = some ad ∧ w.cell? (ad.add (i.toNat * 9)) = some (.int .i64 (rd_T27 xs i).f0) ∧ w.cell? ⟨(ad.add (i.toNat * 9)).block, (ad.add (i.toNat * 9)).off + 1, none⟩ = some (.int .i64 (rd_T27 xs i).f1) ∧ w.cell? ⟨(ad.add (i.toNat * 9)).block, (ad.add (i.toNat * 9)).off + 2, none⟩ = some (.int .i64 (rd_T27 xs i).f2) ∧ w.cell? ⟨(ad.add (i.toNat * 9)).block, (ad.add (i.toNat * 9)).off + 3, none⟩ = some (.int .i64 (rd_T27 xs i).f3.f0) ∧ w.cell? ⟨(ad.add (i.toNat * 9)).block, (ad.add (i.toNat * 9)).off + 4, none⟩ = some (.int .i64 (rd_T27 xs i).f3.f1) ∧ w.cell? ⟨(ad.add (i.toNat * 9)).block, (ad.add (i.toNat * 9)).off + 5, none⟩ = some (.int .i64 (rd_T27 xs i).f3.f2) ∧ w.cell? ⟨(ad.add (i.toNat * 9)).block, (ad.add (i.toNat * 9)).off + 6, none⟩ = some (.int .i64 (rd_T27 xs i).f4.f0) ∧ w.cell? ⟨(ad.add (i.toNat * 9)).block, (ad.add (i.toNat * 9)).off + 7, none⟩ = some (.int .i64 (rd_T27 xs i).f4.f1) ∧ w.cell? ⟨(ad.add (i.toNat * 9)).block, (ad.add (i.toNat * 9)).off + 8, none⟩ = some (.int .i64 (rd_T27 xs i).f4.f2) := by
 obtain ⟨ad, c, e, _, hK, hc0⟩ := Kd.C_get h z27 i h0 h1
 have hc : ∀ j u, c[j]? = some u → w.cell? (ad.add (i.toNat * 9 + j)) = some u := hc0
 obtain rfl := k27_open hK
 exact ⟨ad, e, hc 0 _ rfl, by rw [← add_field _ _ 1 (by omega)]; exact hc 1 _ rfl, by rw [← add_field _ _ 2 (by omega)]; exact hc 2 _ rfl, by rw [← add_field _ _ 3 (by omega)]; exact hc 3 _ rfl, by rw [← add_field _ _ 4 (by omega)]; exact hc 4 _ rfl, by rw [← add_field _ _ 5 (by omega)]; exact hc 5 _ rfl, by rw [← add_field _ _ 6 (by omega)]; exact hc 6 _ rfl, by rw [← add_field _ _ 7 (by omega)]; exact hc 7 _ rfl, by rw [← add_field _ _ 8 (by omega)]; exact hc 8 _ rfl⟩
def rd_L8 (xs : List (List S27)) (i : Int) : (List S27) := xs.getD i.toNat ([] : List S27)
theorem at_L8 {w : World} {A : Option Addr} {n : Nat} {xs : List (List S27)} (h : Kd.C (Kd.slice 27 k27) w A n xs) (i : Int) (h0 : 0 ≤ i) (h1 : i < n) : ∃ ad A0 c0, A = some ad ∧ w.cell? (ad.add i.toNat) = some (.slice A0 (rd_L8 xs i).length c0) ∧ (rd_L8 xs i).length ≤ c0 ∧ k27.C w A0 (rd_L8 xs i).length (rd_L8 xs i) := by
 obtain ⟨ad, c, e, _, hK, hc0⟩ := Kd.C_get h ([] : List S27) i h0 h1
 have hc : ∀ j u, c[j]? = some u → w.cell? (ad.add (i.toNat * 1 + j)) = some u := hc0
 obtain ⟨A0, c0, rfl, l0, g0⟩ := hK
 exact ⟨ad, A0, c0, e, by have hq := hc 0 _ rfl; rwa [Nat.mul_one, Nat.add_zero] at hq, l0, g0⟩
end Go.Proofs.Ytpmkibggmkibeaa.G
namespace Go.Proofs.Ytpmkibggmkibeaa.G
open Go.RowKit Go.Proofs.YtpmkibggmkibeaaW.PrintWords Go.Proofs.YtpmkibggmkibeaaW.PrintLast Go.Proofs.YtpmkibggmkibeaaW.PrintMore
def sesOk (l : List (S53)) (i : Nat) (last : Int) : Bool :=
 decide (1 ≤ (rd_T53 l (i : Int)).f0 ∧ (rd_T53 l (i : Int)).f0 ≤ 99 ∧ (0 < i → (rd_T53 l (i : Int)).f0 = (rd_T53 l ((i : Int) - 1)).f0 + 1) ∧ last ≤ (rd_T53 l (i : Int)).f2 ∧ (rd_T53 l (i : Int)).f2 ≤ 449849 ∧ 1 ≤ (rd_T53 l (i : Int)).f3 ∧ (rd_T53 l (i : Int)).f3 ≤ 449849 ∧ (rd_T53 l (i : Int)).f2 + (rd_T53 l (i : Int)).f3 ≤ 449849)
def sesGo (l : List (S53)) : Nat → Nat → Int → Bool
 | 0, _, _ => true
 | d + 1, i, last => sesOk l i last && sesGo l d (i + 1) ((rd_T53 l (i : Int)).f2 + (rd_T53 l (i : Int)).f3)
def sesB (l : List (S53)) : Bool := decide (1 ≤ l.length ∧ l.length ≤ 99) && sesGo l l.length 0 0
structure Ses (l : List (S53)) : Prop where
 one : 1 ≤ l.length
 most : l.length ≤ 99
 num : ∀ i, i < l.length → 1 ≤ (rd_T53 l (i : Int)).f0 ∧ (rd_T53 l (i : Int)).f0 ≤ 99
 next : ∀ i, 0 < i → i < l.length → (rd_T53 l (i : Int)).f0 = (rd_T53 l ((i : Int) - 1)).f0 + 1
 start : ∀ i, i < l.length → 0 ≤ (rd_T53 l (i : Int)).f2 ∧ (rd_T53 l (i : Int)).f2 ≤ 449849
 behind : ∀ i, 0 < i → i < l.length → (rd_T53 l ((i : Int) - 1)).f2 + (rd_T53 l ((i : Int) - 1)).f3 ≤ (rd_T53 l (i : Int)).f2
 len : ∀ i, i < l.length → 1 ≤ (rd_T53 l (i : Int)).f3 ∧ (rd_T53 l (i : Int)).f3 ≤ 449849 ∧ (rd_T53 l (i : Int)).f2 + (rd_T53 l (i : Int)).f3 ≤ 449849
theorem sesGo_all (l : List (S53)) (d : Nat) : ∀ (i : Nat) (last : Int), sesGo l d i last = true → ∀ j, i ≤ j → j < i + d → ∃ la, sesOk l j la = true ∧ (j = i → la = last) ∧ (i < j → la = (rd_T53 l ((j : Int) - 1)).f2 + (rd_T53 l ((j : Int) - 1)).f3) := by
 induction d with
 | zero => intro i last _ j h1 h2; omega
 | succ d ih =>
  intro i last h j h1 h2
  simp only [sesGo, Bool.and_eq_true] at h
  by_cases e : j = i
  · subst e
    exact ⟨last, h.1, fun _ => rfl, fun h => absurd h (by omega)⟩
  · obtain ⟨la, a1, a2, a3⟩ := ih (i + 1) _ h.2 j (by omega) (by omega)
    refine ⟨la, a1, fun h => absurd h e, fun _ => ?_⟩
    by_cases e2 : j = i + 1
    · subst e2
      rw [a2 rfl, show (((i + 1 : Nat) : Int) - 1) = (i : Int) by omega]
    · exact a3 (by omega)
theorem ses_of {l : List (S53)} (h : sesB l = true) : Ses l := by
 simp only [sesB, Bool.and_eq_true, decide_eq_true_eq] at h
 obtain ⟨⟨h1, h2⟩, h3⟩ := h
 have key : ∀ i, i < l.length → ∃ la, sesOk l i la = true ∧ (i = 0 → la = 0) ∧ (0 < i → la = (rd_T53 l ((i : Int) - 1)).f2 + (rd_T53 l ((i : Int) - 1)).f3) := fun i hi => sesGo_all l l.length 0 0 h3 i (by omega) (by omega)
 have ok : ∀ i, i < l.length → ∃ la : Int, (1 ≤ (rd_T53 l (i : Int)).f0 ∧ (rd_T53 l (i : Int)).f0 ≤ 99 ∧ (0 < i → (rd_T53 l (i : Int)).f0 = (rd_T53 l ((i : Int) - 1)).f0 + 1) ∧ la ≤ (rd_T53 l (i : Int)).f2 ∧ (rd_T53 l (i : Int)).f2 ≤ 449849 ∧ 1 ≤ (rd_T53 l (i : Int)).f3 ∧ (rd_T53 l (i : Int)).f3 ≤ 449849 ∧ (rd_T53 l (i : Int)).f2 + (rd_T53 l (i : Int)).f3 ≤ 449849) ∧ (i = 0 → la = 0) ∧ (0 < i → la = (rd_T53 l ((i : Int) - 1)).f2 + (rd_T53 l ((i : Int) - 1)).f3) := by
  intro i hi
  obtain ⟨la, a1, a2, a3⟩ := key i hi
  simp only [sesOk, decide_eq_true_eq] at a1
  exact ⟨la, a1, a2, a3⟩
 have st : ∀ i, i < l.length → 0 ≤ (rd_T53 l (i : Int)).f2 := by
  intro i
  induction i with
  | zero => intro hi; obtain ⟨la, a1, a2, a3⟩ := ok 0 hi; have := a2 rfl; omega
  | succ i ih =>
   intro hi
   obtain ⟨la, a1, a2, a3⟩ := ok (i + 1) hi
   obtain ⟨lb, b1, -, -⟩ := ok i (by omega)
   have h5 := a3 (by omega)
   rw [show (((i + 1 : Nat) : Int) - 1) = (i : Int) by omega] at h5
   have := ih (by omega)
   omega
 refine ⟨h1, h2, fun i hi => ?_, fun i h0 hi => ?_, fun i hi => ?_, fun i h0 hi => ?_, fun i hi => ?_⟩
 · obtain ⟨la, a1, -, -⟩ := ok i hi; exact ⟨a1.1, a1.2.1⟩
 · obtain ⟨la, a1, -, -⟩ := ok i hi; exact a1.2.2.1 h0
 · obtain ⟨la, a1, -, -⟩ := ok i hi; exact ⟨st i hi, a1.2.2.2.2.1⟩
 · obtain ⟨la, a1, -, a3⟩ := ok i hi; rw [← a3 h0]; exact a1.2.2.2.1
 · obtain ⟨la, a1, -, -⟩ := ok i hi; exact ⟨a1.2.2.2.2.2.1, a1.2.2.2.2.2.2.1, a1.2.2.2.2.2.2.2⟩
def lastE (l : List (S53)) : Int := (rd_T53 l ((l.length : Int) - 1)).f2 + (rd_T53 l ((l.length : Int) - 1)).f3
end Go.Proofs.Ytpmkibggmkibeaa.G
namespace Go.Proofs.Ytpmkibggmkibeaa.G
open Go.RowKit Go.Proofs.YtpmkibggmkibeaaW.PrintWords Go.Proofs.YtpmkibggmkibeaaW.PrintLast Go.Proofs.YtpmkibggmkibeaaW.PrintMore
attribute [local go_sem] max2_int min2_int max_two min_two max_three min_three max_four min_four   -- for this text's walks alone
set_option linter.unusedVariables false
set_option linter.unusedSimpArgs false
def subchannel_between.f (a0 : Int) (a1 : Int) (a2 : Int) : Option (Bool) := if a0 ≥ a1 then (some (decide (a0 ≤ a2))) else (some false)
set_option maxHeartbeats 8000000 in
set_option maxRecDepth 100000 in
theorem subchannel_between.calls (a0 : Int) (a1 : Int) (a2 : Int) (r : Bool) (w : World) (h : subchannel_between.f a0 a1 a2 = some r) :
 Calls Try.prog 26 #[.int .i64 a0, .int .i64 a1, .int .i64 a2] w fun e w' => e = .returned (.bool r) ∧ Drawn0 w w' := by
 have H : (if a0 ≥ a1 then (some (decide (a0 ≤ a2))) else (some false)) = some r := h
 clear h
 by_cases c4 : a0 ≥ a1
 · rw [if_pos c4] at H
   have c4b0 : decide (a1 ≤ a0) = true := decide_eq_true c4
   clear c4
   obtain rfl := Option.some.inj H
   go_enter Try.func26, Try.ntmps26
   go_wp2
   go_ret
   exact ⟨by first | rfl | (simp; done) | (simp [*]; done), by repeat (first | exact Drawn0.refl _ | apply Drawn0.step)⟩
 · rw [if_neg c4] at H
   have c4b0 : decide (a1 ≤ a0) = false := decide_eq_false c4
   clear c4
   obtain rfl := Option.some.inj H
   go_enter Try.func26, Try.ntmps26
   go_wp2
   go_ret
   exact ⟨by first | rfl | (simp; done) | (simp [*]; done), by repeat (first | exact Drawn0.refl _ | apply Drawn0.step)⟩
end Go.Proofs.Ytpmkibggmkibeaa.G
namespace Go.Proofs.Ytpmkibggmkibeaa.G
open Go.RowKit Go.Proofs.YtpmkibggmkibeaaW.PrintWords Go.Proofs.YtpmkibggmkibeaaW.PrintLast Go.Proofs.YtpmkibggmkibeaaW.PrintMore
attribute [local go_sem] max2_int min2_int max_two min_two max_three min_three max_four min_four   -- for this text's walks alone
set_option linter.unusedVariables false
set_option linter.unusedSimpArgs false
def subchannel_end.f (a0_0 : Int) (a0_1 : Int) (a0_2 : Int) (a0_3 : Int) (a0_4 : Int) (a0_5 : Int) (a0_6 : Int) : Option (Int) := some (wrap64 (a0_2 + a0_3))
set_option maxHeartbeats 8000000 in
set_option maxRecDepth 100000 in
theorem subchannel_end.calls (a0_0 : Int) (a0_1 : Int) (a0_2 : Int) (a0_3 : Int) (a0_4 : Int) (a0_5 : Int) (a0_6 : Int) (r : Int) (w : World) (h : subchannel_end.f a0_0 a0_1 a0_2 a0_3 a0_4 a0_5 a0_6 = some r) :
 Calls Try.prog 30 #[.agg #[.int .i64 a0_0, .int .i64 a0_1, .int .i64 a0_2, .int .i64 a0_3, .int .i64 a0_4, .int .i64 a0_5, .int .i64 a0_6]] w fun e w' => e = .returned (.int .i64 r) ∧ Below w.heap.size w w' := by
 have hu53 := Try.underlying53
 have HB := Aside0.mk (Below.refl w.heap.size w)
 have H : (some (wrap64 (a0_2 + a0_3))) = some r := h
 clear h
 obtain rfl := Option.some.inj H
 go_enter Try.func30, Try.ntmps30
 go_wp2_with (first | ((with_reducible refine gate_dst (N := 1) rfl ?_); refine box_event ?hg (N := 1) ?hd (cs := #[.int .i64 a0_0, .int .i64 a0_1, .int .i64 a0_2, .int .i64 a0_3, .int .i64 a0_4, .int .i64 a0_5, .int .i64 a0_6]) (t := 53) ?hr ?_; (case hd => rfl); (case hg => rfl); (case hr => first | (go_simp; done) | (go_simp; rfl)); intro gb113 hg w2 hbox hb; have n0_ := Aside0.mk (below_step (by repeat (first | (with_reducible first | exact HB.out | apply below_alloc | apply pw_below_drewN | apply below_drew1) | exact HB.out)) hb); have n1_ := Aside0.mk (hbox); have n2_ := Aside0.mk ((by rw [hg]; exact (below_size (by repeat (first | (with_reducible first | exact HB.out | apply below_alloc | apply pw_below_drewN | apply below_drew1) | exact HB.out))) : w.heap.size ≤ gb113)); have n3_ := Aside0.mk ((by rw [hg]; exact (below_size (by repeat (first | (with_reducible first | exact HB.out | apply below_alloc | apply pw_below_drewN | apply below_drew1) | exact HB.out))) : w.heap.size ≤ gb113)); clear HB; have HB := n0_; have BK113 := n1_; have GW113 := n2_; have GE113 := n3_; clear n0_ n1_ n2_ n3_; clear hb hbox hg; obtain ⟨hcz3_0, hcz3_1, hcz3_2, hcz3_3, hcz3_4, hcz3_5, hcz3_6⟩ := cel7 BK113.out; obtain ⟨hfz3_0, hfz3_1, hfz3_2, hfz3_3, hfz3_4, hfz3_5, hfz3_6⟩ := frz7 BK113.out))
 go_ret
 exact ⟨by first | rfl | (simp [errW_none, errW_some] <;> rfl) | (simp [*, errW_none, errW_some] <;> rfl), by repeat (first | (with_reducible first | exact HB.out | apply below_alloc | apply pw_below_drewN | apply below_drew1 | refine below_set ?_ GE113.out) | exact HB.out)⟩
end Go.Proofs.Ytpmkibggmkibeaa.G
