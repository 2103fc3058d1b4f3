/- Texts of one claim, merged by a program of this session; what is proved stands in the last of them. -/
import Derived.ArgAppend
import Derived.Below
import Derived.BigQuiet
import Derived.Deep.AppendLies
import Derived.Deep.CutBlock
import Derived.Deep.DeepCutAuto
import Derived.Deep.Draws
import Derived.Deep.LoopGhost
import Derived.Deep.OwnRows
import Derived.Deep.QuietTactic
import Derived.Deep.RegionHeld3
import Derived.KernelRfl
import Derived.Laws.BitsLemmas
import Derived.Laws.BytesArg
import Derived.Laws.IdiomCopy
import Derived.Laws.MakeOwn
import Derived.Laws.OwnMore
import Derived.Laws.Rows
import Derived.Laws.Slices
import Derived.Lib.AppendStr
import Derived.Lib.ConvBytes
import Derived.Lib.SliceRun
import Derived.Maps.AppendAt
import Derived.OrdersHeld
import Derived.Outline
import Derived.OwnWalk
import Derived.RowKit
import Derived.RowKit3
import Derived.StillTailTactics
import Derived.Tactics
import Derived.WalkKit
import Derived.WideLaws
import Derived.Test.YtjhepdcdhabcjaaKc0
import Derived.Test.YtjhepdcdhabcjaaProg
namespace Go.Proofs.Ytjhepdcdhabcjaa.G
open Go.RowKit Go.Proofs.YtjhepdcdhabcjaaW.PrintWords Go.Proofs.YtjhepdcdhabcjaaW.PrintLast Go.Proofs.YtjhepdcdhabcjaaW.PrintMore
attribute [local go_sem] max2_int min2_int max_two min_two max_three min_three max_four min_four   -- for this text's walks alone
set_option linter.unusedVariables false
set_option linter.unusedSimpArgs false
def errW : Option Int → Value
 | none => .nilIface
 | some c => .iface 0 (.int .i64 c)
theorem errW_none : errW none = .nilIface := rfl
theorem errW_some (c : Int) : errW (some c) = .iface 0 (.int .i64 c) := rfl
theorem info3 : (Try.prog.info? 3).map (fun i => (i.zero, i.size, i.bytes)) = some (some (.int .i64 0), 1, 8) := by kernel_rfl
theorem info4 : (Try.prog.info? 4).map (fun i => (i.zero, i.size, i.bytes)) = some (some (.bool false), 1, 1) := by kernel_rfl
theorem info40 : (Try.prog.info? 40).map (fun i => (i.zero, i.size, i.bytes)) = some (some (.agg #[(.int .i64 0), (.int .i64 0), (.int .i64 0), (.int .i64 0), (.int .i64 0), (.int .i64 0), (.int .i64 0)]), 7, 56) := by kernel_rfl
theorem info46 : (Try.prog.info? 46).map (fun i => (i.zero, i.size, i.bytes)) = some (some (.agg #[(.int .i64 0), (.int .i64 0), (.bool false)]), 3, 24) := by kernel_rfl
structure S40 where
 f0 : Int
 f1 : Int
 f2 : Int
 f3 : Int
 f4 : Int
 f5 : Int
 f6 : Int
def z40 : S40 := ⟨(0 : Int), (0 : Int), (0 : Int), (0 : Int), (0 : Int), (0 : Int), (0 : Int)⟩
def k40 : Kd S40 := Kd.iso (Kd.pair (Kd.int .i64) (Kd.pair (Kd.int .i64) (Kd.pair (Kd.int .i64) (Kd.pair (Kd.int .i64) (Kd.pair (Kd.int .i64) (Kd.pair (Kd.int .i64) (Kd.int .i64))))))) (fun x : S40 => (x.f0, x.f1, x.f2, x.f3, x.f4, x.f5, x.f6))
theorem k40_open {w : World} {x : S40} {cs : List Value} (h : k40.K w x cs) : cs = [.int .i64 x.f0, .int .i64 x.f1, .int .i64 x.f2, .int .i64 x.f3, .int .i64 x.f4, .int .i64 x.f5, .int .i64 x.f6] := by
 obtain ⟨_, _, rfl, rfl, ⟨_, _, rfl, rfl, ⟨_, _, rfl, rfl, ⟨_, _, rfl, rfl, ⟨_, _, rfl, rfl, ⟨_, _, rfl, rfl, rfl⟩⟩⟩⟩⟩⟩ := h
 exact rfl
theorem k40_openM {w : World} {base : Nat} {ok : Nat → Prop} {x : S40} {cs : List Value} (h : k40.M w base ok x cs) : cs = [.int .i64 x.f0, .int .i64 x.f1, .int .i64 x.f2, .int .i64 x.f3, .int .i64 x.f4, .int .i64 x.f5, .int .i64 x.f6] := by
 obtain ⟨_, _, rfl, rfl, ⟨_, _, rfl, rfl, ⟨_, _, rfl, rfl, ⟨_, _, rfl, rfl, ⟨_, _, rfl, rfl, ⟨_, _, rfl, rfl, rfl⟩⟩⟩⟩⟩⟩ := h
 exact rfl
theorem k40_mk (w : World) (x : S40)  : k40.K w x [.int .i64 x.f0, .int .i64 x.f1, .int .i64 x.f2, .int .i64 x.f3, .int .i64 x.f4, .int .i64 x.f5, .int .i64 x.f6] := ⟨[.int .i64 x.f0], [.int .i64 x.f1, .int .i64 x.f2, .int .i64 x.f3, .int .i64 x.f4, .int .i64 x.f5, .int .i64 x.f6], rfl, rfl, ⟨[.int .i64 x.f1], [.int .i64 x.f2, .int .i64 x.f3, .int .i64 x.f4, .int .i64 x.f5, .int .i64 x.f6], rfl, rfl, ⟨[.int .i64 x.f2], [.int .i64 x.f3, .int .i64 x.f4, .int .i64 x.f5, .int .i64 x.f6], rfl, rfl, ⟨[.int .i64 x.f3], [.int .i64 x.f4, .int .i64 x.f5, .int .i64 x.f6], rfl, rfl, ⟨[.int .i64 x.f4], [.int .i64 x.f5, .int .i64 x.f6], rfl, rfl, ⟨[.int .i64 x.f5], [.int .i64 x.f6], rfl, rfl, rfl⟩⟩⟩⟩⟩⟩
theorem k40_mkM (w : World) (base : Nat) (ok : Nat → Prop) (x : S40)  : k40.M w base ok x [.int .i64 x.f0, .int .i64 x.f1, .int .i64 x.f2, .int .i64 x.f3, .int .i64 x.f4, .int .i64 x.f5, .int .i64 x.f6] := ⟨[.int .i64 x.f0], [.int .i64 x.f1, .int .i64 x.f2, .int .i64 x.f3, .int .i64 x.f4, .int .i64 x.f5, .int .i64 x.f6], rfl, rfl, ⟨[.int .i64 x.f1], [.int .i64 x.f2, .int .i64 x.f3, .int .i64 x.f4, .int .i64 x.f5, .int .i64 x.f6], rfl, rfl, ⟨[.int .i64 x.f2], [.int .i64 x.f3, .int .i64 x.f4, .int .i64 x.f5, .int .i64 x.f6], rfl, rfl, ⟨[.int .i64 x.f3], [.int .i64 x.f4, .int .i64 x.f5, .int .i64 x.f6], rfl, rfl, ⟨[.int .i64 x.f4], [.int .i64 x.f5, .int .i64 x.f6], rfl, rfl, ⟨[.int .i64 x.f5], [.int .i64 x.f6], rfl, rfl, rfl⟩⟩⟩⟩⟩⟩
def rd_T40 (xs : List S40) (i : Int) : S40 := xs.getD i.toNat z40
theorem at_T40 {w : World} {A : Option Addr} {n : Nat} {xs : List S40} (h : Kd.C k40 w A n xs) (i : Int) (h0 : 0 ≤ i) (h1 : i < n) : ∃ ad , A = some ad ∧ w.cell? (ad.add (i.toNat * 7)) = some (.int .i64 (rd_T40 xs i).f0) ∧ w.cell? ⟨(ad.add (i.toNat * 7)).block, (ad.add (i.toNat * 7)).off + 1, none⟩ = some (.int .i64 (rd_T40 xs i).f1) ∧ w.cell? ⟨(ad.add (i.toNat * 7)).block, (ad.add (i.toNat * 7)).off + 2, none⟩ = some (.int .i64 (rd_T40 xs i).f2) ∧ w.cell? ⟨(ad.add (i.toNat * 7)).block, (ad.add (i.toNat * 7)).off + 3, none⟩ = some (.int .i64 (rd_T40 xs i).f3) ∧ w.cell? ⟨(ad.add (i.toNat * 7)).block, (ad.add (i.toNat * 7)).off + 4, none⟩ = some (.int .i64 (rd_T40 xs i).f4) ∧ w.cell? ⟨(ad.add (i.toNat * 7)).block, (ad.add (i.toNat * 7)).off + 5, none⟩ = some (.int .i64 (rd_T40 xs i).f5) ∧ w.cell? ⟨(ad.add (i.toNat * 7)).block, (ad.add (i.toNat * 7)).off + 6, none⟩ = some (.int .i64 (rd_T40 xs i).f6) := by
 obtain ⟨ad, c, e, _, hK, hc0⟩ := Kd.C_get h z40 i h0 h1
 have hc : ∀ j u, c[j]? = some u → w.cell? (ad.add (i.toNat * 7 + j)) = some u := hc0
 obtain rfl := k40_open hK
 exact ⟨ad, e, hc 0 _ rfl, by rw [← add_field _ _ 1 (by omega)]; exact hc 1 _ rfl, by rw [← add_field _ _ 2 (by omega)]; exact hc 2 _ rfl, by rw [← add_field _ _ 3 (by omega)]; exact hc 3 _ rfl, by rw [← add_field _ _ 4 (by omega)]; exact hc 4 _ rfl, by rw [← add_field _ _ 5 (by omega)]; exact hc 5 _ rfl, by rw [← add_field _ _ 6 (by omega)]; exact hc 6 _ rfl⟩
def rd_L3 (xs : List (List S40)) (i : Int) : (List S40) := xs.getD i.toNat ([] : List S40)
theorem at_L3 {w : World} {A : Option Addr} {n : Nat} {xs : List (List S40)} (h : Kd.C (Kd.slice 40 k40) w A n xs) (i : Int) (h0 : 0 ≤ i) (h1 : i < n) : ∃ ad A0 c0, A = some ad ∧ w.cell? (ad.add i.toNat) = some (.slice A0 (rd_L3 xs i).length c0) ∧ (rd_L3 xs i).length ≤ c0 ∧ k40.C w A0 (rd_L3 xs i).length (rd_L3 xs i) := by
 obtain ⟨ad, c, e, _, hK, hc0⟩ := Kd.C_get h ([] : List S40) i h0 h1
 have hc : ∀ j u, c[j]? = some u → w.cell? (ad.add (i.toNat * 1 + j)) = some u := hc0
 obtain ⟨A0, c0, rfl, l0, g0⟩ := hK
 exact ⟨ad, A0, c0, e, by have hq := hc 0 _ rfl; rwa [Nat.mul_one, Nat.add_zero] at hq, l0, g0⟩
structure S24 where
 f0 : Int
 f1 : Bool
 f2 : (List S40)
def z24 : S24 := ⟨(0 : Int), false, ([] : List S40)⟩
def k24 : Kd S24 := Kd.iso (Kd.pair (Kd.int .i64) (Kd.pair Kd.bool (Kd.slice 40 k40))) (fun x : S24 => (x.f0, x.f1, x.f2))
theorem k24_open {w : World} {x : S24} {cs : List Value} (h : k24.K w x cs) : ∃ A2 c2, cs = [.int .i64 x.f0, .bool x.f1, .slice A2 x.f2.length c2] ∧ x.f2.length ≤ c2 ∧ k40.C w A2 x.f2.length x.f2 := by
 obtain ⟨_, _, rfl, rfl, ⟨_, _, rfl, rfl, ⟨A2, c2, rfl, l2, g2⟩⟩⟩ := h
 exact ⟨A2, c2, rfl, l2, g2⟩
theorem k24_openM {w : World} {base : Nat} {ok : Nat → Prop} {x : S24} {cs : List Value} (h : k24.M w base ok x cs) : ∃ v2, cs = [.int .i64 x.f0, .bool x.f1, v2] ∧ k40.R 40 w base ok v2 x.f2 := by
 obtain ⟨_, _, rfl, rfl, ⟨_, _, rfl, rfl, ⟨v2, rfl, g2⟩⟩⟩ := h
 exact ⟨v2, rfl, g2⟩
theorem k24_mk (w : World) (x : S24) {A2 : Option Addr} {c2 : Nat} (l2 : x.f2.length ≤ c2) (g2 : k40.C w A2 x.f2.length x.f2) : k24.K w x [.int .i64 x.f0, .bool x.f1, .slice A2 x.f2.length c2] := ⟨[.int .i64 x.f0], [.bool x.f1, .slice A2 x.f2.length c2], rfl, rfl, ⟨[.bool x.f1], [.slice A2 x.f2.length c2], rfl, rfl, ⟨A2, c2, rfl, l2, g2⟩⟩⟩
theorem k24_mkM (w : World) (base : Nat) (ok : Nat → Prop) (x : S24) {v2 : Value} (g2 : k40.R 40 w base ok v2 x.f2) : k24.M w base ok x [.int .i64 x.f0, .bool x.f1, v2] := ⟨[.int .i64 x.f0], [.bool x.f1, v2], rfl, rfl, ⟨[.bool x.f1], [v2], rfl, rfl, ⟨v2, rfl, g2⟩⟩⟩
def rd_T24 (xs : List S24) (i : Int) : S24 := xs.getD i.toNat z24
theorem at_T24 {w : World} {A : Option Addr} {n : Nat} {xs : List S24} (h : Kd.C k24 w A n xs) (i : Int) (h0 : 0 ≤ i) (h1 : i < n) : ∃ ad A2 c2, A = some ad ∧ w.cell? (ad.add (i.toNat * 3)) = some (.int .i64 (rd_T24 xs i).f0) ∧ w.cell? ⟨(ad.add (i.toNat * 3)).block, (ad.add (i.toNat * 3)).off + 1, none⟩ = some (.bool (rd_T24 xs i).f1) ∧ w.cell? ⟨(ad.add (i.toNat * 3)).block, (ad.add (i.toNat * 3)).off + 2, none⟩ = some (.slice A2 (rd_T24 xs i).f2.length c2) ∧ (rd_T24 xs i).f2.length ≤ c2 ∧ k40.C w A2 (rd_T24 xs i).f2.length (rd_T24 xs i).f2 := by
 obtain ⟨ad, c, e, _, hK, hc0⟩ := Kd.C_get h z24 i h0 h1
 have hc : ∀ j u, c[j]? = some u → w.cell? (ad.add (i.toNat * 3 + j)) = some u := hc0
 obtain ⟨A2, c2, rfl, l2, g2⟩ := k24_open hK
 exact ⟨ad, A2, c2, e, hc 0 _ rfl, by rw [← add_field _ _ 1 (by omega)]; exact hc 1 _ rfl, by rw [← add_field _ _ 2 (by omega)]; exact hc 2 _ rfl, l2, g2⟩
structure S26 where
 f0 : Int
 f1 : Int
 f2 : Int
 f3 : Bool
def z26 : S26 := ⟨(0 : Int), (0 : Int), (0 : Int), false⟩
def k26 : Kd S26 := Kd.iso (Kd.pair (Kd.int .i64) (Kd.pair (Kd.int .i64) (Kd.pair (Kd.int .i64) Kd.bool))) (fun x : S26 => (x.f0, x.f1, x.f2, x.f3))
theorem k26_open {w : World} {x : S26} {cs : List Value} (h : k26.K w x cs) : cs = [.int .i64 x.f0, .int .i64 x.f1, .int .i64 x.f2, .bool x.f3] := by
 obtain ⟨_, _, rfl, rfl, ⟨_, _, rfl, rfl, ⟨_, _, rfl, rfl, rfl⟩⟩⟩ := h
 exact rfl
theorem k26_openM {w : World} {base : Nat} {ok : Nat → Prop} {x : S26} {cs : List Value} (h : k26.M w base ok x cs) : cs = [.int .i64 x.f0, .int .i64 x.f1, .int .i64 x.f2, .bool x.f3] := by
 obtain ⟨_, _, rfl, rfl, ⟨_, _, rfl, rfl, ⟨_, _, rfl, rfl, rfl⟩⟩⟩ := h
 exact rfl
theorem k26_mk (w : World) (x : S26)  : k26.K w x [.int .i64 x.f0, .int .i64 x.f1, .int .i64 x.f2, .bool x.f3] := ⟨[.int .i64 x.f0], [.int .i64 x.f1, .int .i64 x.f2, .bool x.f3], rfl, rfl, ⟨[.int .i64 x.f1], [.int .i64 x.f2, .bool x.f3], rfl, rfl, ⟨[.int .i64 x.f2], [.bool x.f3], rfl, rfl, rfl⟩⟩⟩
theorem k26_mkM (w : World) (base : Nat) (ok : Nat → Prop) (x : S26)  : k26.M w base ok x [.int .i64 x.f0, .int .i64 x.f1, .int .i64 x.f2, .bool x.f3] := ⟨[.int .i64 x.f0], [.int .i64 x.f1, .int .i64 x.f2, .bool x.f3], rfl, rfl, ⟨[.int .i64 x.f1], [.int .i64 x.f2, .bool x.f3], rfl, rfl, ⟨[.int .i64 x.f2], [.bool x.f3], rfl, rfl, rfl⟩⟩⟩
def rd_T26 (xs : List S26) (i : Int) : S26 := xs.getD i.toNat z26
theorem at_T26 {w : World} {A : Option Addr} {n : Nat} {xs : List S26} (h : Kd.C k26 w A n xs) (i : Int) (h0 : 0 ≤ i) (h1 : i < n) : ∃ ad , A = some ad ∧ w.cell? (ad.add (i.toNat * 4)) = some (.int .i64 (rd_T26 xs i).f0) ∧ w.cell? ⟨(ad.add (i.toNat * 4)).block, (ad.add (i.toNat * 4)).off + 1, none⟩ = some (.int .i64 (rd_T26 xs i).f1) ∧ w.cell? ⟨(ad.add (i.toNat * 4)).block, (ad.add (i.toNat * 4)).off + 2, none⟩ = some (.int .i64 (rd_T26 xs i).f2) ∧ w.cell? ⟨(ad.add (i.toNat * 4)).block, (ad.add (i.toNat * 4)).off + 3, none⟩ = some (.bool (rd_T26 xs i).f3) := by
 obtain ⟨ad, c, e, _, hK, hc0⟩ := Kd.C_get h z26 i h0 h1
 have hc : ∀ j u, c[j]? = some u → w.cell? (ad.add (i.toNat * 4 + j)) = some u := hc0
 obtain rfl := k26_open hK
 exact ⟨ad, e, hc 0 _ rfl, by rw [← add_field _ _ 1 (by omega)]; exact hc 1 _ rfl, by rw [← add_field _ _ 2 (by omega)]; exact hc 2 _ rfl, by rw [← add_field _ _ 3 (by omega)]; exact hc 3 _ rfl⟩
structure S46 where
 f0 : Int
 f1 : Int
 f2 : Bool
def z46 : S46 := ⟨(0 : Int), (0 : Int), false⟩
def k46 : Kd S46 := Kd.iso (Kd.pair (Kd.int .i64) (Kd.pair (Kd.int .i64) Kd.bool)) (fun x : S46 => (x.f0, x.f1, x.f2))
theorem k46_open {w : World} {x : S46} {cs : List Value} (h : k46.K w x cs) : cs = [.int .i64 x.f0, .int .i64 x.f1, .bool x.f2] := by
 obtain ⟨_, _, rfl, rfl, ⟨_, _, rfl, rfl, rfl⟩⟩ := h
 exact rfl
theorem k46_openM {w : World} {base : Nat} {ok : Nat → Prop} {x : S46} {cs : List Value} (h : k46.M w base ok x cs) : cs = [.int .i64 x.f0, .int .i64 x.f1, .bool x.f2] := by
 obtain ⟨_, _, rfl, rfl, ⟨_, _, rfl, rfl, rfl⟩⟩ := h
 exact rfl
theorem k46_mk (w : World) (x : S46)  : k46.K w x [.int .i64 x.f0, .int .i64 x.f1, .bool x.f2] := ⟨[.int .i64 x.f0], [.int .i64 x.f1, .bool x.f2], rfl, rfl, ⟨[.int .i64 x.f1], [.bool x.f2], rfl, rfl, rfl⟩⟩
theorem k46_mkM (w : World) (base : Nat) (ok : Nat → Prop) (x : S46)  : k46.M w base ok x [.int .i64 x.f0, .int .i64 x.f1, .bool x.f2] := ⟨[.int .i64 x.f0], [.int .i64 x.f1, .bool x.f2], rfl, rfl, ⟨[.int .i64 x.f1], [.bool x.f2], rfl, rfl, rfl⟩⟩
def rd_T46 (xs : List S46) (i : Int) : S46 := xs.getD i.toNat z46
theorem at_T46 {w : World} {A : Option Addr} {n : Nat} {xs : List S46} (h : Kd.C k46 w A n xs) (i : Int) (h0 : 0 ≤ i) (h1 : i < n) : ∃ ad , A = some ad ∧ w.cell? (ad.add (i.toNat * 3)) = some (.int .i64 (rd_T46 xs i).f0) ∧ w.cell? ⟨(ad.add (i.toNat * 3)).block, (ad.add (i.toNat * 3)).off + 1, none⟩ = some (.int .i64 (rd_T46 xs i).f1) ∧ w.cell? ⟨(ad.add (i.toNat * 3)).block, (ad.add (i.toNat * 3)).off + 2, none⟩ = some (.bool (rd_T46 xs i).f2) := by
 obtain ⟨ad, c, e, _, hK, hc0⟩ := Kd.C_get h z46 i h0 h1
 have hc : ∀ j u, c[j]? = some u → w.cell? (ad.add (i.toNat * 3 + j)) = some u := hc0
 obtain rfl := k46_open hK
 exact ⟨ad, e, hc 0 _ rfl, by rw [← add_field _ _ 1 (by omega)]; exact hc 1 _ rfl, by rw [← add_field _ _ 2 (by omega)]; exact hc 2 _ rfl⟩
end Go.Proofs.Ytjhepdcdhabcjaa.G
namespace Go.Proofs.Ytjhepdcdhabcjaa.G
open Go.RowKit Go.Proofs.YtjhepdcdhabcjaaW.PrintWords Go.Proofs.YtjhepdcdhabcjaaW.PrintLast Go.Proofs.YtjhepdcdhabcjaaW.PrintMore
attribute [local go_sem] max2_int min2_int max_two min_two max_three min_three max_four min_four   -- for this text's walks alone
set_option linter.unusedVariables false
set_option linter.unusedSimpArgs false
def toc_rules_1.f (l0 : List (S40)) (a1_0 : Int) (a1_1 : Int) (a1_2 : Int) (a1_3 : Int) (a1_4 : Int) (a1_5 : Int) (a1_6 : Int) : Option (Bool) := some (a1_0 == (wrap64 ((l0.length : Int) + 1)))
set_option maxHeartbeats 8000000 in
set_option maxRecDepth 100000 in
theorem toc_rules_1.calls (A0 : Option Addr) (c0 : Nat) (l0 : List (S40)) (a1_0 : Int) (a1_1 : Int) (a1_2 : Int) (a1_3 : Int) (a1_4 : Int) (a1_5 : Int) (a1_6 : Int) (r : Bool) (w : World) (hr0 : Kd.C k40 w A0 l0.length l0) (hc0 : l0.length ≤ c0) (h : toc_rules_1.f l0 a1_0 a1_1 a1_2 a1_3 a1_4 a1_5 a1_6 = some r) :
 Calls Try.prog 34 #[.slice A0 l0.length c0, .agg #[.int .i64 a1_0, .int .i64 a1_1, .int .i64 a1_2, .int .i64 a1_3, .int .i64 a1_4, .int .i64 a1_5, .int .i64 a1_6]] w fun e w' => e = .returned (.bool r) ∧ Below w.heap.size w w' := by
 have hu40 := Try.underlying40
 have HR0 := Aside0.mk hr0
 have HC0 := Aside0.mk hc0
 clear hr0 hc0
 have HB := Aside0.mk (Below.refl w.heap.size w)
 have H : (some (a1_0 == (wrap64 ((l0.length : Int) + 1)))) = some r := h
 clear h
 obtain rfl := Option.some.inj H
 go_enter Try.func34, Try.ntmps34
 go_wp2_with (first | ((with_reducible refine gate_dst (N := 3) rfl ?_); refine box_event ?hg (N := 3) ?hd (cs := #[.int .i64 a1_0, .int .i64 a1_1, .int .i64 a1_2, .int .i64 a1_3, .int .i64 a1_4, .int .i64 a1_5, .int .i64 a1_6]) (t := 40) ?hr ?_; (case hd => rfl); (case hg => rfl); (case hr => first | (go_simp; done) | (go_simp; rfl)); intro gb396 hg w3 hbox hb; have n0_ := Aside0.mk (below_step (by repeat (first | (with_reducible first | exact HB.out | apply below_alloc | apply pw_below_drewN | apply below_drew1) | exact HB.out)) hb); have n1_ := Aside0.mk (hbox); have n2_ := Aside0.mk ((by rw [hg]; exact (below_size (by repeat (first | (with_reducible first | exact HB.out | apply below_alloc | apply pw_below_drewN | apply below_drew1) | exact HB.out))) : w.heap.size ≤ gb396)); have n3_ := Aside0.mk ((by rw [hg]; exact (below_size (by repeat (first | (with_reducible first | exact HB.out | apply below_alloc | apply pw_below_drewN | apply below_drew1) | exact HB.out))) : w.heap.size ≤ gb396)); clear HB; have HB := n0_; have BK396 := n1_; have GW396 := n2_; have GE396 := n3_; clear n0_ n1_ n2_ n3_; clear hb hbox hg; obtain ⟨hcz4_0, hcz4_1, hcz4_2, hcz4_3, hcz4_4, hcz4_5, hcz4_6⟩ := cel7 BK396.out; obtain ⟨hfz4_0, hfz4_1, hfz4_2, hfz4_3, hfz4_4, hfz4_5, hfz4_6⟩ := frz7 BK396.out))
 go_ret
 exact ⟨by first | rfl | (simp [errW_none, errW_some] <;> rfl) | (simp [*, errW_none, errW_some] <;> rfl), by repeat (first | (with_reducible first | exact HB.out | apply below_alloc | apply pw_below_drewN | apply below_drew1 | refine below_set ?_ GE396.out) | exact HB.out)⟩
end Go.Proofs.Ytjhepdcdhabcjaa.G
namespace Go.Proofs.Ytjhepdcdhabcjaa.G
open Go.RowKit Go.Proofs.YtjhepdcdhabcjaaW.PrintWords Go.Proofs.YtjhepdcdhabcjaaW.PrintLast Go.Proofs.YtjhepdcdhabcjaaW.PrintMore
attribute [local go_sem] max2_int min2_int max_two min_two max_three min_three max_four min_four   -- for this text's walks alone
set_option linter.unusedVariables false
set_option linter.unusedSimpArgs false
def toc_rules_2.f (l0 : List (S40)) (a1_0 : Int) (a1_1 : Int) (a1_2 : Int) (a1_3 : Int) (a1_4 : Int) (a1_5 : Int) (a1_6 : Int) : Option (Bool) := if (l0.length : Int) = 0 then (some (a1_1 == 1)) else (if 0 ≤ (wrap64 ((l0.length : Int) - 1)) then (if (wrap64 ((l0.length : Int) - 1)) < (l0.length : Int) then (if (wrap64 (a1_1 - ((rd_T40 l0 (wrap64 ((l0.length : Int) - 1))).f1))) = 0 then (some true) else (some ((wrap64 (a1_1 - ((rd_T40 l0 (wrap64 ((l0.length : Int) - 1))).f1))) == 1))) else (none)) else (none))
set_option maxHeartbeats 8000000 in
set_option maxRecDepth 100000 in
theorem toc_rules_2.calls (A0 : Option Addr) (c0 : Nat) (l0 : List (S40)) (a1_0 : Int) (a1_1 : Int) (a1_2 : Int) (a1_3 : Int) (a1_4 : Int) (a1_5 : Int) (a1_6 : Int) (r : Bool) (w : World) (hr0 : Kd.C k40 w A0 l0.length l0) (hc0 : l0.length ≤ c0) (h : toc_rules_2.f l0 a1_0 a1_1 a1_2 a1_3 a1_4 a1_5 a1_6 = some r) :
 Calls Try.prog 35 #[.slice A0 l0.length c0, .agg #[.int .i64 a1_0, .int .i64 a1_1, .int .i64 a1_2, .int .i64 a1_3, .int .i64 a1_4, .int .i64 a1_5, .int .i64 a1_6]] w fun e w' => e = .returned (.bool r) ∧ Below w.heap.size w w' := by
 have hu40 := Try.underlying40
 have HR0 := Aside0.mk hr0
 have HC0 := Aside0.mk hc0
 clear hr0 hc0
 have HB := Aside0.mk (Below.refl w.heap.size w)
 have H : (if (l0.length : Int) = 0 then (some (a1_1 == 1)) else (if 0 ≤ (wrap64 ((l0.length : Int) - 1)) then (if (wrap64 ((l0.length : Int) - 1)) < (l0.length : Int) then (if (wrap64 (a1_1 - ((rd_T40 l0 (wrap64 ((l0.length : Int) - 1))).f1))) = 0 then (some true) else (some ((wrap64 (a1_1 - ((rd_T40 l0 (wrap64 ((l0.length : Int) - 1))).f1))) == 1))) else (none)) else (none))) = some r := h
 clear h
 by_cases c3 : (l0.length : Int) = 0
 · rw [if_pos c3] at H
   have c3b0 : ((l0.length : Int) == 0) = true := beq_iff_eq.mpr c3
   have c3b1 : ((l0.length : Int) != 0) = false := bne_eq_false_iff_eq.mpr c3
   clear c3
   obtain rfl := Option.some.inj H
   go_enter Try.func35, Try.ntmps35
   go_wp2_with (first | ((with_reducible refine gate_dst (N := 3) rfl ?_); refine box_event ?hg (N := 3) ?hd (cs := #[.int .i64 a1_0, .int .i64 a1_1, .int .i64 a1_2, .int .i64 a1_3, .int .i64 a1_4, .int .i64 a1_5, .int .i64 a1_6]) (t := 40) ?hr ?_; (case hd => rfl); (case hg => rfl); (case hr => first | (go_simp; done) | (go_simp; rfl)); intro gb397 hg w4 hbox hb; have n0_ := Aside0.mk (below_step (by repeat (first | (with_reducible first | exact HB.out | apply below_alloc | apply pw_below_drewN | apply below_drew1) | exact HB.out)) hb); have n1_ := Aside0.mk (hbox); have n2_ := Aside0.mk ((by rw [hg]; exact (below_size (by repeat (first | (with_reducible first | exact HB.out | apply below_alloc | apply pw_below_drewN | apply below_drew1) | exact HB.out))) : w.heap.size ≤ gb397)); have n3_ := Aside0.mk ((by rw [hg]; exact (below_size (by repeat (first | (with_reducible first | exact HB.out | apply below_alloc | apply pw_below_drewN | apply below_drew1) | exact HB.out))) : w.heap.size ≤ gb397)); clear HB; have HB := n0_; have BK397 := n1_; have GW397 := n2_; have GE397 := n3_; clear n0_ n1_ n2_ n3_; clear hb hbox hg; obtain ⟨hcz5_0, hcz5_1, hcz5_2, hcz5_3, hcz5_4, hcz5_5, hcz5_6⟩ := cel7 BK397.out; obtain ⟨hfz5_0, hfz5_1, hfz5_2, hfz5_3, hfz5_4, hfz5_5, hfz5_6⟩ := frz7 BK397.out))
   repeat (go_quiet (first | ((with_reducible refine gate_dst (N := 3) rfl ?_); refine box_event ?hg (N := 3) ?hd (cs := #[.int .i64 a1_0, .int .i64 a1_1, .int .i64 a1_2, .int .i64 a1_3, .int .i64 a1_4, .int .i64 a1_5, .int .i64 a1_6]) (t := 40) ?hr ?_; (case hd => rfl); (case hg => rfl); (case hr => first | (go_simp; done) | (go_simp; rfl)); intro gb397 hg w4 hbox hb; have n0_ := Aside0.mk (below_step (by repeat (first | (with_reducible first | exact HB.out | apply below_alloc | apply pw_below_drewN | apply below_drew1) | exact HB.out)) hb); have n1_ := Aside0.mk (hbox); have n2_ := Aside0.mk ((by rw [hg]; exact (below_size (by repeat (first | (with_reducible first | exact HB.out | apply below_alloc | apply pw_below_drewN | apply below_drew1) | exact HB.out))) : w.heap.size ≤ gb397)); have n3_ := Aside0.mk ((by rw [hg]; exact (below_size (by repeat (first | (with_reducible first | exact HB.out | apply below_alloc | apply pw_below_drewN | apply below_drew1) | exact HB.out))) : w.heap.size ≤ gb397)); clear HB; have HB := n0_; have BK397 := n1_; have GW397 := n2_; have GE397 := n3_; clear n0_ n1_ n2_ n3_; clear hb hbox hg; obtain ⟨hcz5_0, hcz5_1, hcz5_2, hcz5_3, hcz5_4, hcz5_5, hcz5_6⟩ := cel7 BK397.out; obtain ⟨hfz5_0, hfz5_1, hfz5_2, hfz5_3, hfz5_4, hfz5_5, hfz5_6⟩ := frz7 BK397.out)); try go_wp2_with (first | ((with_reducible refine gate_dst (N := 3) rfl ?_); refine box_event ?hg (N := 3) ?hd (cs := #[.int .i64 a1_0, .int .i64 a1_1, .int .i64 a1_2, .int .i64 a1_3, .int .i64 a1_4, .int .i64 a1_5, .int .i64 a1_6]) (t := 40) ?hr ?_; (case hd => rfl); (case hg => rfl); (case hr => first | (go_simp; done) | (go_simp; rfl)); intro gb397 hg w4 hbox hb; have n0_ := Aside0.mk (below_step (by repeat (first | (with_reducible first | exact HB.out | apply below_alloc | apply pw_below_drewN | apply below_drew1) | exact HB.out)) hb); have n1_ := Aside0.mk (hbox); have n2_ := Aside0.mk ((by rw [hg]; exact (below_size (by repeat (first | (with_reducible first | exact HB.out | apply below_alloc | apply pw_below_drewN | apply below_drew1) | exact HB.out))) : w.heap.size ≤ gb397)); have n3_ := Aside0.mk ((by rw [hg]; exact (below_size (by repeat (first | (with_reducible first | exact HB.out | apply below_alloc | apply pw_below_drewN | apply below_drew1) | exact HB.out))) : w.heap.size ≤ gb397)); clear HB; have HB := n0_; have BK397 := n1_; have GW397 := n2_; have GE397 := n3_; clear n0_ n1_ n2_ n3_; clear hb hbox hg; obtain ⟨hcz5_0, hcz5_1, hcz5_2, hcz5_3, hcz5_4, hcz5_5, hcz5_6⟩ := cel7 BK397.out; obtain ⟨hfz5_0, hfz5_1, hfz5_2, hfz5_3, hfz5_4, hfz5_5, hfz5_6⟩ := frz7 BK397.out)))
   go_ret
   exact ⟨by first | rfl | (simp [errW_none, errW_some] <;> rfl) | (simp [*, errW_none, errW_some] <;> rfl), by repeat (first | (with_reducible first | exact HB.out | apply below_alloc | apply pw_below_drewN | apply below_drew1 | refine below_set ?_ GE397.out) | exact HB.out)⟩
 · rw [if_neg c3] at H
   have c3b0 : ((l0.length : Int) == 0) = false := beq_eq_false_iff_ne.mpr c3
   have c3b1 : ((l0.length : Int) != 0) = true := bne_iff_ne.mpr c3
   have c3b2 : ¬ (l0 = []) := fun h_ => c3 (by rw [h_]; rfl)
   obtain ⟨ji6, hji6⟩ : ∃ j_ : Int, (wrap64 ((l0.length : Int) - 1)) = j_ := ⟨_, rfl⟩
   replace H : (if 0 ≤ (ji6) then (if (ji6) < (l0.length : Int) then (if (wrap64 (a1_1 - ((rd_T40 l0 (ji6)).f1))) = 0 then (some true) else (some ((wrap64 (a1_1 - ((rd_T40 l0 (ji6)).f1))) == 1))) else (none)) else (none)) = some r := by first | (rw [hji6] at H; exact H) | (simp only [hji6] at H ⊢; exact H)
   have hji6w : (IntKind.i64.wrap ((l0.length : Int) - 1)) = ji6 := (i64_w _).trans hji6
   by_cases c7 : 0 ≤ (ji6)
   · rw [if_pos c7] at H
     have c7b0 : decide (0 ≤ (ji6)) = true := decide_eq_true c7
     clear c7
     by_cases c8 : (ji6) < (l0.length : Int)
     · rw [if_pos c8] at H
       have c8b0 : decide ((ji6) < (l0.length : Int)) = true := decide_eq_true c8
       clear c8
       by_cases c9 : (wrap64 (a1_1 - ((rd_T40 l0 (ji6)).f1))) = 0
       · rw [if_pos c9] at H
         have c9b0 : ((wrap64 (a1_1 - ((rd_T40 l0 (ji6)).f1))) == 0) = true := beq_iff_eq.mpr c9
         have c9b1 : ((wrap64 (a1_1 - ((rd_T40 l0 (ji6)).f1))) != 0) = false := bne_eq_false_iff_eq.mpr c9
         clear c9
         obtain rfl := Option.some.inj H
         go_enter Try.func35, Try.ntmps35
         go_wp2_with (first | ((with_reducible refine gate_dst (N := 3) rfl ?_); refine box_event ?hg (N := 3) ?hd (cs := #[.int .i64 a1_0, .int .i64 a1_1, .int .i64 a1_2, .int .i64 a1_3, .int .i64 a1_4, .int .i64 a1_5, .int .i64 a1_6]) (t := 40) ?hr ?_; (case hd => rfl); (case hg => rfl); (case hr => first | (go_simp; done) | (go_simp; rfl)); intro gb397 hg w10 hbox hb; have n0_ := Aside0.mk (below_step (by repeat (first | (with_reducible first | exact HB.out | apply below_alloc | apply pw_below_drewN | apply below_drew1) | exact HB.out)) hb); have n1_ := Aside0.mk (hbox); have n2_ := Aside0.mk ((by rw [hg]; exact (below_size (by repeat (first | (with_reducible first | exact HB.out | apply below_alloc | apply pw_below_drewN | apply below_drew1) | exact HB.out))) : w.heap.size ≤ gb397)); have n3_ := Aside0.mk ((by rw [hg]; exact (below_size (by repeat (first | (with_reducible first | exact HB.out | apply below_alloc | apply pw_below_drewN | apply below_drew1) | exact HB.out))) : w.heap.size ≤ gb397)); clear HB; have HB := n0_; have BK397 := n1_; have GW397 := n2_; have GE397 := n3_; clear n0_ n1_ n2_ n3_; clear hb hbox hg; obtain ⟨hcz11_0, hcz11_1, hcz11_2, hcz11_3, hcz11_4, hcz11_5, hcz11_6⟩ := cel7 BK397.out; obtain ⟨hfz11_0, hfz11_1, hfz11_2, hfz11_3, hfz11_4, hfz11_5, hfz11_6⟩ := frz7 BK397.out; have p398 : 0 ≤ ((ji6) : Int) := of_decide_eq_true (by first | (with_reducible assumption) | assumption); have q398 : (ji6) < (l0.length : Int) := of_decide_eq_true (by first | (with_reducible assumption) | assumption); obtain ⟨ad398, e398, hx398_0, hx398_1, hx398_2, hx398_3, hx398_4, hx398_5, hx398_6⟩ := at_T40 HR0.out (ji6) p398 q398; cases e398; replace hx398_0 := upc HB.out hx398_0; replace hx398_1 := upc HB.out hx398_1; replace hx398_2 := upc HB.out hx398_2; replace hx398_3 := upc HB.out hx398_3; replace hx398_4 := upc HB.out hx398_4; replace hx398_5 := upc HB.out hx398_5; replace hx398_6 := upc HB.out hx398_6; replace p398 := eq_true p398; replace q398 := eq_true q398))
         repeat (go_quiet (first | ((with_reducible refine gate_dst (N := 3) rfl ?_); refine box_event ?hg (N := 3) ?hd (cs := #[.int .i64 a1_0, .int .i64 a1_1, .int .i64 a1_2, .int .i64 a1_3, .int .i64 a1_4, .int .i64 a1_5, .int .i64 a1_6]) (t := 40) ?hr ?_; (case hd => rfl); (case hg => rfl); (case hr => first | (go_simp; done) | (go_simp; rfl)); intro gb397 hg w10 hbox hb; have n0_ := Aside0.mk (below_step (by repeat (first | (with_reducible first | exact HB.out | apply below_alloc | apply pw_below_drewN | apply below_drew1) | exact HB.out)) hb); have n1_ := Aside0.mk (hbox); have n2_ := Aside0.mk ((by rw [hg]; exact (below_size (by repeat (first | (with_reducible first | exact HB.out | apply below_alloc | apply pw_below_drewN | apply below_drew1) | exact HB.out))) : w.heap.size ≤ gb397)); have n3_ := Aside0.mk ((by rw [hg]; exact (below_size (by repeat (first | (with_reducible first | exact HB.out | apply below_alloc | apply pw_below_drewN | apply below_drew1) | exact HB.out))) : w.heap.size ≤ gb397)); clear HB; have HB := n0_; have BK397 := n1_; have GW397 := n2_; have GE397 := n3_; clear n0_ n1_ n2_ n3_; clear hb hbox hg; obtain ⟨hcz11_0, hcz11_1, hcz11_2, hcz11_3, hcz11_4, hcz11_5, hcz11_6⟩ := cel7 BK397.out; obtain ⟨hfz11_0, hfz11_1, hfz11_2, hfz11_3, hfz11_4, hfz11_5, hfz11_6⟩ := frz7 BK397.out; have p398 : 0 ≤ ((ji6) : Int) := of_decide_eq_true (by first | (with_reducible assumption) | assumption); have q398 : (ji6) < (l0.length : Int) := of_decide_eq_true (by first | (with_reducible assumption) | assumption); obtain ⟨ad398, e398, hx398_0, hx398_1, hx398_2, hx398_3, hx398_4, hx398_5, hx398_6⟩ := at_T40 HR0.out (ji6) p398 q398; cases e398; replace hx398_0 := upc HB.out hx398_0; replace hx398_1 := upc HB.out hx398_1; replace hx398_2 := upc HB.out hx398_2; replace hx398_3 := upc HB.out hx398_3; replace hx398_4 := upc HB.out hx398_4; replace hx398_5 := upc HB.out hx398_5; replace hx398_6 := upc HB.out hx398_6; replace p398 := eq_true p398; replace q398 := eq_true q398)); try go_wp2_with (first | ((with_reducible refine gate_dst (N := 3) rfl ?_); refine box_event ?hg (N := 3) ?hd (cs := #[.int .i64 a1_0, .int .i64 a1_1, .int .i64 a1_2, .int .i64 a1_3, .int .i64 a1_4, .int .i64 a1_5, .int .i64 a1_6]) (t := 40) ?hr ?_; (case hd => rfl); (case hg => rfl); (case hr => first | (go_simp; done) | (go_simp; rfl)); intro gb397 hg w10 hbox hb; have n0_ := Aside0.mk (below_step (by repeat (first | (with_reducible first | exact HB.out | apply below_alloc | apply pw_below_drewN | apply below_drew1) | exact HB.out)) hb); have n1_ := Aside0.mk (hbox); have n2_ := Aside0.mk ((by rw [hg]; exact (below_size (by repeat (first | (with_reducible first | exact HB.out | apply below_alloc | apply pw_below_drewN | apply below_drew1) | exact HB.out))) : w.heap.size ≤ gb397)); have n3_ := Aside0.mk ((by rw [hg]; exact (below_size (by repeat (first | (with_reducible first | exact HB.out | apply below_alloc | apply pw_below_drewN | apply below_drew1) | exact HB.out))) : w.heap.size ≤ gb397)); clear HB; have HB := n0_; have BK397 := n1_; have GW397 := n2_; have GE397 := n3_; clear n0_ n1_ n2_ n3_; clear hb hbox hg; obtain ⟨hcz11_0, hcz11_1, hcz11_2, hcz11_3, hcz11_4, hcz11_5, hcz11_6⟩ := cel7 BK397.out; obtain ⟨hfz11_0, hfz11_1, hfz11_2, hfz11_3, hfz11_4, hfz11_5, hfz11_6⟩ := frz7 BK397.out; have p398 : 0 ≤ ((ji6) : Int) := of_decide_eq_true (by first | (with_reducible assumption) | assumption); have q398 : (ji6) < (l0.length : Int) := of_decide_eq_true (by first | (with_reducible assumption) | assumption); obtain ⟨ad398, e398, hx398_0, hx398_1, hx398_2, hx398_3, hx398_4, hx398_5, hx398_6⟩ := at_T40 HR0.out (ji6) p398 q398; cases e398; replace hx398_0 := upc HB.out hx398_0; replace hx398_1 := upc HB.out hx398_1; replace hx398_2 := upc HB.out hx398_2; replace hx398_3 := upc HB.out hx398_3; replace hx398_4 := upc HB.out hx398_4; replace hx398_5 := upc HB.out hx398_5; replace hx398_6 := upc HB.out hx398_6; replace p398 := eq_true p398; replace q398 := eq_true q398)))
         go_ret
         exact ⟨by first | rfl | (simp [errW_none, errW_some] <;> rfl) | (simp only [← hji6]; first | rfl | (simp [errW_none, errW_some] <;> rfl)) | (simp [*, errW_none, errW_some] <;> rfl), by repeat (first | (with_reducible first | exact HB.out | apply below_alloc | apply pw_below_drewN | apply below_drew1 | refine below_set ?_ GE397.out) | exact HB.out)⟩
       · rw [if_neg c9] at H
         have c9b0 : ((wrap64 (a1_1 - ((rd_T40 l0 (ji6)).f1))) == 0) = false := beq_eq_false_iff_ne.mpr c9
         have c9b1 : ((wrap64 (a1_1 - ((rd_T40 l0 (ji6)).f1))) != 0) = true := bne_iff_ne.mpr c9
         obtain rfl := Option.some.inj H
         go_enter Try.func35, Try.ntmps35
         go_wp2_with (first | ((with_reducible refine gate_dst (N := 3) rfl ?_); refine box_event ?hg (N := 3) ?hd (cs := #[.int .i64 a1_0, .int .i64 a1_1, .int .i64 a1_2, .int .i64 a1_3, .int .i64 a1_4, .int .i64 a1_5, .int .i64 a1_6]) (t := 40) ?hr ?_; (case hd => rfl); (case hg => rfl); (case hr => first | (go_simp; done) | (go_simp; rfl)); intro gb397 hg w12 hbox hb; have n0_ := Aside0.mk (below_step (by repeat (first | (with_reducible first | exact HB.out | apply below_alloc | apply pw_below_drewN | apply below_drew1) | exact HB.out)) hb); have n1_ := Aside0.mk (hbox); have n2_ := Aside0.mk ((by rw [hg]; exact (below_size (by repeat (first | (with_reducible first | exact HB.out | apply below_alloc | apply pw_below_drewN | apply below_drew1) | exact HB.out))) : w.heap.size ≤ gb397)); have n3_ := Aside0.mk ((by rw [hg]; exact (below_size (by repeat (first | (with_reducible first | exact HB.out | apply below_alloc | apply pw_below_drewN | apply below_drew1) | exact HB.out))) : w.heap.size ≤ gb397)); clear HB; have HB := n0_; have BK397 := n1_; have GW397 := n2_; have GE397 := n3_; clear n0_ n1_ n2_ n3_; clear hb hbox hg; obtain ⟨hcz13_0, hcz13_1, hcz13_2, hcz13_3, hcz13_4, hcz13_5, hcz13_6⟩ := cel7 BK397.out; obtain ⟨hfz13_0, hfz13_1, hfz13_2, hfz13_3, hfz13_4, hfz13_5, hfz13_6⟩ := frz7 BK397.out; have p398 : 0 ≤ ((ji6) : Int) := of_decide_eq_true (by first | (with_reducible assumption) | assumption); have q398 : (ji6) < (l0.length : Int) := of_decide_eq_true (by first | (with_reducible assumption) | assumption); obtain ⟨ad398, e398, hx398_0, hx398_1, hx398_2, hx398_3, hx398_4, hx398_5, hx398_6⟩ := at_T40 HR0.out (ji6) p398 q398; cases e398; replace hx398_0 := upc HB.out hx398_0; replace hx398_1 := upc HB.out hx398_1; replace hx398_2 := upc HB.out hx398_2; replace hx398_3 := upc HB.out hx398_3; replace hx398_4 := upc HB.out hx398_4; replace hx398_5 := upc HB.out hx398_5; replace hx398_6 := upc HB.out hx398_6; replace p398 := eq_true p398; replace q398 := eq_true q398))
         repeat (go_quiet (first | ((with_reducible refine gate_dst (N := 3) rfl ?_); refine box_event ?hg (N := 3) ?hd (cs := #[.int .i64 a1_0, .int .i64 a1_1, .int .i64 a1_2, .int .i64 a1_3, .int .i64 a1_4, .int .i64 a1_5, .int .i64 a1_6]) (t := 40) ?hr ?_; (case hd => rfl); (case hg => rfl); (case hr => first | (go_simp; done) | (go_simp; rfl)); intro gb397 hg w12 hbox hb; have n0_ := Aside0.mk (below_step (by repeat (first | (with_reducible first | exact HB.out | apply below_alloc | apply pw_below_drewN | apply below_drew1) | exact HB.out)) hb); have n1_ := Aside0.mk (hbox); have n2_ := Aside0.mk ((by rw [hg]; exact (below_size (by repeat (first | (with_reducible first | exact HB.out | apply below_alloc | apply pw_below_drewN | apply below_drew1) | exact HB.out))) : w.heap.size ≤ gb397)); have n3_ := Aside0.mk ((by rw [hg]; exact (below_size (by repeat (first | (with_reducible first | exact HB.out | apply below_alloc | apply pw_below_drewN | apply below_drew1) | exact HB.out))) : w.heap.size ≤ gb397)); clear HB; have HB := n0_; have BK397 := n1_; have GW397 := n2_; have GE397 := n3_; clear n0_ n1_ n2_ n3_; clear hb hbox hg; obtain ⟨hcz13_0, hcz13_1, hcz13_2, hcz13_3, hcz13_4, hcz13_5, hcz13_6⟩ := cel7 BK397.out; obtain ⟨hfz13_0, hfz13_1, hfz13_2, hfz13_3, hfz13_4, hfz13_5, hfz13_6⟩ := frz7 BK397.out; have p398 : 0 ≤ ((ji6) : Int) := of_decide_eq_true (by first | (with_reducible assumption) | assumption); have q398 : (ji6) < (l0.length : Int) := of_decide_eq_true (by first | (with_reducible assumption) | assumption); obtain ⟨ad398, e398, hx398_0, hx398_1, hx398_2, hx398_3, hx398_4, hx398_5, hx398_6⟩ := at_T40 HR0.out (ji6) p398 q398; cases e398; replace hx398_0 := upc HB.out hx398_0; replace hx398_1 := upc HB.out hx398_1; replace hx398_2 := upc HB.out hx398_2; replace hx398_3 := upc HB.out hx398_3; replace hx398_4 := upc HB.out hx398_4; replace hx398_5 := upc HB.out hx398_5; replace hx398_6 := upc HB.out hx398_6; replace p398 := eq_true p398; replace q398 := eq_true q398)); try go_wp2_with (first | ((with_reducible refine gate_dst (N := 3) rfl ?_); refine box_event ?hg (N := 3) ?hd (cs := #[.int .i64 a1_0, .int .i64 a1_1, .int .i64 a1_2, .int .i64 a1_3, .int .i64 a1_4, .int .i64 a1_5, .int .i64 a1_6]) (t := 40) ?hr ?_; (case hd => rfl); (case hg => rfl); (case hr => first | (go_simp; done) | (go_simp; rfl)); intro gb397 hg w12 hbox hb; have n0_ := Aside0.mk (below_step (by repeat (first | (with_reducible first | exact HB.out | apply below_alloc | apply pw_below_drewN | apply below_drew1) | exact HB.out)) hb); have n1_ := Aside0.mk (hbox); have n2_ := Aside0.mk ((by rw [hg]; exact (below_size (by repeat (first | (with_reducible first | exact HB.out | apply below_alloc | apply pw_below_drewN | apply below_drew1) | exact HB.out))) : w.heap.size ≤ gb397)); have n3_ := Aside0.mk ((by rw [hg]; exact (below_size (by repeat (first | (with_reducible first | exact HB.out | apply below_alloc | apply pw_below_drewN | apply below_drew1) | exact HB.out))) : w.heap.size ≤ gb397)); clear HB; have HB := n0_; have BK397 := n1_; have GW397 := n2_; have GE397 := n3_; clear n0_ n1_ n2_ n3_; clear hb hbox hg; obtain ⟨hcz13_0, hcz13_1, hcz13_2, hcz13_3, hcz13_4, hcz13_5, hcz13_6⟩ := cel7 BK397.out; obtain ⟨hfz13_0, hfz13_1, hfz13_2, hfz13_3, hfz13_4, hfz13_5, hfz13_6⟩ := frz7 BK397.out; have p398 : 0 ≤ ((ji6) : Int) := of_decide_eq_true (by first | (with_reducible assumption) | assumption); have q398 : (ji6) < (l0.length : Int) := of_decide_eq_true (by first | (with_reducible assumption) | assumption); obtain ⟨ad398, e398, hx398_0, hx398_1, hx398_2, hx398_3, hx398_4, hx398_5, hx398_6⟩ := at_T40 HR0.out (ji6) p398 q398; cases e398; replace hx398_0 := upc HB.out hx398_0; replace hx398_1 := upc HB.out hx398_1; replace hx398_2 := upc HB.out hx398_2; replace hx398_3 := upc HB.out hx398_3; replace hx398_4 := upc HB.out hx398_4; replace hx398_5 := upc HB.out hx398_5; replace hx398_6 := upc HB.out hx398_6; replace p398 := eq_true p398; replace q398 := eq_true q398)))
         go_ret
         exact ⟨by first | rfl | (simp [errW_none, errW_some] <;> rfl) | (simp only [← hji6]; first | rfl | (simp [errW_none, errW_some] <;> rfl)) | (simp [*, errW_none, errW_some] <;> rfl), by repeat (first | (with_reducible first | exact HB.out | apply below_alloc | apply pw_below_drewN | apply below_drew1 | refine below_set ?_ GE397.out) | exact HB.out)⟩
     · rw [if_neg c8] at H
       exact absurd H (by simp)
   · rw [if_neg c7] at H
     exact absurd H (by simp)
end Go.Proofs.Ytjhepdcdhabcjaa.G
namespace Go.Proofs.Ytjhepdcdhabcjaa.G
open Go.RowKit Go.Proofs.YtjhepdcdhabcjaaW.PrintWords Go.Proofs.YtjhepdcdhabcjaaW.PrintLast Go.Proofs.YtjhepdcdhabcjaaW.PrintMore
attribute [local go_sem] max2_int min2_int max_two min_two max_three min_three max_four min_four   -- for this text's walks alone
set_option linter.unusedVariables false
set_option linter.unusedSimpArgs false
def toc_end.f (a0_0 : Int) (a0_1 : Int) (a0_2 : Int) (a0_3 : Int) (a0_4 : Int) (a0_5 : Int) (a0_6 : Int) : Option (Int) := some (wrap64 (a0_2 + a0_3))
set_option maxHeartbeats 8000000 in
set_option maxRecDepth 100000 in
theorem toc_end.calls (a0_0 : Int) (a0_1 : Int) (a0_2 : Int) (a0_3 : Int) (a0_4 : Int) (a0_5 : Int) (a0_6 : Int) (r : Int) (w : World) (h : toc_end.f a0_0 a0_1 a0_2 a0_3 a0_4 a0_5 a0_6 = some r) :
 Calls Try.prog 26 #[.agg #[.int .i64 a0_0, .int .i64 a0_1, .int .i64 a0_2, .int .i64 a0_3, .int .i64 a0_4, .int .i64 a0_5, .int .i64 a0_6]] w fun e w' => e = .returned (.int .i64 r) ∧ Below w.heap.size w w' := by
 have hu40 := Try.underlying40
 have HB := Aside0.mk (Below.refl w.heap.size w)
 have H : (some (wrap64 (a0_2 + a0_3))) = some r := h
 clear h
 obtain rfl := Option.some.inj H
 go_enter Try.func26, Try.ntmps26
 go_wp2_with (first | ((with_reducible refine gate_dst (N := 1) rfl ?_); refine box_event ?hg (N := 1) ?hd (cs := #[.int .i64 a0_0, .int .i64 a0_1, .int .i64 a0_2, .int .i64 a0_3, .int .i64 a0_4, .int .i64 a0_5, .int .i64 a0_6]) (t := 40) ?hr ?_; (case hd => rfl); (case hg => rfl); (case hr => first | (go_simp; done) | (go_simp; rfl)); intro gb101 hg w2 hbox hb; have n0_ := Aside0.mk (below_step (by repeat (first | (with_reducible first | exact HB.out | apply below_alloc | apply pw_below_drewN | apply below_drew1) | exact HB.out)) hb); have n1_ := Aside0.mk (hbox); have n2_ := Aside0.mk ((by rw [hg]; exact (below_size (by repeat (first | (with_reducible first | exact HB.out | apply below_alloc | apply pw_below_drewN | apply below_drew1) | exact HB.out))) : w.heap.size ≤ gb101)); have n3_ := Aside0.mk ((by rw [hg]; exact (below_size (by repeat (first | (with_reducible first | exact HB.out | apply below_alloc | apply pw_below_drewN | apply below_drew1) | exact HB.out))) : w.heap.size ≤ gb101)); clear HB; have HB := n0_; have BK101 := n1_; have GW101 := n2_; have GE101 := n3_; clear n0_ n1_ n2_ n3_; clear hb hbox hg; obtain ⟨hcz3_0, hcz3_1, hcz3_2, hcz3_3, hcz3_4, hcz3_5, hcz3_6⟩ := cel7 BK101.out; obtain ⟨hfz3_0, hfz3_1, hfz3_2, hfz3_3, hfz3_4, hfz3_5, hfz3_6⟩ := frz7 BK101.out))
 go_ret
 exact ⟨by first | rfl | (simp [errW_none, errW_some] <;> rfl) | (simp [*, errW_none, errW_some] <;> rfl), by repeat (first | (with_reducible first | exact HB.out | apply below_alloc | apply pw_below_drewN | apply below_drew1 | refine below_set ?_ GE101.out) | exact HB.out)⟩
end Go.Proofs.Ytjhepdcdhabcjaa.G
namespace Go.Proofs.Ytjhepdcdhabcjaa.G
open Go.RowKit Go.Proofs.YtjhepdcdhabcjaaW.PrintWords Go.Proofs.YtjhepdcdhabcjaaW.PrintLast Go.Proofs.YtjhepdcdhabcjaaW.PrintMore
attribute [local go_sem] max2_int min2_int max_two min_two max_three min_three max_four min_four   -- for this text's walks alone
set_option linter.unusedVariables false
set_option linter.unusedSimpArgs false
def toc_start.f (l0 : List (S40)) (a1 : Int) : Option (Int) := if (l0.length : Int) = 0 then (some 0) else (if 0 ≤ (wrap64 ((l0.length : Int) - 1)) then (if (wrap64 ((l0.length : Int) - 1)) < (l0.length : Int) then (if a1 > ((rd_T40 l0 (wrap64 ((l0.length : Int) - 1))).f1) then ((toc_end.f ((rd_T40 l0 (wrap64 ((l0.length : Int) - 1))).f0) ((rd_T40 l0 (wrap64 ((l0.length : Int) - 1))).f1) ((rd_T40 l0 (wrap64 ((l0.length : Int) - 1))).f2) ((rd_T40 l0 (wrap64 ((l0.length : Int) - 1))).f3) ((rd_T40 l0 (wrap64 ((l0.length : Int) - 1))).f4) ((rd_T40 l0 (wrap64 ((l0.length : Int) - 1))).f5) ((rd_T40 l0 (wrap64 ((l0.length : Int) - 1))).f6)).bind fun t104 => (some (wrap64 (t104 + 16)))) else ((toc_end.f ((rd_T40 l0 (wrap64 ((l0.length : Int) - 1))).f0) ((rd_T40 l0 (wrap64 ((l0.length : Int) - 1))).f1) ((rd_T40 l0 (wrap64 ((l0.length : Int) - 1))).f2) ((rd_T40 l0 (wrap64 ((l0.length : Int) - 1))).f3) ((rd_T40 l0 (wrap64 ((l0.length : Int) - 1))).f4) ((rd_T40 l0 (wrap64 ((l0.length : Int) - 1))).f5) ((rd_T40 l0 (wrap64 ((l0.length : Int) - 1))).f6)).bind fun t105 => (some t105))) else (none)) else (none))
set_option maxHeartbeats 8000000 in
set_option maxRecDepth 100000 in
theorem toc_start.calls (A0 : Option Addr) (c0 : Nat) (l0 : List (S40)) (a1 : Int) (r : Int) (w : World) (hr0 : Kd.C k40 w A0 l0.length l0) (hc0 : l0.length ≤ c0) (h : toc_start.f l0 a1 = some r) :
 Calls Try.prog 28 #[.slice A0 l0.length c0, .int .i64 a1] w fun e w' => e = .returned (.int .i64 r) ∧ Below w.heap.size w w' := by
 have hu40 := Try.underlying40
 have HR0 := Aside0.mk hr0
 have HC0 := Aside0.mk hc0
 clear hr0 hc0
 have HB := Aside0.mk (Below.refl w.heap.size w)
 have H : (if (l0.length : Int) = 0 then (some 0) else (if 0 ≤ (wrap64 ((l0.length : Int) - 1)) then (if (wrap64 ((l0.length : Int) - 1)) < (l0.length : Int) then (if a1 > ((rd_T40 l0 (wrap64 ((l0.length : Int) - 1))).f1) then ((toc_end.f ((rd_T40 l0 (wrap64 ((l0.length : Int) - 1))).f0) ((rd_T40 l0 (wrap64 ((l0.length : Int) - 1))).f1) ((rd_T40 l0 (wrap64 ((l0.length : Int) - 1))).f2) ((rd_T40 l0 (wrap64 ((l0.length : Int) - 1))).f3) ((rd_T40 l0 (wrap64 ((l0.length : Int) - 1))).f4) ((rd_T40 l0 (wrap64 ((l0.length : Int) - 1))).f5) ((rd_T40 l0 (wrap64 ((l0.length : Int) - 1))).f6)).bind fun t104 => (some (wrap64 (t104 + 16)))) else ((toc_end.f ((rd_T40 l0 (wrap64 ((l0.length : Int) - 1))).f0) ((rd_T40 l0 (wrap64 ((l0.length : Int) - 1))).f1) ((rd_T40 l0 (wrap64 ((l0.length : Int) - 1))).f2) ((rd_T40 l0 (wrap64 ((l0.length : Int) - 1))).f3) ((rd_T40 l0 (wrap64 ((l0.length : Int) - 1))).f4) ((rd_T40 l0 (wrap64 ((l0.length : Int) - 1))).f5) ((rd_T40 l0 (wrap64 ((l0.length : Int) - 1))).f6)).bind fun t105 => (some t105))) else (none)) else (none))) = some r := h
 clear h
 by_cases c3 : (l0.length : Int) = 0
 · rw [if_pos c3] at H
   have c3b0 : ((l0.length : Int) == 0) = true := beq_iff_eq.mpr c3
   have c3b1 : ((l0.length : Int) != 0) = false := bne_eq_false_iff_eq.mpr c3
   clear c3
   obtain rfl := Option.some.inj H
   go_enter Try.func28, Try.ntmps28
   go_wp2
   go_ret
   exact ⟨by first | rfl | (simp [errW_none, errW_some] <;> rfl) | (simp [*, errW_none, errW_some] <;> rfl), by repeat (first | (with_reducible first | exact HB.out | apply below_alloc | apply pw_below_drewN | apply below_drew1) | exact HB.out)⟩
 · rw [if_neg c3] at H
   have c3b0 : ((l0.length : Int) == 0) = false := beq_eq_false_iff_ne.mpr c3
   have c3b1 : ((l0.length : Int) != 0) = true := bne_iff_ne.mpr c3
   have c3b2 : ¬ (l0 = []) := fun h_ => c3 (by rw [h_]; rfl)
   obtain ⟨ji4, hji4⟩ : ∃ j_ : Int, (wrap64 ((l0.length : Int) - 1)) = j_ := ⟨_, rfl⟩
   replace H : (if 0 ≤ (ji4) then (if (ji4) < (l0.length : Int) then (if a1 > ((rd_T40 l0 (ji4)).f1) then ((toc_end.f ((rd_T40 l0 (ji4)).f0) ((rd_T40 l0 (ji4)).f1) ((rd_T40 l0 (ji4)).f2) ((rd_T40 l0 (ji4)).f3) ((rd_T40 l0 (ji4)).f4) ((rd_T40 l0 (ji4)).f5) ((rd_T40 l0 (ji4)).f6)).bind fun t104 => (some (wrap64 (t104 + 16)))) else ((toc_end.f ((rd_T40 l0 (ji4)).f0) ((rd_T40 l0 (ji4)).f1) ((rd_T40 l0 (ji4)).f2) ((rd_T40 l0 (ji4)).f3) ((rd_T40 l0 (ji4)).f4) ((rd_T40 l0 (ji4)).f5) ((rd_T40 l0 (ji4)).f6)).bind fun t105 => (some t105))) else (none)) else (none)) = some r := by first | (rw [hji4] at H; exact H) | (simp only [hji4] at H ⊢; exact H)
   have hji4w : (IntKind.i64.wrap ((l0.length : Int) - 1)) = ji4 := (i64_w _).trans hji4
   by_cases c5 : 0 ≤ (ji4)
   · rw [if_pos c5] at H
     have c5b0 : decide (0 ≤ (ji4)) = true := decide_eq_true c5
     clear c5
     by_cases c6 : (ji4) < (l0.length : Int)
     · rw [if_pos c6] at H
       have c6b0 : decide ((ji4) < (l0.length : Int)) = true := decide_eq_true c6
       clear c6
       by_cases c7 : a1 > ((rd_T40 l0 (ji4)).f1)
       · rw [if_pos c7] at H
         have c7b0 : decide (((rd_T40 l0 (ji4)).f1) < a1) = true := decide_eq_true c7
         clear c7
         replace H := Option.bind_eq_some_iff.mp H
         obtain ⟨t104, A80, H⟩ := H
         replace H : (some (wrap64 (t104 + 16))) = some r := H
         have A8 := Aside0.mk A80
         clear A80
         obtain rfl := Option.some.inj H
         have p102 : 0 ≤ ((ji4) : Int) := of_decide_eq_true (by first | (with_reducible assumption) | assumption)
         have q102 : (ji4) < (l0.length : Int) := of_decide_eq_true (by first | (with_reducible assumption) | assumption)
         obtain ⟨ad102, e102, hx102_0, hx102_1, hx102_2, hx102_3, hx102_4, hx102_5, hx102_6⟩ := at_T40 HR0.out (ji4) p102 q102
         cases e102
         replace p102 := eq_true p102
         replace q102 := eq_true q102
         go_enter Try.func28, Try.ntmps28
         go_wp2_with (first | ((with_reducible refine gate_dst (N := 5) rfl ?_); refine box_event ?hg (N := 5) ?hd (cs := #[.int .i64 0, .int .i64 0, .int .i64 0, .int .i64 0, .int .i64 0, .int .i64 0, .int .i64 0]) (t := 40) ?hr ?_; (case hd => rfl); (case hg => rfl); (case hr => first | (go_simp; done) | (go_simp; rfl)); intro gb103 hg w9 hbox hb; have n0_ := Aside0.mk (below_step (by repeat (first | (with_reducible first | exact HB.out | apply below_alloc | apply pw_below_drewN | apply below_drew1) | exact HB.out)) hb); have n1_ := Aside0.mk (hbox); have n2_ := Aside0.mk ((by rw [hg]; exact (below_size (by repeat (first | (with_reducible first | exact HB.out | apply below_alloc | apply pw_below_drewN | apply below_drew1) | exact HB.out))) : w.heap.size ≤ gb103)); have n3_ := Aside0.mk ((by rw [hg]; exact (below_size (by repeat (first | (with_reducible first | exact HB.out | apply below_alloc | apply pw_below_drewN | apply below_drew1) | exact HB.out))) : w.heap.size ≤ gb103)); clear HB; have HB := n0_; have BK103 := n1_; have GW103 := n2_; have GE103 := n3_; clear n0_ n1_ n2_ n3_; clear hb hbox hg; obtain ⟨hcz10_0, hcz10_1, hcz10_2, hcz10_3, hcz10_4, hcz10_5, hcz10_6⟩ := cel7 BK103.out; obtain ⟨hfz10_0, hfz10_1, hfz10_2, hfz10_3, hfz10_4, hfz10_5, hfz10_6⟩ := frz7 BK103.out) | ((with_reducible refine gate_callee (f := 26) rfl ?_); refine goesL_ (some 20) rfl rfl Try.func26 (by kernel_rfl) rfl #[.agg #[.int .i64 ((rd_T40 l0 (ji4)).f0), .int .i64 ((rd_T40 l0 (ji4)).f1), .int .i64 ((rd_T40 l0 (ji4)).f2), .int .i64 ((rd_T40 l0 (ji4)).f3), .int .i64 ((rd_T40 l0 (ji4)).f4), .int .i64 ((rd_T40 l0 (ji4)).f5), .int .i64 ((rd_T40 l0 (ji4)).f6)]] rfl (by (try simp only [List.map_toArray, List.map_cons, List.map_nil]); first | done | (simp only [hji4]; rfl) | rfl | (simp only [List.length_drop, List.length_take]; rfl)) ?_; (with_reducible refine (toc_end.calls ((rd_T40 l0 (ji4)).f0) ((rd_T40 l0 (ji4)).f1) ((rd_T40 l0 (ji4)).f2) ((rd_T40 l0 (ji4)).f3) ((rd_T40 l0 (ji4)).f4) ((rd_T40 l0 (ji4)).f5) ((rd_T40 l0 (ji4)).f6) t104 _ A8.out).mono ?_); rintro e w11 ⟨rfl, hb⟩; refine ⟨_, rfl, ?_⟩; have n0_ := Aside0.mk (blk_below (g := gb103) (o := .cells #[.int .i64 ((rd_T40 l0 (ji4)).f0), .int .i64 ((rd_T40 l0 (ji4)).f1), .int .i64 ((rd_T40 l0 (ji4)).f2), .int .i64 ((rd_T40 l0 (ji4)).f3), .int .i64 ((rd_T40 l0 (ji4)).f4), .int .i64 ((rd_T40 l0 (ji4)).f5), .int .i64 ((rd_T40 l0 (ji4)).f6)] 40 (0, 0)) (by (with_reducible repeat (first | refine blk_drewN ?_ _ | refine blk_drew ?_ | refine blk_alloc ?_ _)); refine blk_put (cs := #[.int .i64 ((rd_T40 l0 (ji4)).f0), .int .i64 ((rd_T40 l0 (ji4)).f1), .int .i64 ((rd_T40 l0 (ji4)).f2), .int .i64 ((rd_T40 l0 (ji4)).f3), .int .i64 ((rd_T40 l0 (ji4)).f4), .int .i64 ((rd_T40 l0 (ji4)).f5), .int .i64 0]) ?_ 6 _ rfl; (with_reducible repeat (first | refine blk_drewN ?_ _ | refine blk_drew ?_ | refine blk_alloc ?_ _)); refine blk_put (cs := #[.int .i64 ((rd_T40 l0 (ji4)).f0), .int .i64 ((rd_T40 l0 (ji4)).f1), .int .i64 ((rd_T40 l0 (ji4)).f2), .int .i64 ((rd_T40 l0 (ji4)).f3), .int .i64 ((rd_T40 l0 (ji4)).f4), .int .i64 0, .int .i64 0]) ?_ 5 _ rfl; (with_reducible repeat (first | refine blk_drewN ?_ _ | refine blk_drew ?_ | refine blk_alloc ?_ _)); refine blk_put (cs := #[.int .i64 ((rd_T40 l0 (ji4)).f0), .int .i64 ((rd_T40 l0 (ji4)).f1), .int .i64 ((rd_T40 l0 (ji4)).f2), .int .i64 ((rd_T40 l0 (ji4)).f3), .int .i64 0, .int .i64 0, .int .i64 0]) ?_ 4 _ rfl; (with_reducible repeat (first | refine blk_drewN ?_ _ | refine blk_drew ?_ | refine blk_alloc ?_ _)); refine blk_put (cs := #[.int .i64 ((rd_T40 l0 (ji4)).f0), .int .i64 ((rd_T40 l0 (ji4)).f1), .int .i64 ((rd_T40 l0 (ji4)).f2), .int .i64 0, .int .i64 0, .int .i64 0, .int .i64 0]) ?_ 3 _ rfl; (with_reducible repeat (first | refine blk_drewN ?_ _ | refine blk_drew ?_ | refine blk_alloc ?_ _)); refine blk_put (cs := #[.int .i64 ((rd_T40 l0 (ji4)).f0), .int .i64 ((rd_T40 l0 (ji4)).f1), .int .i64 0, .int .i64 0, .int .i64 0, .int .i64 0, .int .i64 0]) ?_ 2 _ rfl; (with_reducible repeat (first | refine blk_drewN ?_ _ | refine blk_drew ?_ | refine blk_alloc ?_ _)); refine blk_put (cs := #[.int .i64 ((rd_T40 l0 (ji4)).f0), .int .i64 0, .int .i64 0, .int .i64 0, .int .i64 0, .int .i64 0, .int .i64 0]) ?_ 1 _ rfl; (with_reducible repeat (first | refine blk_drewN ?_ _ | refine blk_drew ?_ | refine blk_alloc ?_ _)); refine blk_put (cs := #[.int .i64 0, .int .i64 0, .int .i64 0, .int .i64 0, .int .i64 0, .int .i64 0, .int .i64 0]) ?_ 0 _ rfl; (with_reducible repeat (first | refine blk_drewN ?_ _ | refine blk_drew ?_ | refine blk_alloc ?_ _)); exact BK103.out) hb); have n1_ := Aside0.mk (below_step (by repeat (first | (with_reducible first | exact HB.out | apply below_alloc | apply pw_below_drewN | apply below_drew1 | refine below_set ?_ GE103.out) | exact HB.out)) hb); clear BK103; clear HB; have BK103 := n0_; have HB := n1_; clear n0_ n1_; (try clear hb); (try clear hb2); (try clear hk); (try clear hi)))
         go_ret
         exact ⟨by first | rfl | (simp [errW_none, errW_some] <;> rfl) | (simp only [← hji4]; first | rfl | (simp [errW_none, errW_some] <;> rfl)) | (simp [*, errW_none, errW_some] <;> rfl), by repeat (first | (with_reducible first | exact HB.out | apply below_alloc | apply pw_below_drewN | apply below_drew1 | refine below_set ?_ GE103.out) | exact HB.out)⟩
       · rw [if_neg c7] at H
         have c7b0 : decide (((rd_T40 l0 (ji4)).f1) < a1) = false := decide_eq_false c7
         clear c7
         replace H := Option.bind_eq_some_iff.mp H
         obtain ⟨t105, A120, H⟩ := H
         replace H : (some t105) = some r := H
         have A12 := Aside0.mk A120
         clear A120
         obtain rfl := Option.some.inj H
         have p102 : 0 ≤ ((ji4) : Int) := of_decide_eq_true (by first | (with_reducible assumption) | assumption)
         have q102 : (ji4) < (l0.length : Int) := of_decide_eq_true (by first | (with_reducible assumption) | assumption)
         obtain ⟨ad102, e102, hx102_0, hx102_1, hx102_2, hx102_3, hx102_4, hx102_5, hx102_6⟩ := at_T40 HR0.out (ji4) p102 q102
         cases e102
         replace p102 := eq_true p102
         replace q102 := eq_true q102
         go_enter Try.func28, Try.ntmps28
         go_wp2_with (first | ((with_reducible refine gate_dst (N := 5) rfl ?_); refine box_event ?hg (N := 5) ?hd (cs := #[.int .i64 0, .int .i64 0, .int .i64 0, .int .i64 0, .int .i64 0, .int .i64 0, .int .i64 0]) (t := 40) ?hr ?_; (case hd => rfl); (case hg => rfl); (case hr => first | (go_simp; done) | (go_simp; rfl)); intro gb103 hg w13 hbox hb; have n0_ := Aside0.mk (below_step (by repeat (first | (with_reducible first | exact HB.out | apply below_alloc | apply pw_below_drewN | apply below_drew1) | exact HB.out)) hb); have n1_ := Aside0.mk (hbox); have n2_ := Aside0.mk ((by rw [hg]; exact (below_size (by repeat (first | (with_reducible first | exact HB.out | apply below_alloc | apply pw_below_drewN | apply below_drew1) | exact HB.out))) : w.heap.size ≤ gb103)); have n3_ := Aside0.mk ((by rw [hg]; exact (below_size (by repeat (first | (with_reducible first | exact HB.out | apply below_alloc | apply pw_below_drewN | apply below_drew1) | exact HB.out))) : w.heap.size ≤ gb103)); clear HB; have HB := n0_; have BK103 := n1_; have GW103 := n2_; have GE103 := n3_; clear n0_ n1_ n2_ n3_; clear hb hbox hg; obtain ⟨hcz14_0, hcz14_1, hcz14_2, hcz14_3, hcz14_4, hcz14_5, hcz14_6⟩ := cel7 BK103.out; obtain ⟨hfz14_0, hfz14_1, hfz14_2, hfz14_3, hfz14_4, hfz14_5, hfz14_6⟩ := frz7 BK103.out) | ((with_reducible refine gate_callee (f := 26) rfl ?_); refine goesL_ (some 23) rfl rfl Try.func26 (by kernel_rfl) rfl #[.agg #[.int .i64 ((rd_T40 l0 (ji4)).f0), .int .i64 ((rd_T40 l0 (ji4)).f1), .int .i64 ((rd_T40 l0 (ji4)).f2), .int .i64 ((rd_T40 l0 (ji4)).f3), .int .i64 ((rd_T40 l0 (ji4)).f4), .int .i64 ((rd_T40 l0 (ji4)).f5), .int .i64 ((rd_T40 l0 (ji4)).f6)]] rfl (by (try simp only [List.map_toArray, List.map_cons, List.map_nil]); first | done | (simp only [hji4]; rfl) | rfl | (simp only [List.length_drop, List.length_take]; rfl)) ?_; (with_reducible refine (toc_end.calls ((rd_T40 l0 (ji4)).f0) ((rd_T40 l0 (ji4)).f1) ((rd_T40 l0 (ji4)).f2) ((rd_T40 l0 (ji4)).f3) ((rd_T40 l0 (ji4)).f4) ((rd_T40 l0 (ji4)).f5) ((rd_T40 l0 (ji4)).f6) t105 _ A12.out).mono ?_); rintro e w15 ⟨rfl, hb⟩; refine ⟨_, rfl, ?_⟩; have n0_ := Aside0.mk (blk_below (g := gb103) (o := .cells #[.int .i64 ((rd_T40 l0 (ji4)).f0), .int .i64 ((rd_T40 l0 (ji4)).f1), .int .i64 ((rd_T40 l0 (ji4)).f2), .int .i64 ((rd_T40 l0 (ji4)).f3), .int .i64 ((rd_T40 l0 (ji4)).f4), .int .i64 ((rd_T40 l0 (ji4)).f5), .int .i64 ((rd_T40 l0 (ji4)).f6)] 40 (0, 0)) (by (with_reducible repeat (first | refine blk_drewN ?_ _ | refine blk_drew ?_ | refine blk_alloc ?_ _)); refine blk_put (cs := #[.int .i64 ((rd_T40 l0 (ji4)).f0), .int .i64 ((rd_T40 l0 (ji4)).f1), .int .i64 ((rd_T40 l0 (ji4)).f2), .int .i64 ((rd_T40 l0 (ji4)).f3), .int .i64 ((rd_T40 l0 (ji4)).f4), .int .i64 ((rd_T40 l0 (ji4)).f5), .int .i64 0]) ?_ 6 _ rfl; (with_reducible repeat (first | refine blk_drewN ?_ _ | refine blk_drew ?_ | refine blk_alloc ?_ _)); refine blk_put (cs := #[.int .i64 ((rd_T40 l0 (ji4)).f0), .int .i64 ((rd_T40 l0 (ji4)).f1), .int .i64 ((rd_T40 l0 (ji4)).f2), .int .i64 ((rd_T40 l0 (ji4)).f3), .int .i64 ((rd_T40 l0 (ji4)).f4), .int .i64 0, .int .i64 0]) ?_ 5 _ rfl; (with_reducible repeat (first | refine blk_drewN ?_ _ | refine blk_drew ?_ | refine blk_alloc ?_ _)); refine blk_put (cs := #[.int .i64 ((rd_T40 l0 (ji4)).f0), .int .i64 ((rd_T40 l0 (ji4)).f1), .int .i64 ((rd_T40 l0 (ji4)).f2), .int .i64 ((rd_T40 l0 (ji4)).f3), .int .i64 0, .int .i64 0, .int .i64 0]) ?_ 4 _ rfl; (with_reducible repeat (first | refine blk_drewN ?_ _ | refine blk_drew ?_ | refine blk_alloc ?_ _)); refine blk_put (cs := #[.int .i64 ((rd_T40 l0 (ji4)).f0), .int .i64 ((rd_T40 l0 (ji4)).f1), .int .i64 ((rd_T40 l0 (ji4)).f2), .int .i64 0, .int .i64 0, .int .i64 0, .int .i64 0]) ?_ 3 _ rfl; (with_reducible repeat (first | refine blk_drewN ?_ _ | refine blk_drew ?_ | refine blk_alloc ?_ _)); refine blk_put (cs := #[.int .i64 ((rd_T40 l0 (ji4)).f0), .int .i64 ((rd_T40 l0 (ji4)).f1), .int .i64 0, .int .i64 0, .int .i64 0, .int .i64 0, .int .i64 0]) ?_ 2 _ rfl; (with_reducible repeat (first | refine blk_drewN ?_ _ | refine blk_drew ?_ | refine blk_alloc ?_ _)); refine blk_put (cs := #[.int .i64 ((rd_T40 l0 (ji4)).f0), .int .i64 0, .int .i64 0, .int .i64 0, .int .i64 0, .int .i64 0, .int .i64 0]) ?_ 1 _ rfl; (with_reducible repeat (first | refine blk_drewN ?_ _ | refine blk_drew ?_ | refine blk_alloc ?_ _)); refine blk_put (cs := #[.int .i64 0, .int .i64 0, .int .i64 0, .int .i64 0, .int .i64 0, .int .i64 0, .int .i64 0]) ?_ 0 _ rfl; (with_reducible repeat (first | refine blk_drewN ?_ _ | refine blk_drew ?_ | refine blk_alloc ?_ _)); exact BK103.out) hb); have n1_ := Aside0.mk (below_step (by repeat (first | (with_reducible first | exact HB.out | apply below_alloc | apply pw_below_drewN | apply below_drew1 | refine below_set ?_ GE103.out) | exact HB.out)) hb); clear BK103; clear HB; have BK103 := n0_; have HB := n1_; clear n0_ n1_; (try clear hb); (try clear hb2); (try clear hk); (try clear hi)))
         go_ret
         exact ⟨by first | rfl | (simp [errW_none, errW_some] <;> rfl) | (simp only [← hji4]; first | rfl | (simp [errW_none, errW_some] <;> rfl)) | (simp [*, errW_none, errW_some] <;> rfl), by repeat (first | (with_reducible first | exact HB.out | apply below_alloc | apply pw_below_drewN | apply below_drew1 | refine below_set ?_ GE103.out) | exact HB.out)⟩
     · rw [if_neg c6] at H
       exact absurd H (by simp)
   · rw [if_neg c5] at H
     exact absurd H (by simp)
end Go.Proofs.Ytjhepdcdhabcjaa.G
namespace Go.Proofs.Ytjhepdcdhabcjaa.G
open Go.RowKit Go.Proofs.YtjhepdcdhabcjaaW.PrintWords Go.Proofs.YtjhepdcdhabcjaaW.PrintLast Go.Proofs.YtjhepdcdhabcjaaW.PrintMore
attribute [local go_sem] max2_int min2_int max_two min_two max_three min_three max_four min_four   -- for this text's walks alone
set_option linter.unusedVariables false
set_option linter.unusedSimpArgs false
def toc_rules_5.f (l0 : List (S40)) (a1_0 : Int) (a1_1 : Int) (a1_2 : Int) (a1_3 : Int) (a1_4 : Int) (a1_5 : Int) (a1_6 : Int) : Option (Bool) := (toc_start.f l0 a1_1).bind fun t400 => (some (a1_2 == t400))
def toc_rules_5.T1 : Bool × List (List Nat × List Nat) := (true, [([], []), ([0], [0]), ([], []), ([], []), ([3], [3]), ([2, 4], [2, 4]), ([1, 5], [1, 5]), ([6, 5, 0, 1, 2, 3, 4, 5, 6], [6])])
def toc_rules_5.B1 : List Nat := [0, 1, 0, 0, 8, 28, 63, 127]
theorem toc_rules_5.tab1 : rtab .any (opsOf Try.f38 1) = toc_rules_5.T1 := by kernel_rfl
theorem toc_rules_5.bits1 : waitsOk toc_rules_5.T1.2 toc_rules_5.B1 = true := by kernel_rfl
set_option maxHeartbeats 8000000 in
set_option maxRecDepth 100000 in
theorem toc_rules_5.calls (A0 : Option Addr) (c0 : Nat) (l0 : List (S40)) (a1_0 : Int) (a1_1 : Int) (a1_2 : Int) (a1_3 : Int) (a1_4 : Int) (a1_5 : Int) (a1_6 : Int) (r : Bool) (w : World) (hr0 : Kd.C k40 w A0 l0.length l0) (hc0 : l0.length ≤ c0) (h : toc_rules_5.f l0 a1_0 a1_1 a1_2 a1_3 a1_4 a1_5 a1_6 = some r) :
 Calls Try.prog 38 #[.slice A0 l0.length c0, .agg #[.int .i64 a1_0, .int .i64 a1_1, .int .i64 a1_2, .int .i64 a1_3, .int .i64 a1_4, .int .i64 a1_5, .int .i64 a1_6]] w fun e w' => e = .returned (.bool r) ∧ Below w.heap.size w w' := by
 have hu40 := Try.underlying40
 have HR0 := Aside0.mk hr0
 have HC0 := Aside0.mk hc0
 clear hr0 hc0
 have HB := Aside0.mk (Below.refl w.heap.size w)
 have H : ((toc_start.f l0 a1_1).bind fun t400 => (some (a1_2 == t400))) = some r := h
 clear h
 replace H := Option.bind_eq_some_iff.mp H
 obtain ⟨t400, A30, H⟩ := H
 replace H : (some (a1_2 == t400)) = some r := H
 have A3 := Aside0.mk A30
 clear A30
 obtain rfl := Option.some.inj H
 go_enter Try.func38, Try.ntmps38
 try go_wp2_with (first | ((with_reducible refine gate_dst (N := 3) rfl ?_); refine box_event ?hg (N := 3) ?hd (cs := #[.int .i64 a1_0, .int .i64 a1_1, .int .i64 a1_2, .int .i64 a1_3, .int .i64 a1_4, .int .i64 a1_5, .int .i64 a1_6]) (t := 40) ?hr ?_; (case hd => rfl); (case hg => rfl); (case hr => first | (go_simp; done) | (go_simp; rfl)); intro gb399 hg w4 hbox hb; have n0_ := Aside0.mk (below_step (by repeat (first | (with_reducible first | exact HB.out | apply below_alloc | apply pw_below_drewN | apply below_drew1) | exact HB.out)) hb); have n1_ := Aside0.mk (hbox); have n2_ := Aside0.mk ((by rw [hg]; exact (below_size (by repeat (first | (with_reducible first | exact HB.out | apply below_alloc | apply pw_below_drewN | apply below_drew1) | exact HB.out))) : w.heap.size ≤ gb399)); have n3_ := Aside0.mk ((by rw [hg]; exact (below_size (by repeat (first | (with_reducible first | exact HB.out | apply below_alloc | apply pw_below_drewN | apply below_drew1) | exact HB.out))) : w.heap.size ≤ gb399)); clear HB; have HB := n0_; have BK399 := n1_; have GW399 := n2_; have GE399 := n3_; clear n0_ n1_ n2_ n3_; clear hb hbox hg))
 have n0_ := Aside0.mk (blk_drew BK399.out)
 have n1_ := Aside0.mk (below_drew1 HB.out)
 clear BK399
 clear HB
 have BK399 := n0_
 have HB := n1_
 clear n0_ n1_
 refine start_ (n := 8) (S := fun w' => w'.cell? ⟨gb399, 0, none⟩ = some (.int .i64 a1_0) ∧ w'.cell? ⟨gb399, 1, none⟩ = some (.int .i64 a1_1) ∧ w'.cell? ⟨gb399, 2, none⟩ = some (.int .i64 a1_2) ∧ w'.cell? ⟨gb399, 3, none⟩ = some (.int .i64 a1_3) ∧ w'.cell? ⟨gb399, 4, none⟩ = some (.int .i64 a1_4) ∧ w'.cell? ⟨gb399, 5, none⟩ = some (.int .i64 a1_5) ∧ w'.cell? ⟨gb399, 6, none⟩ = some (.int .i64 a1_6)) (ds := []) #[false, false, false, false, false, false, false, false] (by kernel_rfl) rfl rfl ⟨(blk_cell BK399.out 0).trans rfl, (blk_cell BK399.out 1).trans rfl, (blk_cell BK399.out 2).trans rfl, (blk_cell BK399.out 3).trans rfl, (blk_cell BK399.out 4).trans rfl, (blk_cell BK399.out 5).trans rfl, (blk_cell BK399.out 6).trans rfl⟩ (fun hHeld => ?_); refine with_tabW toc_rules_5.tab1 toc_rules_5.bits1 (fun HT_ HW_ => ?_)
 generalize w4.drew = w5 at BK399 HB hHeld ⊢
 refine pure_ (i := 0) (N := some 5) (v := ?_) (a' := ?_) #[true, false, false, false, false, false, false, false] rfl rfl (any_of HT_.out (by kernel_rfl)) (fun _ _ _ h => h) (Or.inl ⟨by rfl, ?_⟩) ?_ ?_
 rotate_left
 · intro w'
   go_simp
   with_reducible rfl
 rotate_left
 · simp only [Act.put, List.setIfInBounds_toArray, List.set_cons_zero, List.set_cons_succ, i64_w, i32_w]
   rfl
 refine pure_ (i := 2) (N := some 7) (v := ?_) (a' := ?_) #[true, false, true, false, false, false, false, false] rfl rfl (any_of HT_.out (by kernel_rfl)) (fun _ _ _ h => h) (Or.inl ⟨by rfl, ?_⟩) ?_ ?_
 rotate_left
 · intro w'
   go_simp
   with_reducible rfl
 rotate_left
 · simp only [Act.put, List.setIfInBounds_toArray, List.set_cons_zero, List.set_cons_succ, i64_w, i32_w]
   rfl
 refine pure_ (i := 3) (N := some 8) (v := ?_) (a' := ?_) #[true, false, true, true, false, false, false, false] rfl rfl (any_of HT_.out (by kernel_rfl)) (fun _ _ _ h => h) (Or.inl ⟨by rfl, ?_⟩) ?_ ?_
 rotate_left
 · intro w'
   go_simp
   with_reducible rfl
 rotate_left
 · simp only [Act.put, List.setIfInBounds_toArray, List.set_cons_zero, List.set_cons_succ, i64_w, i32_w]
   rfl
 refine take_ (i := 1) (N := some 6) (v := ?_) (a' := ?_) #[true, true, true, true, false, false, false, false] rfl rfl (take_ofW HT_.out HW_.out (by kernel_rfl)) (fun _ _ _ h => h) (Or.inl ⟨by rfl, ?_⟩) hHeld ?_ ?_
 rotate_left
 · rintro w' ⟨s0, s1, s2, s3, s4, s5, s6⟩
   go_simp
   with_reducible rfl
 rotate_left
 · simp only [Act.put, List.setIfInBounds_toArray, List.set_cons_zero, List.set_cons_succ, i64_w, i32_w]
   rfl
 refine take_ (i := 4) (N := some 9) (v := ?_) (a' := ?_) #[true, true, true, true, true, false, false, false] rfl rfl (take_ofW HT_.out HW_.out (by kernel_rfl)) (fun _ _ _ h => h) (Or.inl ⟨by rfl, ?_⟩) hHeld ?_ ?_
 rotate_left
 · rintro w' ⟨s0, s1, s2, s3, s4, s5, s6⟩
   go_simp
   with_reducible rfl
 rotate_left
 · simp only [Act.put, List.setIfInBounds_toArray, List.set_cons_zero, List.set_cons_succ, i64_w, i32_w]
   rfl
 refine one_ (i := 5) (N := some 10) #[true, true, true, true, true, true, false, false] rfl rfl (one_of HT_.out (by kernel_rfl)) (by decide) (fun K hK => ?_)
 refine goes_ Try.func28 (by kernel_rfl) rfl #[.slice A0 l0.length c0, .int .i64 a1_1] (by rfl) rfl rfl (by (try simp only [List.map_toArray, List.map_cons, List.map_nil]); first | done | rfl | (simp only [List.length_drop, List.length_take]; rfl)) ?_
 with_reducible refine (toc_start.calls _ _ l0 a1_1 t400 _ ?side1 ?side2 A3.out).mono ?_
 (case side1 => repeat (first | exact (Kd.C_below HR0.out HB.out) | (with_reducible refine Kd.C_alloc ?_ _) | (with_reducible refine Kd.C_drewN ?_ _) | (with_reducible refine Kd.C_drew ?_)))
 (case side2 => exact HC0.out)
 rintro e w6 ⟨rfl, hb⟩
 refine ⟨_, rfl, ?_⟩
 have n0_ := Aside0.mk (blk_below (g := gb399) (o := .cells #[.int .i64 a1_0, .int .i64 a1_1, .int .i64 a1_2, .int .i64 a1_3, .int .i64 a1_4, .int .i64 a1_5, .int .i64 a1_6] 40 (0, 0)) (by (with_reducible repeat (first | refine blk_drewN ?_ _ | refine blk_drew ?_ | refine blk_alloc ?_ _)); exact BK399.out) hb)
 have n1_ := Aside0.mk (below_step (by repeat (first | (with_reducible first | exact HB.out | apply below_alloc | apply pw_below_drewN | apply below_drew1 | refine below_set ?_ GE399.out) | exact HB.out)) hb)
 clear BK399
 clear HB
 have BK399 := n0_
 have HB := n1_
 clear n0_ n1_
 (try clear hb)
 (try clear hb2)
 (try clear hk)
 (try clear hi)
 refine hK.out _ _ ⟨(blk_cell BK399.out 0).trans rfl, (blk_cell BK399.out 1).trans rfl, (blk_cell BK399.out 2).trans rfl, (blk_cell BK399.out 3).trans rfl, (blk_cell BK399.out 4).trans rfl, (blk_cell BK399.out 5).trans rfl, (blk_cell BK399.out 6).trans rfl⟩ (fun hHeld => ?_)
 clear hK K
 refine norm_ (a' := ?_) ?_ ?_
 rotate_left
 · show Act.put _ (some 10) _ = _
   simp only [Act.put, List.setIfInBounds_toArray, List.set_cons_zero, List.set_cons_succ, i64_w, i32_w]
   rfl
 refine pure_ (i := 6) (N := some 11) (v := ?_) (a' := ?_) #[true, true, true, true, true, true, true, false] rfl rfl (any_of HT_.out (by kernel_rfl)) (fun _ _ _ h => h) (Or.inl ⟨by rfl, ?_⟩) ?_ ?_
 rotate_left
 · intro w'
   go_simp
   with_reducible rfl
 rotate_left
 · simp only [Act.put, List.setIfInBounds_toArray, List.set_cons_zero, List.set_cons_succ, i64_w, i32_w]
   rfl
 refine pure_ (i := 7) (N := some 4) (v := ?_) (a' := ?_) #[true, true, true, true, true, true, true, true] rfl rfl (any_of HT_.out (by kernel_rfl)) (fun _ _ _ h => h) (Or.inl ⟨by rfl, ?_⟩) ?_ ?_
 rotate_left
 · intro w'
   go_simp
   with_reducible rfl
 rotate_left
 · simp only [Act.put, List.setIfInBounds_toArray, List.set_cons_zero, List.set_cons_succ, i64_w, i32_w]
   rfl
 refine done_ (done_of HT_.out (by kernel_rfl)) ?_
 try go_wp2
 go_ret
 exact ⟨by first | rfl | (simp [errW_none, errW_some] <;> rfl) | (simp [*, errW_none, errW_some] <;> rfl), by repeat (first | (with_reducible first | exact HB.out | apply below_alloc | apply pw_below_drewN | apply below_drew1 | refine below_set ?_ GE399.out) | exact HB.out)⟩
end Go.Proofs.Ytjhepdcdhabcjaa.G
namespace Go.Proofs.Ytjhepdcdhabcjaa.G
open Go.RowKit Go.Proofs.YtjhepdcdhabcjaaW.PrintWords Go.Proofs.YtjhepdcdhabcjaaW.PrintLast Go.Proofs.YtjhepdcdhabcjaaW.PrintMore
attribute [local go_sem] max2_int min2_int max_two min_two max_three min_three max_four min_four   -- for this text's walks alone
set_option linter.unusedVariables false
set_option linter.unusedSimpArgs false
def toc_rules_7.f (l0 : List (S40)) (a1_0 : Int) (a1_1 : Int) (a1_2 : Int) (a1_3 : Int) (a1_4 : Int) (a1_5 : Int) (a1_6 : Int) : Option (Bool) := if a1_6 = 0 then (some true) else (if a1_6 ≥ 1 then (if a1_6 ≤ 1024 then (if (Int.tmod a1_3 a1_6) = 0 then (some ((Int.tmod (wrap64 (a1_4 - a1_2)) a1_6) == 0)) else (some false)) else (some false)) else (some false))
set_option maxHeartbeats 8000000 in
set_option maxRecDepth 100000 in
theorem toc_rules_7.calls (A0 : Option Addr) (c0 : Nat) (l0 : List (S40)) (a1_0 : Int) (a1_1 : Int) (a1_2 : Int) (a1_3 : Int) (a1_4 : Int) (a1_5 : Int) (a1_6 : Int) (r : Bool) (w : World) (hr0 : Kd.C k40 w A0 l0.length l0) (hc0 : l0.length ≤ c0) (h : toc_rules_7.f l0 a1_0 a1_1 a1_2 a1_3 a1_4 a1_5 a1_6 = some r) :
 Calls Try.prog 40 #[.slice A0 l0.length c0, .agg #[.int .i64 a1_0, .int .i64 a1_1, .int .i64 a1_2, .int .i64 a1_3, .int .i64 a1_4, .int .i64 a1_5, .int .i64 a1_6]] w fun e w' => e = .returned (.bool r) ∧ Below w.heap.size w w' := by
 have hu40 := Try.underlying40
 have HR0 := Aside0.mk hr0
 have HC0 := Aside0.mk hc0
 clear hr0 hc0
 have HB := Aside0.mk (Below.refl w.heap.size w)
 have H : (if a1_6 = 0 then (some true) else (if a1_6 ≥ 1 then (if a1_6 ≤ 1024 then (if (Int.tmod a1_3 a1_6) = 0 then (some ((Int.tmod (wrap64 (a1_4 - a1_2)) a1_6) == 0)) else (some false)) else (some false)) else (some false))) = some r := h
 clear h
 by_cases c3 : a1_6 = 0
 · rw [if_pos c3] at H
   have c3b0 : (a1_6 == 0) = true := beq_iff_eq.mpr c3
   have c3b1 : (a1_6 != 0) = false := bne_eq_false_iff_eq.mpr c3
   clear c3
   obtain rfl := Option.some.inj H
   go_enter Try.func40, Try.ntmps40
   go_wp2_with (first | ((with_reducible refine gate_dst (N := 3) rfl ?_); refine box_event ?hg (N := 3) ?hd (cs := #[.int .i64 a1_0, .int .i64 a1_1, .int .i64 a1_2, .int .i64 a1_3, .int .i64 a1_4, .int .i64 a1_5, .int .i64 a1_6]) (t := 40) ?hr ?_; (case hd => rfl); (case hg => rfl); (case hr => first | (go_simp; done) | (go_simp; rfl)); intro gb401 hg w4 hbox hb; have n0_ := Aside0.mk (below_step (by repeat (first | (with_reducible first | exact HB.out | apply below_alloc | apply pw_below_drewN | apply below_drew1) | exact HB.out)) hb); have n1_ := Aside0.mk (hbox); have n2_ := Aside0.mk ((by rw [hg]; exact (below_size (by repeat (first | (with_reducible first | exact HB.out | apply below_alloc | apply pw_below_drewN | apply below_drew1) | exact HB.out))) : w.heap.size ≤ gb401)); have n3_ := Aside0.mk ((by rw [hg]; exact (below_size (by repeat (first | (with_reducible first | exact HB.out | apply below_alloc | apply pw_below_drewN | apply below_drew1) | exact HB.out))) : w.heap.size ≤ gb401)); clear HB; have HB := n0_; have BK401 := n1_; have GW401 := n2_; have GE401 := n3_; clear n0_ n1_ n2_ n3_; clear hb hbox hg; obtain ⟨hcz5_0, hcz5_1, hcz5_2, hcz5_3, hcz5_4, hcz5_5, hcz5_6⟩ := cel7 BK401.out; obtain ⟨hfz5_0, hfz5_1, hfz5_2, hfz5_3, hfz5_4, hfz5_5, hfz5_6⟩ := frz7 BK401.out))
   go_ret
   exact ⟨by first | rfl | (simp [errW_none, errW_some] <;> rfl) | (simp [*, errW_none, errW_some] <;> rfl), by repeat (first | (with_reducible first | exact HB.out | apply below_alloc | apply pw_below_drewN | apply below_drew1 | refine below_set ?_ GE401.out) | exact HB.out)⟩
 · rw [if_neg c3] at H
   have c3b0 : (a1_6 == 0) = false := beq_eq_false_iff_ne.mpr c3
   have c3b1 : (a1_6 != 0) = true := bne_iff_ne.mpr c3
   by_cases c6 : a1_6 ≥ 1
   · rw [if_pos c6] at H
     have c6b0 : decide (1 ≤ a1_6) = true := decide_eq_true c6
     clear c6
     by_cases c7 : a1_6 ≤ 1024
     · rw [if_pos c7] at H
       have c7b0 : decide (a1_6 ≤ 1024) = true := decide_eq_true c7
       clear c7
       by_cases c8 : (Int.tmod a1_3 a1_6) = 0
       · rw [if_pos c8] at H
         have c8b0 : ((Int.tmod a1_3 a1_6) == 0) = true := beq_iff_eq.mpr c8
         have c8b1 : ((Int.tmod a1_3 a1_6) != 0) = false := bne_eq_false_iff_eq.mpr c8
         clear c8
         obtain rfl := Option.some.inj H
         go_enter Try.func40, Try.ntmps40
         go_wp2_with (first | ((with_reducible refine gate_dst (N := 3) rfl ?_); refine box_event ?hg (N := 3) ?hd (cs := #[.int .i64 a1_0, .int .i64 a1_1, .int .i64 a1_2, .int .i64 a1_3, .int .i64 a1_4, .int .i64 a1_5, .int .i64 a1_6]) (t := 40) ?hr ?_; (case hd => rfl); (case hg => rfl); (case hr => first | (go_simp; done) | (go_simp; rfl)); intro gb401 hg w9 hbox hb; have n0_ := Aside0.mk (below_step (by repeat (first | (with_reducible first | exact HB.out | apply below_alloc | apply pw_below_drewN | apply below_drew1) | exact HB.out)) hb); have n1_ := Aside0.mk (hbox); have n2_ := Aside0.mk ((by rw [hg]; exact (below_size (by repeat (first | (with_reducible first | exact HB.out | apply below_alloc | apply pw_below_drewN | apply below_drew1) | exact HB.out))) : w.heap.size ≤ gb401)); have n3_ := Aside0.mk ((by rw [hg]; exact (below_size (by repeat (first | (with_reducible first | exact HB.out | apply below_alloc | apply pw_below_drewN | apply below_drew1) | exact HB.out))) : w.heap.size ≤ gb401)); clear HB; have HB := n0_; have BK401 := n1_; have GW401 := n2_; have GE401 := n3_; clear n0_ n1_ n2_ n3_; clear hb hbox hg; obtain ⟨hcz10_0, hcz10_1, hcz10_2, hcz10_3, hcz10_4, hcz10_5, hcz10_6⟩ := cel7 BK401.out; obtain ⟨hfz10_0, hfz10_1, hfz10_2, hfz10_3, hfz10_4, hfz10_5, hfz10_6⟩ := frz7 BK401.out))
         go_ret
         exact ⟨by first | rfl | (simp [errW_none, errW_some] <;> rfl) | (simp [*, errW_none, errW_some] <;> rfl), by repeat (first | (with_reducible first | exact HB.out | apply below_alloc | apply pw_below_drewN | apply below_drew1 | refine below_set ?_ GE401.out) | exact HB.out)⟩
       · rw [if_neg c8] at H
         have c8b0 : ((Int.tmod a1_3 a1_6) == 0) = false := beq_eq_false_iff_ne.mpr c8
         have c8b1 : ((Int.tmod a1_3 a1_6) != 0) = true := bne_iff_ne.mpr c8
         obtain rfl := Option.some.inj H
         go_enter Try.func40, Try.ntmps40
         go_wp2_with (first | ((with_reducible refine gate_dst (N := 3) rfl ?_); refine box_event ?hg (N := 3) ?hd (cs := #[.int .i64 a1_0, .int .i64 a1_1, .int .i64 a1_2, .int .i64 a1_3, .int .i64 a1_4, .int .i64 a1_5, .int .i64 a1_6]) (t := 40) ?hr ?_; (case hd => rfl); (case hg => rfl); (case hr => first | (go_simp; done) | (go_simp; rfl)); intro gb401 hg w11 hbox hb; have n0_ := Aside0.mk (below_step (by repeat (first | (with_reducible first | exact HB.out | apply below_alloc | apply pw_below_drewN | apply below_drew1) | exact HB.out)) hb); have n1_ := Aside0.mk (hbox); have n2_ := Aside0.mk ((by rw [hg]; exact (below_size (by repeat (first | (with_reducible first | exact HB.out | apply below_alloc | apply pw_below_drewN | apply below_drew1) | exact HB.out))) : w.heap.size ≤ gb401)); have n3_ := Aside0.mk ((by rw [hg]; exact (below_size (by repeat (first | (with_reducible first | exact HB.out | apply below_alloc | apply pw_below_drewN | apply below_drew1) | exact HB.out))) : w.heap.size ≤ gb401)); clear HB; have HB := n0_; have BK401 := n1_; have GW401 := n2_; have GE401 := n3_; clear n0_ n1_ n2_ n3_; clear hb hbox hg; obtain ⟨hcz12_0, hcz12_1, hcz12_2, hcz12_3, hcz12_4, hcz12_5, hcz12_6⟩ := cel7 BK401.out; obtain ⟨hfz12_0, hfz12_1, hfz12_2, hfz12_3, hfz12_4, hfz12_5, hfz12_6⟩ := frz7 BK401.out))
         go_ret
         exact ⟨by first | rfl | (simp [errW_none, errW_some] <;> rfl) | (simp [*, errW_none, errW_some] <;> rfl), by repeat (first | (with_reducible first | exact HB.out | apply below_alloc | apply pw_below_drewN | apply below_drew1 | refine below_set ?_ GE401.out) | exact HB.out)⟩
     · rw [if_neg c7] at H
       have c7b0 : decide (a1_6 ≤ 1024) = false := decide_eq_false c7
       clear c7
       obtain rfl := Option.some.inj H
       go_enter Try.func40, Try.ntmps40
       go_wp2_with (first | ((with_reducible refine gate_dst (N := 3) rfl ?_); refine box_event ?hg (N := 3) ?hd (cs := #[.int .i64 a1_0, .int .i64 a1_1, .int .i64 a1_2, .int .i64 a1_3, .int .i64 a1_4, .int .i64 a1_5, .int .i64 a1_6]) (t := 40) ?hr ?_; (case hd => rfl); (case hg => rfl); (case hr => first | (go_simp; done) | (go_simp; rfl)); intro gb401 hg w13 hbox hb; have n0_ := Aside0.mk (below_step (by repeat (first | (with_reducible first | exact HB.out | apply below_alloc | apply pw_below_drewN | apply below_drew1) | exact HB.out)) hb); have n1_ := Aside0.mk (hbox); have n2_ := Aside0.mk ((by rw [hg]; exact (below_size (by repeat (first | (with_reducible first | exact HB.out | apply below_alloc | apply pw_below_drewN | apply below_drew1) | exact HB.out))) : w.heap.size ≤ gb401)); have n3_ := Aside0.mk ((by rw [hg]; exact (below_size (by repeat (first | (with_reducible first | exact HB.out | apply below_alloc | apply pw_below_drewN | apply below_drew1) | exact HB.out))) : w.heap.size ≤ gb401)); clear HB; have HB := n0_; have BK401 := n1_; have GW401 := n2_; have GE401 := n3_; clear n0_ n1_ n2_ n3_; clear hb hbox hg; obtain ⟨hcz14_0, hcz14_1, hcz14_2, hcz14_3, hcz14_4, hcz14_5, hcz14_6⟩ := cel7 BK401.out; obtain ⟨hfz14_0, hfz14_1, hfz14_2, hfz14_3, hfz14_4, hfz14_5, hfz14_6⟩ := frz7 BK401.out))
       go_ret
       exact ⟨by first | rfl | (simp [errW_none, errW_some] <;> rfl) | (simp [*, errW_none, errW_some] <;> rfl), by repeat (first | (with_reducible first | exact HB.out | apply below_alloc | apply pw_below_drewN | apply below_drew1 | refine below_set ?_ GE401.out) | exact HB.out)⟩
   · rw [if_neg c6] at H
     have c6b0 : decide (1 ≤ a1_6) = false := decide_eq_false c6
     clear c6
     obtain rfl := Option.some.inj H
     go_enter Try.func40, Try.ntmps40
     go_wp2_with (first | ((with_reducible refine gate_dst (N := 3) rfl ?_); refine box_event ?hg (N := 3) ?hd (cs := #[.int .i64 a1_0, .int .i64 a1_1, .int .i64 a1_2, .int .i64 a1_3, .int .i64 a1_4, .int .i64 a1_5, .int .i64 a1_6]) (t := 40) ?hr ?_; (case hd => rfl); (case hg => rfl); (case hr => first | (go_simp; done) | (go_simp; rfl)); intro gb401 hg w15 hbox hb; have n0_ := Aside0.mk (below_step (by repeat (first | (with_reducible first | exact HB.out | apply below_alloc | apply pw_below_drewN | apply below_drew1) | exact HB.out)) hb); have n1_ := Aside0.mk (hbox); have n2_ := Aside0.mk ((by rw [hg]; exact (below_size (by repeat (first | (with_reducible first | exact HB.out | apply below_alloc | apply pw_below_drewN | apply below_drew1) | exact HB.out))) : w.heap.size ≤ gb401)); have n3_ := Aside0.mk ((by rw [hg]; exact (below_size (by repeat (first | (with_reducible first | exact HB.out | apply below_alloc | apply pw_below_drewN | apply below_drew1) | exact HB.out))) : w.heap.size ≤ gb401)); clear HB; have HB := n0_; have BK401 := n1_; have GW401 := n2_; have GE401 := n3_; clear n0_ n1_ n2_ n3_; clear hb hbox hg; obtain ⟨hcz16_0, hcz16_1, hcz16_2, hcz16_3, hcz16_4, hcz16_5, hcz16_6⟩ := cel7 BK401.out; obtain ⟨hfz16_0, hfz16_1, hfz16_2, hfz16_3, hfz16_4, hfz16_5, hfz16_6⟩ := frz7 BK401.out))
     go_ret
     exact ⟨by first | rfl | (simp [errW_none, errW_some] <;> rfl) | (simp [*, errW_none, errW_some] <;> rfl), by repeat (first | (with_reducible first | exact HB.out | apply below_alloc | apply pw_below_drewN | apply below_drew1 | refine below_set ?_ GE401.out) | exact HB.out)⟩
end Go.Proofs.Ytjhepdcdhabcjaa.G
namespace Go.Proofs.Ytjhepdcdhabcjaa.G
open Go.RowKit Go.Proofs.YtjhepdcdhabcjaaW.PrintWords Go.Proofs.YtjhepdcdhabcjaaW.PrintLast Go.Proofs.YtjhepdcdhabcjaaW.PrintMore
attribute [local go_sem] max2_int min2_int max_two min_two max_three min_three max_four min_four   -- for this text's walks alone
set_option linter.unusedVariables false
set_option linter.unusedSimpArgs false
theorem eqA40 (d : Nat) (w : World) (x0 y0 : Int) (x1 y1 : Int) (x2 y2 : Int) (x3 y3 : Int) (x4 y4 : Int) (x5 y5 : Int) (x6 y6 : Int) :
 (Op.equalIn (d + 2) 40 (.agg #[.int .i64 x0, .int .i64 x1, .int .i64 x2, .int .i64 x3, .int .i64 x4, .int .i64 x5, .int .i64 x6]) (.agg #[.int .i64 y0, .int .i64 y1, .int .i64 y2, .int .i64 y3, .int .i64 y4, .int .i64 y5, .int .i64 y6])).run Try.prog w = .ok (x0 == y0 && (x1 == y1 && (x2 == y2 && (x3 == y3 && (x4 == y4 && (x5 == y5 && (x6 == y6))))))) w := by
 refine eqA_of Try.underlying40 (by kernel_rfl) ?_
 refine eqf_cons (by rfl) (by go_simp; rfl) (by go_simp; rfl) (by go_simp) ?_
 refine eqf_cons (by rfl) (by go_simp; rfl) (by go_simp; rfl) (by go_simp) ?_
 refine eqf_cons (by rfl) (by go_simp; rfl) (by go_simp; rfl) (by go_simp) ?_
 refine eqf_cons (by rfl) (by go_simp; rfl) (by go_simp; rfl) (by go_simp) ?_
 refine eqf_cons (by rfl) (by go_simp; rfl) (by go_simp; rfl) (by go_simp) ?_
 refine eqf_cons (by rfl) (by go_simp; rfl) (by go_simp; rfl) (by go_simp) ?_
 exact eqf_last (by rfl) (by go_simp; rfl) (by go_simp; rfl) (by go_simp)
end Go.Proofs.Ytjhepdcdhabcjaa.G
namespace Go.Proofs.Ytjhepdcdhabcjaa.G
open Go.RowKit Go.Proofs.YtjhepdcdhabcjaaW.PrintWords Go.Proofs.YtjhepdcdhabcjaaW.PrintLast Go.Proofs.YtjhepdcdhabcjaaW.PrintMore
attribute [local go_sem] max2_int min2_int max_two min_two max_three min_three max_four min_four   -- for this text's walks alone
set_option linter.unusedVariables false
set_option linter.unusedSimpArgs false
def toc_closed.f (a0_0 : Int) (a0_1 : Int) (a0_2 : Int) (a0_3 : Int) (a0_4 : Int) (a0_5 : Int) (a0_6 : Int) : Option (Int × Int × Int × Int × Int × Int × Int) := (toc_end.f a0_0 a0_1 a0_2 a0_3 a0_4 a0_5 a0_6).bind fun t404 => (some (a0_0, a0_1, a0_2, a0_3, t404, 2, a0_6))
set_option maxHeartbeats 8000000 in
set_option maxRecDepth 100000 in
theorem toc_closed.calls (a0_0 : Int) (a0_1 : Int) (a0_2 : Int) (a0_3 : Int) (a0_4 : Int) (a0_5 : Int) (a0_6 : Int) (r1 : Int) (r2 : Int) (r3 : Int) (r4 : Int) (r5 : Int) (r6 : Int) (r7 : Int) (w : World) (h : toc_closed.f a0_0 a0_1 a0_2 a0_3 a0_4 a0_5 a0_6 = some (r1, r2, r3, r4, r5, r6, r7)) :
 Calls Try.prog 42 #[.agg #[.int .i64 a0_0, .int .i64 a0_1, .int .i64 a0_2, .int .i64 a0_3, .int .i64 a0_4, .int .i64 a0_5, .int .i64 a0_6]] w fun e w' => e = .returned (.agg #[.int .i64 r1, .int .i64 r2, .int .i64 r3, .int .i64 r4, .int .i64 r5, .int .i64 r6, .int .i64 r7]) ∧ Below w.heap.size w w' := by
 have hu40 := Try.underlying40
 have HB := Aside0.mk (Below.refl w.heap.size w)
 have H : ((toc_end.f a0_0 a0_1 a0_2 a0_3 a0_4 a0_5 a0_6).bind fun t404 => (some (a0_0, a0_1, a0_2, a0_3, t404, 2, a0_6))) = some (r1, r2, r3, r4, r5, r6, r7) := h
 clear h
 replace H := Option.bind_eq_some_iff.mp H
 obtain ⟨t404, A20, H⟩ := H
 replace H : (some (a0_0, a0_1, a0_2, a0_3, t404, 2, a0_6)) = some (r1, r2, r3, r4, r5, r6, r7) := H
 have A2 := Aside0.mk A20
 clear A20
 simp only [Option.some.injEq, Prod.mk.injEq] at H
 obtain ⟨rfl, rfl, rfl, rfl, rfl, rfl, rfl⟩ := H
 go_enter Try.func42, Try.ntmps42
 go_wp2_with (first | ((with_reducible refine gate_dst (N := 1) rfl ?_); refine box_event ?hg (N := 1) ?hd (cs := #[.int .i64 a0_0, .int .i64 a0_1, .int .i64 a0_2, .int .i64 a0_3, .int .i64 a0_4, .int .i64 a0_5, .int .i64 a0_6]) (t := 40) ?hr ?_; (case hd => rfl); (case hg => rfl); (case hr => first | (go_simp; done) | (go_simp; rfl)); intro gb402 hg w3 hbox hb; have n0_ := Aside0.mk (below_step (by repeat (first | (with_reducible first | exact HB.out | apply below_alloc | apply pw_below_drewN | apply below_drew1) | exact HB.out)) hb); have n1_ := Aside0.mk (hbox); have n2_ := Aside0.mk ((by rw [hg]; exact (below_size (by repeat (first | (with_reducible first | exact HB.out | apply below_alloc | apply pw_below_drewN | apply below_drew1) | exact HB.out))) : w.heap.size ≤ gb402)); have n3_ := Aside0.mk ((by rw [hg]; exact (below_size (by repeat (first | (with_reducible first | exact HB.out | apply below_alloc | apply pw_below_drewN | apply below_drew1) | exact HB.out))) : w.heap.size ≤ gb402)); clear HB; have HB := n0_; have BK402 := n1_; have GW402 := n2_; have GE402 := n3_; clear n0_ n1_ n2_ n3_; clear hb hbox hg) | ((with_reducible refine gate_dst (N := 2) rfl ?_); refine box_event ?hg (N := 2) ?hd (cs := #[.int .i64 0, .int .i64 0, .int .i64 0, .int .i64 0, .int .i64 0, .int .i64 0, .int .i64 0]) (t := 40) ?hr ?_; (case hd => rfl); (case hg => rfl); (case hr => first | (go_simp; done) | (go_simp; rfl)); intro gb403 hg w4 hbox hb; have n0_ := Aside0.mk (blk_below (g := gb402) (o := .cells #[.int .i64 a0_0, .int .i64 a0_1, .int .i64 a0_2, .int .i64 a0_3, .int .i64 a0_4, .int .i64 a0_5, .int .i64 a0_6] 40 (0, 0)) (by (with_reducible repeat (first | refine blk_drewN ?_ _ | refine blk_drew ?_ | refine blk_alloc ?_ _)); exact BK402.out) hb); have n1_ := Aside0.mk (below_step (by repeat (first | (with_reducible first | exact HB.out | apply below_alloc | apply pw_below_drewN | apply below_drew1 | refine below_set ?_ GE402.out) | exact HB.out)) hb); have n2_ := Aside0.mk (hbox); have n3_ := Aside0.mk ((by rw [hg]; exact (below_size (by repeat (first | (with_reducible first | exact HB.out | apply below_alloc | apply pw_below_drewN | apply below_drew1 | refine below_set ?_ GE402.out) | exact HB.out))) : w.heap.size ≤ gb403)); have n4_ := Aside0.mk ((by rw [hg]; exact (below_size (by repeat (first | (with_reducible first | exact HB.out | apply below_alloc | apply pw_below_drewN | apply below_drew1 | refine below_set ?_ GE402.out) | exact HB.out))) : w.heap.size ≤ gb403)); have n5_ := Aside0.mk ((by rw [hg]; exact Nat.ne_of_lt (blk_lt (g := gb402) (o := .cells #[.int .i64 a0_0, .int .i64 a0_1, .int .i64 a0_2, .int .i64 a0_3, .int .i64 a0_4, .int .i64 a0_5, .int .i64 a0_6] 40 (0, 0)) (by (with_reducible repeat (first | refine blk_drewN ?_ _ | refine blk_drew ?_ | refine blk_alloc ?_ _)); exact BK402.out)) : gb402 ≠ gb403)); have n6_ := Aside0.mk ((by rw [hg]; exact Nat.ne_of_gt (blk_lt (g := gb402) (o := .cells #[.int .i64 a0_0, .int .i64 a0_1, .int .i64 a0_2, .int .i64 a0_3, .int .i64 a0_4, .int .i64 a0_5, .int .i64 a0_6] 40 (0, 0)) (by (with_reducible repeat (first | refine blk_drewN ?_ _ | refine blk_drew ?_ | refine blk_alloc ?_ _)); exact BK402.out)) : gb403 ≠ gb402)); clear BK402; clear HB; have BK402 := n0_; have HB := n1_; have BK403 := n2_; have GW403 := n3_; have GE403 := n4_; have NB402_403 := n5_; have NB403_402 := n6_; clear n0_ n1_ n2_ n3_ n4_ n5_ n6_; clear hb hbox hg; have hnb5 := NB402_403.out; have hnc5 := NB403_402.out; obtain ⟨hcz6_0, hcz6_1, hcz6_2, hcz6_3, hcz6_4, hcz6_5, hcz6_6⟩ := cel7 BK402.out; obtain ⟨hfz6_0, hfz6_1, hfz6_2, hfz6_3, hfz6_4, hfz6_5, hfz6_6⟩ := frz7 BK402.out) | ((with_reducible refine gate_callee (f := 26) rfl ?_); refine goesL_ (some 4) rfl rfl Try.func26 (by kernel_rfl) rfl #[.agg #[.int .i64 a0_0, .int .i64 a0_1, .int .i64 a0_2, .int .i64 a0_3, .int .i64 a0_4, .int .i64 a0_5, .int .i64 a0_6]] rfl (by (try simp only [List.map_toArray, List.map_cons, List.map_nil]); first | done | rfl | (simp only [List.length_drop, List.length_take]; rfl)) ?_; (with_reducible refine (toc_end.calls a0_0 a0_1 a0_2 a0_3 a0_4 a0_5 a0_6 t404 _ A2.out).mono ?_); rintro e w7 ⟨rfl, hb⟩; refine ⟨_, rfl, ?_⟩; have n0_ := Aside0.mk (blk_below (g := gb402) (o := .cells #[.int .i64 a0_0, .int .i64 a0_1, .int .i64 a0_2, .int .i64 a0_3, .int .i64 a0_4, .int .i64 a0_5, .int .i64 a0_6] 40 (0, 0)) (by (with_reducible repeat (first | refine blk_drewN ?_ _ | refine blk_drew ?_ | refine blk_alloc ?_ _)); exact BK402.out) hb); have n1_ := Aside0.mk (blk_below (g := gb403) (o := .cells #[.int .i64 0, .int .i64 0, .int .i64 0, .int .i64 0, .int .i64 0, .int .i64 0, .int .i64 0] 40 (0, 0)) (by (with_reducible repeat (first | refine blk_drewN ?_ _ | refine blk_drew ?_ | refine blk_alloc ?_ _)); exact BK403.out) hb); have n2_ := Aside0.mk (below_step (by repeat (first | (with_reducible first | exact HB.out | apply below_alloc | apply pw_below_drewN | apply below_drew1 | refine below_set ?_ GE402.out | refine below_set ?_ GE403.out) | exact HB.out)) hb); clear BK402; clear BK403; clear HB; have BK402 := n0_; have BK403 := n1_; have HB := n2_; clear n0_ n1_ n2_; (try clear hb); (try clear hb2); (try clear hk); (try clear hi); obtain ⟨hcz8_0, hcz8_1, hcz8_2, hcz8_3, hcz8_4, hcz8_5, hcz8_6⟩ := cel7 BK402.out; obtain ⟨hfz8_0, hfz8_1, hfz8_2, hfz8_3, hfz8_4, hfz8_5, hfz8_6⟩ := frz7 BK402.out; obtain ⟨hcz9_0, hcz9_1, hcz9_2, hcz9_3, hcz9_4, hcz9_5, hcz9_6⟩ := cel7 BK403.out; obtain ⟨hfz9_0, hfz9_1, hfz9_2, hfz9_3, hfz9_4, hfz9_5, hfz9_6⟩ := frz7 BK403.out))
 refine bodyPost_ret (results_cell_row rfl _ _ gb403 40 #[.int .i64 a0_0, .int .i64 a0_1, .int .i64 a0_2, .int .i64 a0_3, .int .i64 t404, .int .i64 2, .int .i64 a0_6] (0, 0) _ rfl (by (with_reducible repeat (first | refine blk_drewN ?_ _ | refine blk_drew ?_ | refine blk_alloc ?_ _)); refine blk_put (cs := #[.int .i64 a0_0, .int .i64 a0_1, .int .i64 a0_2, .int .i64 a0_3, .int .i64 t404, .int .i64 2, .int .i64 0]) ?_ 6 _ rfl; (with_reducible repeat (first | refine blk_drewN ?_ _ | refine blk_drew ?_ | refine blk_alloc ?_ _)); refine blk_put (cs := #[.int .i64 a0_0, .int .i64 a0_1, .int .i64 a0_2, .int .i64 a0_3, .int .i64 t404, .int .i64 0, .int .i64 0]) ?_ 5 _ rfl; (with_reducible repeat (first | refine blk_drewN ?_ _ | refine blk_drew ?_ | refine blk_alloc ?_ _)); refine blk_put (cs := #[.int .i64 a0_0, .int .i64 a0_1, .int .i64 a0_2, .int .i64 a0_3, .int .i64 0, .int .i64 0, .int .i64 0]) ?_ 4 _ rfl; (with_reducible repeat (first | refine blk_drewN ?_ _ | refine blk_drew ?_ | refine blk_alloc ?_ _)); refine blk_put (cs := #[.int .i64 a0_0, .int .i64 a0_1, .int .i64 a0_2, .int .i64 0, .int .i64 0, .int .i64 0, .int .i64 0]) ?_ 3 _ rfl; (with_reducible repeat (first | refine blk_drewN ?_ _ | refine blk_drew ?_ | refine blk_alloc ?_ _)); refine blk_put (cs := #[.int .i64 a0_0, .int .i64 a0_1, .int .i64 0, .int .i64 0, .int .i64 0, .int .i64 0, .int .i64 0]) ?_ 2 _ rfl; (with_reducible repeat (first | refine blk_drewN ?_ _ | refine blk_drew ?_ | refine blk_alloc ?_ _)); refine blk_put (cs := #[.int .i64 a0_0, .int .i64 0, .int .i64 0, .int .i64 0, .int .i64 0, .int .i64 0, .int .i64 0]) ?_ 1 _ rfl; (with_reducible repeat (first | refine blk_drewN ?_ _ | refine blk_drew ?_ | refine blk_alloc ?_ _)); refine blk_put (cs := #[.int .i64 0, .int .i64 0, .int .i64 0, .int .i64 0, .int .i64 0, .int .i64 0, .int .i64 0]) ?_ 0 _ rfl; (with_reducible repeat (first | refine blk_drewN ?_ _ | refine blk_drew ?_ | refine blk_alloc ?_ _)); refine blk_far ?_ NB403_402.out _; (with_reducible repeat (first | refine blk_drewN ?_ _ | refine blk_drew ?_ | refine blk_alloc ?_ _)); refine blk_far ?_ NB403_402.out _; (with_reducible repeat (first | refine blk_drewN ?_ _ | refine blk_drew ?_ | refine blk_alloc ?_ _)); exact BK403.out) Try.underlying40 rfl (by kernel_rfl)) rfl ?_
 exact ⟨by first | rfl | (simp [errW_none, errW_some] <;> rfl) | (simp [*, errW_none, errW_some] <;> rfl), by repeat (first | (with_reducible first | exact HB.out | apply below_alloc | apply pw_below_drewN | apply below_drew1 | refine below_set ?_ GE402.out | refine below_set ?_ GE403.out) | exact HB.out)⟩
end Go.Proofs.Ytjhepdcdhabcjaa.G
namespace Go.Proofs.Ytjhepdcdhabcjaa.G
open Go.RowKit Go.Proofs.YtjhepdcdhabcjaaW.PrintWords Go.Proofs.YtjhepdcdhabcjaaW.PrintLast Go.Proofs.YtjhepdcdhabcjaaW.PrintMore
attribute [local go_sem] max2_int min2_int max_two min_two max_three min_three max_four min_four   -- for this text's walks alone
set_option linter.unusedVariables false
set_option linter.unusedSimpArgs false
def toc_state.f (a0_0 : Int) (a0_1 : Int) (a0_2 : Int) (a0_3 : Int) (a0_4 : Int) (a0_5 : Int) (a0_6 : Int) : Option (Int) := if a0_4 = a0_2 then (some 0) else (some 1)
set_option maxHeartbeats 8000000 in
set_option maxRecDepth 100000 in
theorem toc_state.calls (a0_0 : Int) (a0_1 : Int) (a0_2 : Int) (a0_3 : Int) (a0_4 : Int) (a0_5 : Int) (a0_6 : Int) (r : Int) (w : World) (h : toc_state.f a0_0 a0_1 a0_2 a0_3 a0_4 a0_5 a0_6 = some r) :
 Calls Try.prog 43 #[.agg #[.int .i64 a0_0, .int .i64 a0_1, .int .i64 a0_2, .int .i64 a0_3, .int .i64 a0_4, .int .i64 a0_5, .int .i64 a0_6]] w fun e w' => e = .returned (.int .i64 r) ∧ Below w.heap.size w w' := by
 have hu40 := Try.underlying40
 have HB := Aside0.mk (Below.refl w.heap.size w)
 have H : (if a0_4 = a0_2 then (some 0) else (some 1)) = some r := h
 clear h
 by_cases c2 : a0_4 = a0_2
 · rw [if_pos c2] at H
   have c2b0 : (a0_4 == a0_2) = true := beq_iff_eq.mpr c2
   have c2b1 : (a0_4 != a0_2) = false := bne_eq_false_iff_eq.mpr c2
   clear c2
   obtain rfl := Option.some.inj H
   go_enter Try.func43, Try.ntmps43
   go_wp2_with (first | ((with_reducible refine gate_dst (N := 1) rfl ?_); refine box_event ?hg (N := 1) ?hd (cs := #[.int .i64 a0_0, .int .i64 a0_1, .int .i64 a0_2, .int .i64 a0_3, .int .i64 a0_4, .int .i64 a0_5, .int .i64 a0_6]) (t := 40) ?hr ?_; (case hd => rfl); (case hg => rfl); (case hr => first | (go_simp; done) | (go_simp; rfl)); intro gb405 hg w3 hbox hb; have n0_ := Aside0.mk (below_step (by repeat (first | (with_reducible first | exact HB.out | apply below_alloc | apply pw_below_drewN | apply below_drew1) | exact HB.out)) hb); have n1_ := Aside0.mk (hbox); have n2_ := Aside0.mk ((by rw [hg]; exact (below_size (by repeat (first | (with_reducible first | exact HB.out | apply below_alloc | apply pw_below_drewN | apply below_drew1) | exact HB.out))) : w.heap.size ≤ gb405)); have n3_ := Aside0.mk ((by rw [hg]; exact (below_size (by repeat (first | (with_reducible first | exact HB.out | apply below_alloc | apply pw_below_drewN | apply below_drew1) | exact HB.out))) : w.heap.size ≤ gb405)); clear HB; have HB := n0_; have BK405 := n1_; have GW405 := n2_; have GE405 := n3_; clear n0_ n1_ n2_ n3_; clear hb hbox hg; obtain ⟨hcz4_0, hcz4_1, hcz4_2, hcz4_3, hcz4_4, hcz4_5, hcz4_6⟩ := cel7 BK405.out; obtain ⟨hfz4_0, hfz4_1, hfz4_2, hfz4_3, hfz4_4, hfz4_5, hfz4_6⟩ := frz7 BK405.out))
   go_ret
   exact ⟨by first | rfl | (simp [errW_none, errW_some] <;> rfl) | (simp [*, errW_none, errW_some] <;> rfl), by repeat (first | (with_reducible first | exact HB.out | apply below_alloc | apply pw_below_drewN | apply below_drew1 | refine below_set ?_ GE405.out) | exact HB.out)⟩
 · rw [if_neg c2] at H
   have c2b0 : (a0_4 == a0_2) = false := beq_eq_false_iff_ne.mpr c2
   have c2b1 : (a0_4 != a0_2) = true := bne_iff_ne.mpr c2
   obtain rfl := Option.some.inj H
   go_enter Try.func43, Try.ntmps43
   go_wp2_with (first | ((with_reducible refine gate_dst (N := 1) rfl ?_); refine box_event ?hg (N := 1) ?hd (cs := #[.int .i64 a0_0, .int .i64 a0_1, .int .i64 a0_2, .int .i64 a0_3, .int .i64 a0_4, .int .i64 a0_5, .int .i64 a0_6]) (t := 40) ?hr ?_; (case hd => rfl); (case hg => rfl); (case hr => first | (go_simp; done) | (go_simp; rfl)); intro gb405 hg w5 hbox hb; have n0_ := Aside0.mk (below_step (by repeat (first | (with_reducible first | exact HB.out | apply below_alloc | apply pw_below_drewN | apply below_drew1) | exact HB.out)) hb); have n1_ := Aside0.mk (hbox); have n2_ := Aside0.mk ((by rw [hg]; exact (below_size (by repeat (first | (with_reducible first | exact HB.out | apply below_alloc | apply pw_below_drewN | apply below_drew1) | exact HB.out))) : w.heap.size ≤ gb405)); have n3_ := Aside0.mk ((by rw [hg]; exact (below_size (by repeat (first | (with_reducible first | exact HB.out | apply below_alloc | apply pw_below_drewN | apply below_drew1) | exact HB.out))) : w.heap.size ≤ gb405)); clear HB; have HB := n0_; have BK405 := n1_; have GW405 := n2_; have GE405 := n3_; clear n0_ n1_ n2_ n3_; clear hb hbox hg; obtain ⟨hcz6_0, hcz6_1, hcz6_2, hcz6_3, hcz6_4, hcz6_5, hcz6_6⟩ := cel7 BK405.out; obtain ⟨hfz6_0, hfz6_1, hfz6_2, hfz6_3, hfz6_4, hfz6_5, hfz6_6⟩ := frz7 BK405.out))
   go_ret
   exact ⟨by first | rfl | (simp [errW_none, errW_some] <;> rfl) | (simp [*, errW_none, errW_some] <;> rfl), by repeat (first | (with_reducible first | exact HB.out | apply below_alloc | apply pw_below_drewN | apply below_drew1 | refine below_set ?_ GE405.out) | exact HB.out)⟩
end Go.Proofs.Ytjhepdcdhabcjaa.G
namespace Go.Proofs.Ytjhepdcdhabcjaa.G
open Go.RowKit Go.Proofs.YtjhepdcdhabcjaaW.PrintWords Go.Proofs.YtjhepdcdhabcjaaW.PrintLast Go.Proofs.YtjhepdcdhabcjaaW.PrintMore
attribute [local go_sem] max2_int min2_int max_two min_two max_three min_three max_four min_four   -- for this text's walks alone
set_option linter.unusedVariables false
set_option linter.unusedSimpArgs false
attribute [local go_sem high] eqA40
def toc_rules_8.f (l0 : List (S40)) (a1_0 : Int) (a1_1 : Int) (a1_2 : Int) (a1_3 : Int) (a1_4 : Int) (a1_5 : Int) (a1_6 : Int) : Option (Bool) := if a1_5 = 2 then ((toc_closed.f a1_0 a1_1 a1_2 a1_3 a1_4 a1_5 a1_6).bind fun bt407 => (some (a1_0 == bt407.1 && (a1_1 == bt407.2.1 && (a1_2 == bt407.2.2.1 && (a1_3 == bt407.2.2.2.1 && (a1_4 == bt407.2.2.2.2.1 && (a1_5 == bt407.2.2.2.2.2.1 && (a1_6 == bt407.2.2.2.2.2.2))))))))) else (if a1_4 ≥ a1_2 then ((toc_end.f a1_0 a1_1 a1_2 a1_3 a1_4 a1_5 a1_6).bind fun t414 => (if a1_4 ≤ t414 then ((toc_state.f a1_0 a1_1 a1_2 a1_3 a1_4 a1_5 a1_6).bind fun t415 => (some (a1_5 == t415))) else (some false))) else (some false))
def toc_rules_8.T3 : Bool × List (List Nat × List Nat) := (true, [([], []), ([0], [0]), ([], []), ([2], [2]), ([1, 3], [1, 3]), ([4], [4]), ([5], [5]), ([6, 5], [5, 6]), ([5], [5]), ([8, 5, 5], [5, 8]), ([7, 9, 5], [5, 7, 9]), ([5, 10], [5, 10]), ([11, 9], [11]), ([12], [12]), ([13, 12], [12, 13]), ([12], [12]), ([15, 12, 12], [12, 15]), ([14, 16, 12], [12, 14, 16]), ([12, 17], [12, 17]), ([18, 16, 0, 1, 2, 3, 4, 5, 6, 7, 8, 9, 10, 11, 12, 13, 14, 15, 16, 17, 18], [18])])
def toc_rules_8.B3 : List Nat := [0, 1, 0, 4, 15, 31, 63, 127, 63, 319, 1023, 2047, 4095, 8191, 16383, 8191, 40959, 131071, 262143, 524287]
theorem toc_rules_8.tab3 : rtab .any (opsOf Try.f41 3) = toc_rules_8.T3 := by kernel_rfl
theorem toc_rules_8.bits3 : waitsOk toc_rules_8.T3.2 toc_rules_8.B3 = true := by kernel_rfl
set_option maxHeartbeats 8000000 in
set_option maxRecDepth 100000 in
theorem toc_rules_8.calls (A0 : Option Addr) (c0 : Nat) (l0 : List (S40)) (a1_0 : Int) (a1_1 : Int) (a1_2 : Int) (a1_3 : Int) (a1_4 : Int) (a1_5 : Int) (a1_6 : Int) (r : Bool) (w : World) (hr0 : Kd.C k40 w A0 l0.length l0) (hc0 : l0.length ≤ c0) (h : toc_rules_8.f l0 a1_0 a1_1 a1_2 a1_3 a1_4 a1_5 a1_6 = some r) :
 Calls Try.prog 41 #[.slice A0 l0.length c0, .agg #[.int .i64 a1_0, .int .i64 a1_1, .int .i64 a1_2, .int .i64 a1_3, .int .i64 a1_4, .int .i64 a1_5, .int .i64 a1_6]] w fun e w' => e = .returned (.bool r) ∧ Below w.heap.size w w' := by
 have hu40 := Try.underlying40
 have HR0 := Aside0.mk hr0
 have HC0 := Aside0.mk hc0
 clear hr0 hc0
 have HB := Aside0.mk (Below.refl w.heap.size w)
 have H : (if a1_5 = 2 then ((toc_closed.f a1_0 a1_1 a1_2 a1_3 a1_4 a1_5 a1_6).bind fun bt407 => (some (a1_0 == bt407.1 && (a1_1 == bt407.2.1 && (a1_2 == bt407.2.2.1 && (a1_3 == bt407.2.2.2.1 && (a1_4 == bt407.2.2.2.2.1 && (a1_5 == bt407.2.2.2.2.2.1 && (a1_6 == bt407.2.2.2.2.2.2))))))))) else (if a1_4 ≥ a1_2 then ((toc_end.f a1_0 a1_1 a1_2 a1_3 a1_4 a1_5 a1_6).bind fun t414 => (if a1_4 ≤ t414 then ((toc_state.f a1_0 a1_1 a1_2 a1_3 a1_4 a1_5 a1_6).bind fun t415 => (some (a1_5 == t415))) else (some false))) else (some false))) = some r := h
 clear h
 by_cases c3 : a1_5 = 2
 · rw [if_pos c3] at H
   have c3b0 : (a1_5 == 2) = true := beq_iff_eq.mpr c3
   have c3b1 : (a1_5 != 2) = false := bne_eq_false_iff_eq.mpr c3
   clear c3
   replace H := Option.bind_eq_some_iff.mp H
   obtain ⟨⟨t407, t408, t409, t410, t411, t412, t413⟩, A40, H⟩ := H
   replace H : (some (a1_0 == t407 && (a1_1 == t408 && (a1_2 == t409 && (a1_3 == t410 && (a1_4 == t411 && (a1_5 == t412 && (a1_6 == t413)))))))) = some r := H
   have A4 := Aside0.mk A40
   clear A40
   obtain rfl := Option.some.inj H
   go_enter Try.func41, Try.ntmps41
   try go_wp2_with (first | ((with_reducible refine gate_dst (N := 3) rfl ?_); refine box_event ?hg (N := 3) ?hd (cs := #[.int .i64 a1_0, .int .i64 a1_1, .int .i64 a1_2, .int .i64 a1_3, .int .i64 a1_4, .int .i64 a1_5, .int .i64 a1_6]) (t := 40) ?hr ?_; (case hd => rfl); (case hg => rfl); (case hr => first | (go_simp; done) | (go_simp; rfl)); intro gb406 hg w5 hbox hb; have n0_ := Aside0.mk (below_step (by repeat (first | (with_reducible first | exact HB.out | apply below_alloc | apply pw_below_drewN | apply below_drew1) | exact HB.out)) hb); have n1_ := Aside0.mk (hbox); have n2_ := Aside0.mk ((by rw [hg]; exact (below_size (by repeat (first | (with_reducible first | exact HB.out | apply below_alloc | apply pw_below_drewN | apply below_drew1) | exact HB.out))) : w.heap.size ≤ gb406)); have n3_ := Aside0.mk ((by rw [hg]; exact (below_size (by repeat (first | (with_reducible first | exact HB.out | apply below_alloc | apply pw_below_drewN | apply below_drew1) | exact HB.out))) : w.heap.size ≤ gb406)); clear HB; have HB := n0_; have BK406 := n1_; have GW406 := n2_; have GE406 := n3_; clear n0_ n1_ n2_ n3_; clear hb hbox hg; obtain ⟨hcz6_0, hcz6_1, hcz6_2, hcz6_3, hcz6_4, hcz6_5, hcz6_6⟩ := cel7 BK406.out; obtain ⟨hfz6_0, hfz6_1, hfz6_2, hfz6_3, hfz6_4, hfz6_5, hfz6_6⟩ := frz7 BK406.out))
   have n0_ := Aside0.mk (blk_drew BK406.out)
   have n1_ := Aside0.mk (below_drew1 HB.out)
   clear BK406
   clear HB
   have BK406 := n0_
   have HB := n1_
   clear n0_ n1_
   refine start_ (n := 5) (S := fun w' => w'.cell? ⟨gb406, 0, none⟩ = some (.int .i64 a1_0) ∧ w'.cell? ⟨gb406, 1, none⟩ = some (.int .i64 a1_1) ∧ w'.cell? ⟨gb406, 2, none⟩ = some (.int .i64 a1_2) ∧ w'.cell? ⟨gb406, 3, none⟩ = some (.int .i64 a1_3) ∧ w'.cell? ⟨gb406, 4, none⟩ = some (.int .i64 a1_4) ∧ w'.cell? ⟨gb406, 5, none⟩ = some (.int .i64 a1_5) ∧ w'.cell? ⟨gb406, 6, none⟩ = some (.int .i64 a1_6)) (ds := []) #[false, false, false, false, false] (by kernel_rfl) rfl rfl ⟨(blk_cell BK406.out 0).trans rfl, (blk_cell BK406.out 1).trans rfl, (blk_cell BK406.out 2).trans rfl, (blk_cell BK406.out 3).trans rfl, (blk_cell BK406.out 4).trans rfl, (blk_cell BK406.out 5).trans rfl, (blk_cell BK406.out 6).trans rfl⟩ (fun hHeld => ?_)
   generalize w5.drew = w7 at BK406 HB hHeld ⊢
   refine take_ (i := 0) (N := some 8) (v := ?_) (a' := ?_) #[true, false, false, false, false] rfl rfl (by kernel_rfl) (fun _ _ _ h => h) (Or.inl ⟨by rfl, ?_⟩) hHeld ?_ ?_
   rotate_left
   · rintro w' ⟨s0, s1, s2, s3, s4, s5, s6⟩
     go_simp
     with_reducible rfl
   rotate_left
   · simp only [Act.put, List.setIfInBounds_toArray, List.set_cons_zero, List.set_cons_succ, i64_w, i32_w]
     rfl
   refine take_ (i := 1) (N := some 9) (v := ?_) (a' := ?_) #[true, true, false, false, false] rfl rfl (by kernel_rfl) (fun _ _ _ h => h) (Or.inl ⟨by rfl, ?_⟩) hHeld ?_ ?_
   rotate_left
   · rintro w' ⟨s0, s1, s2, s3, s4, s5, s6⟩
     go_simp
     with_reducible rfl
   rotate_left
   · simp only [Act.put, List.setIfInBounds_toArray, List.set_cons_zero, List.set_cons_succ, i64_w, i32_w]
     rfl
   refine one_ (i := 2) (N := some 10) #[true, true, true, false, false] rfl rfl (by kernel_rfl) (by decide) (fun K hK => ?_)
   refine goes_ Try.func42 (by kernel_rfl) rfl #[.agg #[.int .i64 a1_0, .int .i64 a1_1, .int .i64 a1_2, .int .i64 a1_3, .int .i64 a1_4, .int .i64 a1_5, .int .i64 a1_6]] (by rfl) rfl rfl (by (try simp only [List.map_toArray, List.map_cons, List.map_nil]); first | done | rfl | (simp only [List.length_drop, List.length_take]; rfl)) ?_
   with_reducible refine (toc_closed.calls a1_0 a1_1 a1_2 a1_3 a1_4 a1_5 a1_6 t407 t408 t409 t410 t411 t412 t413 _ A4.out).mono ?_
   rintro e w8 ⟨rfl, hb⟩
   refine ⟨_, rfl, ?_⟩
   have n0_ := Aside0.mk (blk_below (g := gb406) (o := .cells #[.int .i64 a1_0, .int .i64 a1_1, .int .i64 a1_2, .int .i64 a1_3, .int .i64 a1_4, .int .i64 a1_5, .int .i64 a1_6] 40 (0, 0)) (by (with_reducible repeat (first | refine blk_drewN ?_ _ | refine blk_drew ?_ | refine blk_alloc ?_ _)); exact BK406.out) hb)
   have n1_ := Aside0.mk (below_step (by repeat (first | (with_reducible first | exact HB.out | apply below_alloc | apply pw_below_drewN | apply below_drew1 | refine below_set ?_ GE406.out) | exact HB.out)) hb)
   clear BK406
   clear HB
   have BK406 := n0_
   have HB := n1_
   clear n0_ n1_
   (try clear hb)
   (try clear hb2)
   (try clear hk)
   (try clear hi)
   refine hK.out _ _ ⟨(blk_cell BK406.out 0).trans rfl, (blk_cell BK406.out 1).trans rfl, (blk_cell BK406.out 2).trans rfl, (blk_cell BK406.out 3).trans rfl, (blk_cell BK406.out 4).trans rfl, (blk_cell BK406.out 5).trans rfl, (blk_cell BK406.out 6).trans rfl⟩ (fun hHeld => ?_)
   clear hK K
   refine norm_ (a' := ?_) ?_ ?_
   rotate_left
   · show Act.put _ (some 10) _ = _
     simp only [Act.put, List.setIfInBounds_toArray, List.set_cons_zero, List.set_cons_succ, i64_w, i32_w]
     rfl
   refine pure_ (i := 3) (N := some 11) (v := ?_) (a' := ?_) #[true, true, true, true, false] rfl rfl (by kernel_rfl) (fun _ _ _ h => h) (Or.inl ⟨by rfl, ?_⟩) ?_ ?_
   rotate_left
   · intro w'
     go_simp
     with_reducible rfl
   rotate_left
   · simp only [Act.put, List.setIfInBounds_toArray, List.set_cons_zero, List.set_cons_succ, i64_w, i32_w]
     rfl
   refine pure_ (i := 4) (N := some 4) (v := ?_) (a' := ?_) #[true, true, true, true, true] rfl rfl (by kernel_rfl) (fun _ _ _ h => h) (Or.inl ⟨by rfl, ?_⟩) ?_ ?_
   rotate_left
   · intro w'
     go_simp
     with_reducible rfl
   rotate_left
   · simp only [Act.put, List.setIfInBounds_toArray, List.set_cons_zero, List.set_cons_succ, i64_w, i32_w]
     rfl
   refine done_ (by kernel_rfl) ?_
   try go_wp2
   go_ret
   exact ⟨by first | rfl | (simp [errW_none, errW_some] <;> rfl) | (simp [*, errW_none, errW_some] <;> rfl), by repeat (first | (with_reducible first | exact HB.out | apply below_alloc | apply pw_below_drewN | apply below_drew1 | refine below_set ?_ GE406.out) | exact HB.out)⟩
 · rw [if_neg c3] at H
   have c3b0 : (a1_5 == 2) = false := beq_eq_false_iff_ne.mpr c3
   have c3b1 : (a1_5 != 2) = true := bne_iff_ne.mpr c3
   by_cases c9 : a1_4 ≥ a1_2
   · rw [if_pos c9] at H
     have c9b0 : decide (a1_2 ≤ a1_4) = true := decide_eq_true c9
     clear c9
     replace H := Option.bind_eq_some_iff.mp H
     obtain ⟨t414, A100, H⟩ := H
     replace H : (if a1_4 ≤ t414 then ((toc_state.f a1_0 a1_1 a1_2 a1_3 a1_4 a1_5 a1_6).bind fun t415 => (some (a1_5 == t415))) else (some false)) = some r := H
     have A10 := Aside0.mk A100
     clear A100
     by_cases c11 : a1_4 ≤ t414
     · rw [if_pos c11] at H
       have c11b0 : decide (a1_4 ≤ t414) = true := decide_eq_true c11
       clear c11
       replace H := Option.bind_eq_some_iff.mp H
       obtain ⟨t415, A120, H⟩ := H
       replace H : (some (a1_5 == t415)) = some r := H
       have A12 := Aside0.mk A120
       clear A120
       obtain rfl := Option.some.inj H
       go_enter Try.func41, Try.ntmps41
       try go_wp2_with (first | ((with_reducible refine gate_dst (N := 3) rfl ?_); refine box_event ?hg (N := 3) ?hd (cs := #[.int .i64 a1_0, .int .i64 a1_1, .int .i64 a1_2, .int .i64 a1_3, .int .i64 a1_4, .int .i64 a1_5, .int .i64 a1_6]) (t := 40) ?hr ?_; (case hd => rfl); (case hg => rfl); (case hr => first | (go_simp; done) | (go_simp; rfl)); intro gb406 hg w13 hbox hb; have n0_ := Aside0.mk (below_step (by repeat (first | (with_reducible first | exact HB.out | apply below_alloc | apply pw_below_drewN | apply below_drew1) | exact HB.out)) hb); have n1_ := Aside0.mk (hbox); have n2_ := Aside0.mk ((by rw [hg]; exact (below_size (by repeat (first | (with_reducible first | exact HB.out | apply below_alloc | apply pw_below_drewN | apply below_drew1) | exact HB.out))) : w.heap.size ≤ gb406)); have n3_ := Aside0.mk ((by rw [hg]; exact (below_size (by repeat (first | (with_reducible first | exact HB.out | apply below_alloc | apply pw_below_drewN | apply below_drew1) | exact HB.out))) : w.heap.size ≤ gb406)); clear HB; have HB := n0_; have BK406 := n1_; have GW406 := n2_; have GE406 := n3_; clear n0_ n1_ n2_ n3_; clear hb hbox hg; obtain ⟨hcz14_0, hcz14_1, hcz14_2, hcz14_3, hcz14_4, hcz14_5, hcz14_6⟩ := cel7 BK406.out; obtain ⟨hfz14_0, hfz14_1, hfz14_2, hfz14_3, hfz14_4, hfz14_5, hfz14_6⟩ := frz7 BK406.out))
       have n0_ := Aside0.mk (blk_drew BK406.out)
       have n1_ := Aside0.mk (below_drew1 HB.out)
       clear BK406
       clear HB
       have BK406 := n0_
       have HB := n1_
       clear n0_ n1_
       refine start_ (n := 20) (S := fun w' => w'.cell? ⟨gb406, 0, none⟩ = some (.int .i64 a1_0) ∧ w'.cell? ⟨gb406, 1, none⟩ = some (.int .i64 a1_1) ∧ w'.cell? ⟨gb406, 2, none⟩ = some (.int .i64 a1_2) ∧ w'.cell? ⟨gb406, 3, none⟩ = some (.int .i64 a1_3) ∧ w'.cell? ⟨gb406, 4, none⟩ = some (.int .i64 a1_4) ∧ w'.cell? ⟨gb406, 5, none⟩ = some (.int .i64 a1_5) ∧ w'.cell? ⟨gb406, 6, none⟩ = some (.int .i64 a1_6)) (ds := []) #[false, false, false, false, false, false, false, false, false, false, false, false, false, false, false, false, false, false, false, false] (by kernel_rfl) rfl rfl ⟨(blk_cell BK406.out 0).trans rfl, (blk_cell BK406.out 1).trans rfl, (blk_cell BK406.out 2).trans rfl, (blk_cell BK406.out 3).trans rfl, (blk_cell BK406.out 4).trans rfl, (blk_cell BK406.out 5).trans rfl, (blk_cell BK406.out 6).trans rfl⟩ (fun hHeld => ?_); refine with_tabW toc_rules_8.tab3 toc_rules_8.bits3 (fun HT_ HW_ => ?_)
       generalize w13.drew = w15 at BK406 HB hHeld ⊢
       refine pure_ (i := 0) (N := some 12) (v := ?_) (a' := ?_) #[true, false, false, false, false, false, false, false, false, false, false, false, false, false, false, false, false, false, false, false] rfl rfl (any_of HT_.out (by kernel_rfl)) (fun _ _ _ h => h) (Or.inl ⟨by rfl, ?_⟩) ?_ ?_
       rotate_left
       · intro w'
         go_simp
         with_reducible rfl
       rotate_left
       · simp only [Act.put, List.setIfInBounds_toArray, List.set_cons_zero, List.set_cons_succ, i64_w, i32_w]
         rfl
       refine pure_ (i := 2) (N := some 14) (v := ?_) (a' := ?_) #[true, false, true, false, false, false, false, false, false, false, false, false, false, false, false, false, false, false, false, false] rfl rfl (any_of HT_.out (by kernel_rfl)) (fun _ _ _ h => h) (Or.inl ⟨by rfl, ?_⟩) ?_ ?_
       rotate_left
       · intro w'
         go_simp
         with_reducible rfl
       rotate_left
       · simp only [Act.put, List.setIfInBounds_toArray, List.set_cons_zero, List.set_cons_succ, i64_w, i32_w]
         rfl
       refine take_ (i := 1) (N := some 13) (v := ?_) (a' := ?_) #[true, true, true, false, false, false, false, false, false, false, false, false, false, false, false, false, false, false, false, false] rfl rfl (take_ofW HT_.out HW_.out (by kernel_rfl)) (fun _ _ _ h => h) (Or.inl ⟨by rfl, ?_⟩) hHeld ?_ ?_
       rotate_left
       · rintro w' ⟨s0, s1, s2, s3, s4, s5, s6⟩
         go_simp
         with_reducible rfl
       rotate_left
       · simp only [Act.put, List.setIfInBounds_toArray, List.set_cons_zero, List.set_cons_succ, i64_w, i32_w]
         rfl
       refine take_ (i := 3) (N := some 15) (v := ?_) (a' := ?_) #[true, true, true, true, false, false, false, false, false, false, false, false, false, false, false, false, false, false, false, false] rfl rfl (take_ofW HT_.out HW_.out (by kernel_rfl)) (fun _ _ _ h => h) (Or.inl ⟨by rfl, ?_⟩) hHeld ?_ ?_
       rotate_left
       · rintro w' ⟨s0, s1, s2, s3, s4, s5, s6⟩
         go_simp
         with_reducible rfl
       rotate_left
       · simp only [Act.put, List.setIfInBounds_toArray, List.set_cons_zero, List.set_cons_succ, i64_w, i32_w]
         rfl
       refine pure_ (i := 4) (N := some 16) (v := ?_) (a' := ?_) #[true, true, true, true, true, false, false, false, false, false, false, false, false, false, false, false, false, false, false, false] rfl rfl (any_of HT_.out (by kernel_rfl)) (fun _ _ _ h => h) (Or.inl ⟨by rfl, ?_⟩) ?_ ?_
       rotate_left
       · intro w'
         go_simp
         with_reducible rfl
       rotate_left
       · simp only [Act.put, List.setIfInBounds_toArray, List.set_cons_zero, List.set_cons_succ, i64_w, i32_w]
         rfl
       refine pure_ (i := 5) (N := some 17) (v := ?_) (a' := ?_) #[true, true, true, true, true, true, false, false, false, false, false, false, false, false, false, false, false, false, false, false] rfl rfl (any_of HT_.out (by kernel_rfl)) (fun _ _ _ h => h) (Or.inl ⟨by rfl, ?_⟩) ?_ ?_
       rotate_left
       · intro w'
         go_simp
         with_reducible rfl
       rotate_left
       · simp only [Act.put, List.setIfInBounds_toArray, List.set_cons_zero, List.set_cons_succ, i64_w, i32_w]
         rfl
       refine pure_ (i := 6) (N := some 18) (v := ?_) (a' := ?_) #[true, true, true, true, true, true, true, false, false, false, false, false, false, false, false, false, false, false, false, false] rfl rfl (any_of HT_.out (by kernel_rfl)) (fun _ _ _ h => h) (Or.inl ⟨by rfl, ?_⟩) ?_ ?_
       rotate_left
       · intro w'
         go_simp
         with_reducible rfl
       rotate_left
       · simp only [Act.put, List.setIfInBounds_toArray, List.set_cons_zero, List.set_cons_succ, i64_w, i32_w]
         rfl
       refine take_ (i := 7) (N := some 19) (v := ?_) (a' := ?_) #[true, true, true, true, true, true, true, true, false, false, false, false, false, false, false, false, false, false, false, false] rfl rfl (take_ofW HT_.out HW_.out (by kernel_rfl)) (fun _ _ _ h => h) (Or.inl ⟨by rfl, ?_⟩) hHeld ?_ ?_
       rotate_left
       · rintro w' ⟨s0, s1, s2, s3, s4, s5, s6⟩
         go_simp
         with_reducible rfl
       rotate_left
       · simp only [Act.put, List.setIfInBounds_toArray, List.set_cons_zero, List.set_cons_succ, i64_w, i32_w]
         rfl
       refine take_ (i := 8) (N := some 20) (v := ?_) (a' := ?_) #[true, true, true, true, true, true, true, true, true, false, false, false, false, false, false, false, false, false, false, false] rfl rfl (take_ofW HT_.out HW_.out (by kernel_rfl)) (fun _ _ _ h => h) (Or.inl ⟨by rfl, ?_⟩) hHeld ?_ ?_
       rotate_left
       · rintro w' ⟨s0, s1, s2, s3, s4, s5, s6⟩
         go_simp
         with_reducible rfl
       rotate_left
       · simp only [Act.put, List.setIfInBounds_toArray, List.set_cons_zero, List.set_cons_succ, i64_w, i32_w]
         rfl
       refine one_ (i := 9) (N := some 21) #[true, true, true, true, true, true, true, true, true, true, false, false, false, false, false, false, false, false, false, false] rfl rfl (one_of HT_.out (by kernel_rfl)) (by decide) (fun K hK => ?_)
       refine goes_ Try.func26 (by kernel_rfl) rfl #[.agg #[.int .i64 a1_0, .int .i64 a1_1, .int .i64 a1_2, .int .i64 a1_3, .int .i64 a1_4, .int .i64 a1_5, .int .i64 a1_6]] (by rfl) rfl rfl (by (try simp only [List.map_toArray, List.map_cons, List.map_nil]); first | done | rfl | (simp only [List.length_drop, List.length_take]; rfl)) ?_
       with_reducible refine (toc_end.calls a1_0 a1_1 a1_2 a1_3 a1_4 a1_5 a1_6 t414 _ A10.out).mono ?_
       rintro e w16 ⟨rfl, hb⟩
       refine ⟨_, rfl, ?_⟩
       have n0_ := Aside0.mk (blk_below (g := gb406) (o := .cells #[.int .i64 a1_0, .int .i64 a1_1, .int .i64 a1_2, .int .i64 a1_3, .int .i64 a1_4, .int .i64 a1_5, .int .i64 a1_6] 40 (0, 0)) (by (with_reducible repeat (first | refine blk_drewN ?_ _ | refine blk_drew ?_ | refine blk_alloc ?_ _)); exact BK406.out) hb)
       have n1_ := Aside0.mk (below_step (by repeat (first | (with_reducible first | exact HB.out | apply below_alloc | apply pw_below_drewN | apply below_drew1 | refine below_set ?_ GE406.out) | exact HB.out)) hb)
       clear BK406
       clear HB
       have BK406 := n0_
       have HB := n1_
       clear n0_ n1_
       (try clear hb)
       (try clear hb2)
       (try clear hk)
       (try clear hi)
       refine hK.out _ _ ⟨(blk_cell BK406.out 0).trans rfl, (blk_cell BK406.out 1).trans rfl, (blk_cell BK406.out 2).trans rfl, (blk_cell BK406.out 3).trans rfl, (blk_cell BK406.out 4).trans rfl, (blk_cell BK406.out 5).trans rfl, (blk_cell BK406.out 6).trans rfl⟩ (fun hHeld => ?_)
       clear hK K
       refine norm_ (a' := ?_) ?_ ?_
       rotate_left
       · show Act.put _ (some 21) _ = _
         simp only [Act.put, List.setIfInBounds_toArray, List.set_cons_zero, List.set_cons_succ, i64_w, i32_w]
         rfl
       refine pure_ (i := 10) (N := some 22) (v := ?_) (a' := ?_) #[true, true, true, true, true, true, true, true, true, true, true, false, false, false, false, false, false, false, false, false] rfl rfl (any_of HT_.out (by kernel_rfl)) (fun _ _ _ h => h) (Or.inl ⟨by rfl, ?_⟩) ?_ ?_
       rotate_left
       · intro w'
         go_simp
         with_reducible rfl
       rotate_left
       · simp only [Act.put, List.setIfInBounds_toArray, List.set_cons_zero, List.set_cons_succ, i64_w, i32_w]
         rfl
       refine pure_ (i := 11) (N := some 23) (v := ?_) (a' := ?_) #[true, true, true, true, true, true, true, true, true, true, true, true, false, false, false, false, false, false, false, false] rfl rfl (any_of HT_.out (by kernel_rfl)) (fun _ _ _ h => h) (Or.inl ⟨by rfl, ?_⟩) ?_ ?_
       rotate_left
       · intro w'
         go_simp
         with_reducible rfl
       rotate_left
       · simp only [Act.put, List.setIfInBounds_toArray, List.set_cons_zero, List.set_cons_succ, i64_w, i32_w]
         rfl
       refine pure_ (i := 12) (N := some 24) (v := ?_) (a' := ?_) #[true, true, true, true, true, true, true, true, true, true, true, true, true, false, false, false, false, false, false, false] rfl rfl (any_of HT_.out (by kernel_rfl)) (fun _ _ _ h => h) (Or.inl ⟨by rfl, ?_⟩) ?_ ?_
       rotate_left
       · intro w'
         go_simp
         with_reducible rfl
       rotate_left
       · simp only [Act.put, List.setIfInBounds_toArray, List.set_cons_zero, List.set_cons_succ, i64_w, i32_w]
         rfl
       refine pure_ (i := 13) (N := some 25) (v := ?_) (a' := ?_) #[true, true, true, true, true, true, true, true, true, true, true, true, true, true, false, false, false, false, false, false] rfl rfl (any_of HT_.out (by kernel_rfl)) (fun _ _ _ h => h) (Or.inl ⟨by rfl, ?_⟩) ?_ ?_
       rotate_left
       · intro w'
         go_simp
         with_reducible rfl
       rotate_left
       · simp only [Act.put, List.setIfInBounds_toArray, List.set_cons_zero, List.set_cons_succ, i64_w, i32_w]
         rfl
       refine take_ (i := 14) (N := some 26) (v := ?_) (a' := ?_) #[true, true, true, true, true, true, true, true, true, true, true, true, true, true, true, false, false, false, false, false] rfl rfl (take_ofW HT_.out HW_.out (by kernel_rfl)) (fun _ _ _ h => h) (Or.inl ⟨by rfl, ?_⟩) hHeld ?_ ?_
       rotate_left
       · rintro w' ⟨s0, s1, s2, s3, s4, s5, s6⟩
         go_simp
         with_reducible rfl
       rotate_left
       · simp only [Act.put, List.setIfInBounds_toArray, List.set_cons_zero, List.set_cons_succ, i64_w, i32_w]
         rfl
       refine take_ (i := 15) (N := some 27) (v := ?_) (a' := ?_) #[true, true, true, true, true, true, true, true, true, true, true, true, true, true, true, true, false, false, false, false] rfl rfl (take_ofW HT_.out HW_.out (by kernel_rfl)) (fun _ _ _ h => h) (Or.inl ⟨by rfl, ?_⟩) hHeld ?_ ?_
       rotate_left
       · rintro w' ⟨s0, s1, s2, s3, s4, s5, s6⟩
         go_simp
         with_reducible rfl
       rotate_left
       · simp only [Act.put, List.setIfInBounds_toArray, List.set_cons_zero, List.set_cons_succ, i64_w, i32_w]
         rfl
       refine one_ (i := 16) (N := some 28) #[true, true, true, true, true, true, true, true, true, true, true, true, true, true, true, true, true, false, false, false] rfl rfl (one_of HT_.out (by kernel_rfl)) (by decide) (fun K hK => ?_)
       refine goes_ Try.func43 (by kernel_rfl) rfl #[.agg #[.int .i64 a1_0, .int .i64 a1_1, .int .i64 a1_2, .int .i64 a1_3, .int .i64 a1_4, .int .i64 a1_5, .int .i64 a1_6]] (by rfl) rfl rfl (by (try simp only [List.map_toArray, List.map_cons, List.map_nil]); first | done | rfl | (simp only [List.length_drop, List.length_take]; rfl)) ?_
       with_reducible refine (toc_state.calls a1_0 a1_1 a1_2 a1_3 a1_4 a1_5 a1_6 t415 _ A12.out).mono ?_
       rintro e w17 ⟨rfl, hb⟩
       refine ⟨_, rfl, ?_⟩
       have n0_ := Aside0.mk (blk_below (g := gb406) (o := .cells #[.int .i64 a1_0, .int .i64 a1_1, .int .i64 a1_2, .int .i64 a1_3, .int .i64 a1_4, .int .i64 a1_5, .int .i64 a1_6] 40 (0, 0)) (by (with_reducible repeat (first | refine blk_drewN ?_ _ | refine blk_drew ?_ | refine blk_alloc ?_ _)); exact BK406.out) hb)
       have n1_ := Aside0.mk (below_step (by repeat (first | (with_reducible first | exact HB.out | apply below_alloc | apply pw_below_drewN | apply below_drew1 | refine below_set ?_ GE406.out) | exact HB.out)) hb)
       clear BK406
       clear HB
       have BK406 := n0_
       have HB := n1_
       clear n0_ n1_
       (try clear hb)
       (try clear hb2)
       (try clear hk)
       (try clear hi)
       refine hK.out _ _ ⟨(blk_cell BK406.out 0).trans rfl, (blk_cell BK406.out 1).trans rfl, (blk_cell BK406.out 2).trans rfl, (blk_cell BK406.out 3).trans rfl, (blk_cell BK406.out 4).trans rfl, (blk_cell BK406.out 5).trans rfl, (blk_cell BK406.out 6).trans rfl⟩ (fun hHeld => ?_)
       clear hK K
       refine norm_ (a' := ?_) ?_ ?_
       rotate_left
       · show Act.put _ (some 28) _ = _
         simp only [Act.put, List.setIfInBounds_toArray, List.set_cons_zero, List.set_cons_succ, i64_w, i32_w]
         rfl
       refine pure_ (i := 17) (N := some 29) (v := ?_) (a' := ?_) #[true, true, true, true, true, true, true, true, true, true, true, true, true, true, true, true, true, true, false, false] rfl rfl (any_of HT_.out (by kernel_rfl)) (fun _ _ _ h => h) (Or.inl ⟨by rfl, ?_⟩) ?_ ?_
       rotate_left
       · intro w'
         go_simp
         with_reducible rfl
       rotate_left
       · simp only [Act.put, List.setIfInBounds_toArray, List.set_cons_zero, List.set_cons_succ, i64_w, i32_w]
         rfl
       refine pure_ (i := 18) (N := some 30) (v := ?_) (a' := ?_) #[true, true, true, true, true, true, true, true, true, true, true, true, true, true, true, true, true, true, true, false] rfl rfl (any_of HT_.out (by kernel_rfl)) (fun _ _ _ h => h) (Or.inl ⟨by rfl, ?_⟩) ?_ ?_
       rotate_left
       · intro w'
         go_simp
         with_reducible rfl
       rotate_left
       · simp only [Act.put, List.setIfInBounds_toArray, List.set_cons_zero, List.set_cons_succ, i64_w, i32_w]
         rfl
       refine pure_ (i := 19) (N := some 4) (v := ?_) (a' := ?_) #[true, true, true, true, true, true, true, true, true, true, true, true, true, true, true, true, true, true, true, true] rfl rfl (any_of HT_.out (by kernel_rfl)) (fun _ _ _ h => h) (Or.inl ⟨by rfl, ?_⟩) ?_ ?_
       rotate_left
       · intro w'
         go_simp
         with_reducible rfl
       rotate_left
       · simp only [Act.put, List.setIfInBounds_toArray, List.set_cons_zero, List.set_cons_succ, i64_w, i32_w]
         rfl
       refine done_ (done_of HT_.out (by kernel_rfl)) ?_
       try go_wp2
       go_ret
       exact ⟨by first | rfl | (simp [errW_none, errW_some] <;> rfl) | (simp [*, errW_none, errW_some] <;> rfl), by repeat (first | (with_reducible first | exact HB.out | apply below_alloc | apply pw_below_drewN | apply below_drew1 | refine below_set ?_ GE406.out) | exact HB.out)⟩
     · rw [if_neg c11] at H
       have c11b0 : decide (a1_4 ≤ t414) = false := decide_eq_false c11
       clear c11
       obtain rfl := Option.some.inj H
       go_enter Try.func41, Try.ntmps41
       try go_wp2_with (first | ((with_reducible refine gate_dst (N := 3) rfl ?_); refine box_event ?hg (N := 3) ?hd (cs := #[.int .i64 a1_0, .int .i64 a1_1, .int .i64 a1_2, .int .i64 a1_3, .int .i64 a1_4, .int .i64 a1_5, .int .i64 a1_6]) (t := 40) ?hr ?_; (case hd => rfl); (case hg => rfl); (case hr => first | (go_simp; done) | (go_simp; rfl)); intro gb406 hg w18 hbox hb; have n0_ := Aside0.mk (below_step (by repeat (first | (with_reducible first | exact HB.out | apply below_alloc | apply pw_below_drewN | apply below_drew1) | exact HB.out)) hb); have n1_ := Aside0.mk (hbox); have n2_ := Aside0.mk ((by rw [hg]; exact (below_size (by repeat (first | (with_reducible first | exact HB.out | apply below_alloc | apply pw_below_drewN | apply below_drew1) | exact HB.out))) : w.heap.size ≤ gb406)); have n3_ := Aside0.mk ((by rw [hg]; exact (below_size (by repeat (first | (with_reducible first | exact HB.out | apply below_alloc | apply pw_below_drewN | apply below_drew1) | exact HB.out))) : w.heap.size ≤ gb406)); clear HB; have HB := n0_; have BK406 := n1_; have GW406 := n2_; have GE406 := n3_; clear n0_ n1_ n2_ n3_; clear hb hbox hg; obtain ⟨hcz19_0, hcz19_1, hcz19_2, hcz19_3, hcz19_4, hcz19_5, hcz19_6⟩ := cel7 BK406.out; obtain ⟨hfz19_0, hfz19_1, hfz19_2, hfz19_3, hfz19_4, hfz19_5, hfz19_6⟩ := frz7 BK406.out))
       have n0_ := Aside0.mk (blk_drew BK406.out)
       have n1_ := Aside0.mk (below_drew1 HB.out)
       clear BK406
       clear HB
       have BK406 := n0_
       have HB := n1_
       clear n0_ n1_
       refine start_ (n := 20) (S := fun w' => w'.cell? ⟨gb406, 0, none⟩ = some (.int .i64 a1_0) ∧ w'.cell? ⟨gb406, 1, none⟩ = some (.int .i64 a1_1) ∧ w'.cell? ⟨gb406, 2, none⟩ = some (.int .i64 a1_2) ∧ w'.cell? ⟨gb406, 3, none⟩ = some (.int .i64 a1_3) ∧ w'.cell? ⟨gb406, 4, none⟩ = some (.int .i64 a1_4) ∧ w'.cell? ⟨gb406, 5, none⟩ = some (.int .i64 a1_5) ∧ w'.cell? ⟨gb406, 6, none⟩ = some (.int .i64 a1_6)) (ds := []) #[false, false, false, false, false, false, false, false, false, false, false, false, false, false, false, false, false, false, false, false] (by kernel_rfl) rfl rfl ⟨(blk_cell BK406.out 0).trans rfl, (blk_cell BK406.out 1).trans rfl, (blk_cell BK406.out 2).trans rfl, (blk_cell BK406.out 3).trans rfl, (blk_cell BK406.out 4).trans rfl, (blk_cell BK406.out 5).trans rfl, (blk_cell BK406.out 6).trans rfl⟩ (fun hHeld => ?_); refine with_tabW toc_rules_8.tab3 toc_rules_8.bits3 (fun HT_ HW_ => ?_)
       generalize w18.drew = w20 at BK406 HB hHeld ⊢
       refine pure_ (i := 0) (N := some 12) (v := ?_) (a' := ?_) #[true, false, false, false, false, false, false, false, false, false, false, false, false, false, false, false, false, false, false, false] rfl rfl (any_of HT_.out (by kernel_rfl)) (fun _ _ _ h => h) (Or.inl ⟨by rfl, ?_⟩) ?_ ?_
       rotate_left
       · intro w'
         go_simp
         with_reducible rfl
       rotate_left
       · simp only [Act.put, List.setIfInBounds_toArray, List.set_cons_zero, List.set_cons_succ, i64_w, i32_w]
         rfl
       refine pure_ (i := 2) (N := some 14) (v := ?_) (a' := ?_) #[true, false, true, false, false, false, false, false, false, false, false, false, false, false, false, false, false, false, false, false] rfl rfl (any_of HT_.out (by kernel_rfl)) (fun _ _ _ h => h) (Or.inl ⟨by rfl, ?_⟩) ?_ ?_
       rotate_left
       · intro w'
         go_simp
         with_reducible rfl
       rotate_left
       · simp only [Act.put, List.setIfInBounds_toArray, List.set_cons_zero, List.set_cons_succ, i64_w, i32_w]
         rfl
       refine take_ (i := 1) (N := some 13) (v := ?_) (a' := ?_) #[true, true, true, false, false, false, false, false, false, false, false, false, false, false, false, false, false, false, false, false] rfl rfl (take_ofW HT_.out HW_.out (by kernel_rfl)) (fun _ _ _ h => h) (Or.inl ⟨by rfl, ?_⟩) hHeld ?_ ?_
       rotate_left
       · rintro w' ⟨s0, s1, s2, s3, s4, s5, s6⟩
         go_simp
         with_reducible rfl
       rotate_left
       · simp only [Act.put, List.setIfInBounds_toArray, List.set_cons_zero, List.set_cons_succ, i64_w, i32_w]
         rfl
       refine take_ (i := 3) (N := some 15) (v := ?_) (a' := ?_) #[true, true, true, true, false, false, false, false, false, false, false, false, false, false, false, false, false, false, false, false] rfl rfl (take_ofW HT_.out HW_.out (by kernel_rfl)) (fun _ _ _ h => h) (Or.inl ⟨by rfl, ?_⟩) hHeld ?_ ?_
       rotate_left
       · rintro w' ⟨s0, s1, s2, s3, s4, s5, s6⟩
         go_simp
         with_reducible rfl
       rotate_left
       · simp only [Act.put, List.setIfInBounds_toArray, List.set_cons_zero, List.set_cons_succ, i64_w, i32_w]
         rfl
       refine pure_ (i := 4) (N := some 16) (v := ?_) (a' := ?_) #[true, true, true, true, true, false, false, false, false, false, false, false, false, false, false, false, false, false, false, false] rfl rfl (any_of HT_.out (by kernel_rfl)) (fun _ _ _ h => h) (Or.inl ⟨by rfl, ?_⟩) ?_ ?_
       rotate_left
       · intro w'
         go_simp
         with_reducible rfl
       rotate_left
       · simp only [Act.put, List.setIfInBounds_toArray, List.set_cons_zero, List.set_cons_succ, i64_w, i32_w]
         rfl
       refine pure_ (i := 5) (N := some 17) (v := ?_) (a' := ?_) #[true, true, true, true, true, true, false, false, false, false, false, false, false, false, false, false, false, false, false, false] rfl rfl (any_of HT_.out (by kernel_rfl)) (fun _ _ _ h => h) (Or.inl ⟨by rfl, ?_⟩) ?_ ?_
       rotate_left
       · intro w'
         go_simp
         with_reducible rfl
       rotate_left
       · simp only [Act.put, List.setIfInBounds_toArray, List.set_cons_zero, List.set_cons_succ, i64_w, i32_w]
         rfl
       refine pure_ (i := 6) (N := some 18) (v := ?_) (a' := ?_) #[true, true, true, true, true, true, true, false, false, false, false, false, false, false, false, false, false, false, false, false] rfl rfl (any_of HT_.out (by kernel_rfl)) (fun _ _ _ h => h) (Or.inl ⟨by rfl, ?_⟩) ?_ ?_
       rotate_left
       · intro w'
         go_simp
         with_reducible rfl
       rotate_left
       · simp only [Act.put, List.setIfInBounds_toArray, List.set_cons_zero, List.set_cons_succ, i64_w, i32_w]
         rfl
       refine take_ (i := 7) (N := some 19) (v := ?_) (a' := ?_) #[true, true, true, true, true, true, true, true, false, false, false, false, false, false, false, false, false, false, false, false] rfl rfl (take_ofW HT_.out HW_.out (by kernel_rfl)) (fun _ _ _ h => h) (Or.inl ⟨by rfl, ?_⟩) hHeld ?_ ?_
       rotate_left
       · rintro w' ⟨s0, s1, s2, s3, s4, s5, s6⟩
         go_simp
         with_reducible rfl
       rotate_left
       · simp only [Act.put, List.setIfInBounds_toArray, List.set_cons_zero, List.set_cons_succ, i64_w, i32_w]
         rfl
       refine take_ (i := 8) (N := some 20) (v := ?_) (a' := ?_) #[true, true, true, true, true, true, true, true, true, false, false, false, false, false, false, false, false, false, false, false] rfl rfl (take_ofW HT_.out HW_.out (by kernel_rfl)) (fun _ _ _ h => h) (Or.inl ⟨by rfl, ?_⟩) hHeld ?_ ?_
       rotate_left
       · rintro w' ⟨s0, s1, s2, s3, s4, s5, s6⟩
         go_simp
         with_reducible rfl
       rotate_left
       · simp only [Act.put, List.setIfInBounds_toArray, List.set_cons_zero, List.set_cons_succ, i64_w, i32_w]
         rfl
       refine one_ (i := 9) (N := some 21) #[true, true, true, true, true, true, true, true, true, true, false, false, false, false, false, false, false, false, false, false] rfl rfl (one_of HT_.out (by kernel_rfl)) (by decide) (fun K hK => ?_)
       refine goes_ Try.func26 (by kernel_rfl) rfl #[.agg #[.int .i64 a1_0, .int .i64 a1_1, .int .i64 a1_2, .int .i64 a1_3, .int .i64 a1_4, .int .i64 a1_5, .int .i64 a1_6]] (by rfl) rfl rfl (by (try simp only [List.map_toArray, List.map_cons, List.map_nil]); first | done | rfl | (simp only [List.length_drop, List.length_take]; rfl)) ?_
       with_reducible refine (toc_end.calls a1_0 a1_1 a1_2 a1_3 a1_4 a1_5 a1_6 t414 _ A10.out).mono ?_
       rintro e w21 ⟨rfl, hb⟩
       refine ⟨_, rfl, ?_⟩
       have n0_ := Aside0.mk (blk_below (g := gb406) (o := .cells #[.int .i64 a1_0, .int .i64 a1_1, .int .i64 a1_2, .int .i64 a1_3, .int .i64 a1_4, .int .i64 a1_5, .int .i64 a1_6] 40 (0, 0)) (by (with_reducible repeat (first | refine blk_drewN ?_ _ | refine blk_drew ?_ | refine blk_alloc ?_ _)); exact BK406.out) hb)
       have n1_ := Aside0.mk (below_step (by repeat (first | (with_reducible first | exact HB.out | apply below_alloc | apply pw_below_drewN | apply below_drew1 | refine below_set ?_ GE406.out) | exact HB.out)) hb)
       clear BK406
       clear HB
       have BK406 := n0_
       have HB := n1_
       clear n0_ n1_
       (try clear hb)
       (try clear hb2)
       (try clear hk)
       (try clear hi)
       refine hK.out _ _ ⟨(blk_cell BK406.out 0).trans rfl, (blk_cell BK406.out 1).trans rfl, (blk_cell BK406.out 2).trans rfl, (blk_cell BK406.out 3).trans rfl, (blk_cell BK406.out 4).trans rfl, (blk_cell BK406.out 5).trans rfl, (blk_cell BK406.out 6).trans rfl⟩ (fun hHeld => ?_)
       clear hK K
       refine norm_ (a' := ?_) ?_ ?_
       rotate_left
       · show Act.put _ (some 21) _ = _
         simp only [Act.put, List.setIfInBounds_toArray, List.set_cons_zero, List.set_cons_succ, i64_w, i32_w]
         rfl
       refine pure_ (i := 10) (N := some 22) (v := ?_) (a' := ?_) #[true, true, true, true, true, true, true, true, true, true, true, false, false, false, false, false, false, false, false, false] rfl rfl (any_of HT_.out (by kernel_rfl)) (fun _ _ _ h => h) (Or.inl ⟨by rfl, ?_⟩) ?_ ?_
       rotate_left
       · intro w'
         go_simp
         with_reducible rfl
       rotate_left
       · simp only [Act.put, List.setIfInBounds_toArray, List.set_cons_zero, List.set_cons_succ, i64_w, i32_w]
         rfl
       refine pure_ (i := 11) (N := some 23) (v := ?_) (a' := ?_) #[true, true, true, true, true, true, true, true, true, true, true, true, false, false, false, false, false, false, false, false] rfl rfl (any_of HT_.out (by kernel_rfl)) (fun _ _ _ h => h) (Or.inl ⟨by rfl, ?_⟩) ?_ ?_
       rotate_left
       · intro w'
         go_simp
         with_reducible rfl
       rotate_left
       · simp only [Act.put, List.setIfInBounds_toArray, List.set_cons_zero, List.set_cons_succ, i64_w, i32_w]
         rfl
       refine pure_ (i := 12) (N := some 24) (v := ?_) (a' := ?_) #[true, true, true, true, true, true, true, true, true, true, true, true, true, false, false, false, false, false, false, false] rfl rfl (any_of HT_.out (by kernel_rfl)) (fun _ _ _ h => h) (Or.inl ⟨by rfl, ?_⟩) ?_ ?_
       rotate_left
       · intro w'
         go_simp
         with_reducible rfl
       rotate_left
       · simp only [Act.put, List.setIfInBounds_toArray, List.set_cons_zero, List.set_cons_succ, i64_w, i32_w]
         rfl
       refine pure_ (i := 13) (N := some 25) (v := undef) (a' := ?_) #[true, true, true, true, true, true, true, true, true, true, true, true, true, true, false, false, false, false, false, false] rfl rfl (any_of HT_.out (by kernel_rfl)) (fun _ _ _ h => h) (Or.inr ⟨by rfl, rfl⟩) ?_ ?_
       rotate_left
       · simp only [Act.put, List.setIfInBounds_toArray, List.set_cons_zero, List.set_cons_succ, i64_w, i32_w]
         rfl
       refine pure_ (i := 14) (N := some 26) (v := undef) (a' := ?_) #[true, true, true, true, true, true, true, true, true, true, true, true, true, true, true, false, false, false, false, false] rfl rfl (any_of HT_.out (by kernel_rfl)) (fun _ _ _ h => h) (Or.inr ⟨by rfl, rfl⟩) ?_ ?_
       rotate_left
       · simp only [Act.put, List.setIfInBounds_toArray, List.set_cons_zero, List.set_cons_succ, i64_w, i32_w]
         rfl
       refine pure_ (i := 15) (N := some 27) (v := undef) (a' := ?_) #[true, true, true, true, true, true, true, true, true, true, true, true, true, true, true, true, false, false, false, false] rfl rfl (any_of HT_.out (by kernel_rfl)) (fun _ _ _ h => h) (Or.inr ⟨by rfl, rfl⟩) ?_ ?_
       rotate_left
       · simp only [Act.put, List.setIfInBounds_toArray, List.set_cons_zero, List.set_cons_succ, i64_w, i32_w]
         rfl
       refine pure_ (i := 16) (N := some 28) (v := undef) (a' := ?_) #[true, true, true, true, true, true, true, true, true, true, true, true, true, true, true, true, true, false, false, false] rfl rfl (any_of HT_.out (by kernel_rfl)) (fun _ _ _ h => h) (Or.inr ⟨by rfl, rfl⟩) ?_ ?_
       rotate_left
       · simp only [Act.put, List.setIfInBounds_toArray, List.set_cons_zero, List.set_cons_succ, i64_w, i32_w]
         rfl
       refine pure_ (i := 17) (N := some 29) (v := undef) (a' := ?_) #[true, true, true, true, true, true, true, true, true, true, true, true, true, true, true, true, true, true, false, false] rfl rfl (any_of HT_.out (by kernel_rfl)) (fun _ _ _ h => h) (Or.inr ⟨by rfl, rfl⟩) ?_ ?_
       rotate_left
       · simp only [Act.put, List.setIfInBounds_toArray, List.set_cons_zero, List.set_cons_succ, i64_w, i32_w]
         rfl
       refine pure_ (i := 18) (N := some 30) (v := ?_) (a' := ?_) #[true, true, true, true, true, true, true, true, true, true, true, true, true, true, true, true, true, true, true, false] rfl rfl (any_of HT_.out (by kernel_rfl)) (fun _ _ _ h => h) (Or.inl ⟨by rfl, ?_⟩) ?_ ?_
       rotate_left
       · intro w'
         go_simp
         with_reducible rfl
       rotate_left
       · simp only [Act.put, List.setIfInBounds_toArray, List.set_cons_zero, List.set_cons_succ, i64_w, i32_w]
         rfl
       refine pure_ (i := 19) (N := some 4) (v := ?_) (a' := ?_) #[true, true, true, true, true, true, true, true, true, true, true, true, true, true, true, true, true, true, true, true] rfl rfl (any_of HT_.out (by kernel_rfl)) (fun _ _ _ h => h) (Or.inl ⟨by rfl, ?_⟩) ?_ ?_
       rotate_left
       · intro w'
         go_simp
         with_reducible rfl
       rotate_left
       · simp only [Act.put, List.setIfInBounds_toArray, List.set_cons_zero, List.set_cons_succ, i64_w, i32_w]
         rfl
       refine done_ (done_of HT_.out (by kernel_rfl)) ?_
       try go_wp2
       go_ret
       exact ⟨by first | rfl | (simp [errW_none, errW_some] <;> rfl) | (simp [*, errW_none, errW_some] <;> rfl), by repeat (first | (with_reducible first | exact HB.out | apply below_alloc | apply pw_below_drewN | apply below_drew1 | refine below_set ?_ GE406.out) | exact HB.out)⟩
   · rw [if_neg c9] at H
     have c9b0 : decide (a1_2 ≤ a1_4) = false := decide_eq_false c9
     clear c9
     obtain rfl := Option.some.inj H
     go_enter Try.func41, Try.ntmps41
     try go_wp2_with (first | ((with_reducible refine gate_dst (N := 3) rfl ?_); refine box_event ?hg (N := 3) ?hd (cs := #[.int .i64 a1_0, .int .i64 a1_1, .int .i64 a1_2, .int .i64 a1_3, .int .i64 a1_4, .int .i64 a1_5, .int .i64 a1_6]) (t := 40) ?hr ?_; (case hd => rfl); (case hg => rfl); (case hr => first | (go_simp; done) | (go_simp; rfl)); intro gb406 hg w22 hbox hb; have n0_ := Aside0.mk (below_step (by repeat (first | (with_reducible first | exact HB.out | apply below_alloc | apply pw_below_drewN | apply below_drew1) | exact HB.out)) hb); have n1_ := Aside0.mk (hbox); have n2_ := Aside0.mk ((by rw [hg]; exact (below_size (by repeat (first | (with_reducible first | exact HB.out | apply below_alloc | apply pw_below_drewN | apply below_drew1) | exact HB.out))) : w.heap.size ≤ gb406)); have n3_ := Aside0.mk ((by rw [hg]; exact (below_size (by repeat (first | (with_reducible first | exact HB.out | apply below_alloc | apply pw_below_drewN | apply below_drew1) | exact HB.out))) : w.heap.size ≤ gb406)); clear HB; have HB := n0_; have BK406 := n1_; have GW406 := n2_; have GE406 := n3_; clear n0_ n1_ n2_ n3_; clear hb hbox hg; obtain ⟨hcz23_0, hcz23_1, hcz23_2, hcz23_3, hcz23_4, hcz23_5, hcz23_6⟩ := cel7 BK406.out; obtain ⟨hfz23_0, hfz23_1, hfz23_2, hfz23_3, hfz23_4, hfz23_5, hfz23_6⟩ := frz7 BK406.out))
     have n0_ := Aside0.mk (blk_drew BK406.out)
     have n1_ := Aside0.mk (below_drew1 HB.out)
     clear BK406
     clear HB
     have BK406 := n0_
     have HB := n1_
     clear n0_ n1_
     refine start_ (n := 20) (S := fun w' => w'.cell? ⟨gb406, 0, none⟩ = some (.int .i64 a1_0) ∧ w'.cell? ⟨gb406, 1, none⟩ = some (.int .i64 a1_1) ∧ w'.cell? ⟨gb406, 2, none⟩ = some (.int .i64 a1_2) ∧ w'.cell? ⟨gb406, 3, none⟩ = some (.int .i64 a1_3) ∧ w'.cell? ⟨gb406, 4, none⟩ = some (.int .i64 a1_4) ∧ w'.cell? ⟨gb406, 5, none⟩ = some (.int .i64 a1_5) ∧ w'.cell? ⟨gb406, 6, none⟩ = some (.int .i64 a1_6)) (ds := []) #[false, false, false, false, false, false, false, false, false, false, false, false, false, false, false, false, false, false, false, false] (by kernel_rfl) rfl rfl ⟨(blk_cell BK406.out 0).trans rfl, (blk_cell BK406.out 1).trans rfl, (blk_cell BK406.out 2).trans rfl, (blk_cell BK406.out 3).trans rfl, (blk_cell BK406.out 4).trans rfl, (blk_cell BK406.out 5).trans rfl, (blk_cell BK406.out 6).trans rfl⟩ (fun hHeld => ?_); refine with_tabW toc_rules_8.tab3 toc_rules_8.bits3 (fun HT_ HW_ => ?_)
     generalize w22.drew = w24 at BK406 HB hHeld ⊢
     refine pure_ (i := 0) (N := some 12) (v := ?_) (a' := ?_) #[true, false, false, false, false, false, false, false, false, false, false, false, false, false, false, false, false, false, false, false] rfl rfl (any_of HT_.out (by kernel_rfl)) (fun _ _ _ h => h) (Or.inl ⟨by rfl, ?_⟩) ?_ ?_
     rotate_left
     · intro w'
       go_simp
       with_reducible rfl
     rotate_left
     · simp only [Act.put, List.setIfInBounds_toArray, List.set_cons_zero, List.set_cons_succ, i64_w, i32_w]
       rfl
     refine pure_ (i := 2) (N := some 14) (v := ?_) (a' := ?_) #[true, false, true, false, false, false, false, false, false, false, false, false, false, false, false, false, false, false, false, false] rfl rfl (any_of HT_.out (by kernel_rfl)) (fun _ _ _ h => h) (Or.inl ⟨by rfl, ?_⟩) ?_ ?_
     rotate_left
     · intro w'
       go_simp
       with_reducible rfl
     rotate_left
     · simp only [Act.put, List.setIfInBounds_toArray, List.set_cons_zero, List.set_cons_succ, i64_w, i32_w]
       rfl
     refine take_ (i := 1) (N := some 13) (v := ?_) (a' := ?_) #[true, true, true, false, false, false, false, false, false, false, false, false, false, false, false, false, false, false, false, false] rfl rfl (take_ofW HT_.out HW_.out (by kernel_rfl)) (fun _ _ _ h => h) (Or.inl ⟨by rfl, ?_⟩) hHeld ?_ ?_
     rotate_left
     · rintro w' ⟨s0, s1, s2, s3, s4, s5, s6⟩
       go_simp
       with_reducible rfl
     rotate_left
     · simp only [Act.put, List.setIfInBounds_toArray, List.set_cons_zero, List.set_cons_succ, i64_w, i32_w]
       rfl
     refine take_ (i := 3) (N := some 15) (v := ?_) (a' := ?_) #[true, true, true, true, false, false, false, false, false, false, false, false, false, false, false, false, false, false, false, false] rfl rfl (take_ofW HT_.out HW_.out (by kernel_rfl)) (fun _ _ _ h => h) (Or.inl ⟨by rfl, ?_⟩) hHeld ?_ ?_
     rotate_left
     · rintro w' ⟨s0, s1, s2, s3, s4, s5, s6⟩
       go_simp
       with_reducible rfl
     rotate_left
     · simp only [Act.put, List.setIfInBounds_toArray, List.set_cons_zero, List.set_cons_succ, i64_w, i32_w]
       rfl
     refine pure_ (i := 4) (N := some 16) (v := ?_) (a' := ?_) #[true, true, true, true, true, false, false, false, false, false, false, false, false, false, false, false, false, false, false, false] rfl rfl (any_of HT_.out (by kernel_rfl)) (fun _ _ _ h => h) (Or.inl ⟨by rfl, ?_⟩) ?_ ?_
     rotate_left
     · intro w'
       go_simp
       with_reducible rfl
     rotate_left
     · simp only [Act.put, List.setIfInBounds_toArray, List.set_cons_zero, List.set_cons_succ, i64_w, i32_w]
       rfl
     refine pure_ (i := 5) (N := some 17) (v := ?_) (a' := ?_) #[true, true, true, true, true, true, false, false, false, false, false, false, false, false, false, false, false, false, false, false] rfl rfl (any_of HT_.out (by kernel_rfl)) (fun _ _ _ h => h) (Or.inl ⟨by rfl, ?_⟩) ?_ ?_
     rotate_left
     · intro w'
       go_simp
       with_reducible rfl
     rotate_left
     · simp only [Act.put, List.setIfInBounds_toArray, List.set_cons_zero, List.set_cons_succ, i64_w, i32_w]
       rfl
     refine pure_ (i := 6) (N := some 18) (v := undef) (a' := ?_) #[true, true, true, true, true, true, true, false, false, false, false, false, false, false, false, false, false, false, false, false] rfl rfl (any_of HT_.out (by kernel_rfl)) (fun _ _ _ h => h) (Or.inr ⟨by rfl, rfl⟩) ?_ ?_
     rotate_left
     · simp only [Act.put, List.setIfInBounds_toArray, List.set_cons_zero, List.set_cons_succ, i64_w, i32_w]
       rfl
     refine pure_ (i := 7) (N := some 19) (v := undef) (a' := ?_) #[true, true, true, true, true, true, true, true, false, false, false, false, false, false, false, false, false, false, false, false] rfl rfl (any_of HT_.out (by kernel_rfl)) (fun _ _ _ h => h) (Or.inr ⟨by rfl, rfl⟩) ?_ ?_
     rotate_left
     · simp only [Act.put, List.setIfInBounds_toArray, List.set_cons_zero, List.set_cons_succ, i64_w, i32_w]
       rfl
     refine pure_ (i := 8) (N := some 20) (v := undef) (a' := ?_) #[true, true, true, true, true, true, true, true, true, false, false, false, false, false, false, false, false, false, false, false] rfl rfl (any_of HT_.out (by kernel_rfl)) (fun _ _ _ h => h) (Or.inr ⟨by rfl, rfl⟩) ?_ ?_
     rotate_left
     · simp only [Act.put, List.setIfInBounds_toArray, List.set_cons_zero, List.set_cons_succ, i64_w, i32_w]
       rfl
     refine pure_ (i := 9) (N := some 21) (v := undef) (a' := ?_) #[true, true, true, true, true, true, true, true, true, true, false, false, false, false, false, false, false, false, false, false] rfl rfl (any_of HT_.out (by kernel_rfl)) (fun _ _ _ h => h) (Or.inr ⟨by rfl, rfl⟩) ?_ ?_
     rotate_left
     · simp only [Act.put, List.setIfInBounds_toArray, List.set_cons_zero, List.set_cons_succ, i64_w, i32_w]
       rfl
     refine pure_ (i := 10) (N := some 22) (v := undef) (a' := ?_) #[true, true, true, true, true, true, true, true, true, true, true, false, false, false, false, false, false, false, false, false] rfl rfl (any_of HT_.out (by kernel_rfl)) (fun _ _ _ h => h) (Or.inr ⟨by rfl, rfl⟩) ?_ ?_
     rotate_left
     · simp only [Act.put, List.setIfInBounds_toArray, List.set_cons_zero, List.set_cons_succ, i64_w, i32_w]
       rfl
     refine pure_ (i := 11) (N := some 23) (v := ?_) (a' := ?_) #[true, true, true, true, true, true, true, true, true, true, true, true, false, false, false, false, false, false, false, false] rfl rfl (any_of HT_.out (by kernel_rfl)) (fun _ _ _ h => h) (Or.inl ⟨by rfl, ?_⟩) ?_ ?_
     rotate_left
     · intro w'
       go_simp
       with_reducible rfl
     rotate_left
     · simp only [Act.put, List.setIfInBounds_toArray, List.set_cons_zero, List.set_cons_succ, i64_w, i32_w]
       rfl
     refine pure_ (i := 12) (N := some 24) (v := ?_) (a' := ?_) #[true, true, true, true, true, true, true, true, true, true, true, true, true, false, false, false, false, false, false, false] rfl rfl (any_of HT_.out (by kernel_rfl)) (fun _ _ _ h => h) (Or.inl ⟨by rfl, ?_⟩) ?_ ?_
     rotate_left
     · intro w'
       go_simp
       with_reducible rfl
     rotate_left
     · simp only [Act.put, List.setIfInBounds_toArray, List.set_cons_zero, List.set_cons_succ, i64_w, i32_w]
       rfl
     refine pure_ (i := 13) (N := some 25) (v := undef) (a' := ?_) #[true, true, true, true, true, true, true, true, true, true, true, true, true, true, false, false, false, false, false, false] rfl rfl (any_of HT_.out (by kernel_rfl)) (fun _ _ _ h => h) (Or.inr ⟨by rfl, rfl⟩) ?_ ?_
     rotate_left
     · simp only [Act.put, List.setIfInBounds_toArray, List.set_cons_zero, List.set_cons_succ, i64_w, i32_w]
       rfl
     refine pure_ (i := 14) (N := some 26) (v := undef) (a' := ?_) #[true, true, true, true, true, true, true, true, true, true, true, true, true, true, true, false, false, false, false, false] rfl rfl (any_of HT_.out (by kernel_rfl)) (fun _ _ _ h => h) (Or.inr ⟨by rfl, rfl⟩) ?_ ?_
     rotate_left
     · simp only [Act.put, List.setIfInBounds_toArray, List.set_cons_zero, List.set_cons_succ, i64_w, i32_w]
       rfl
     refine pure_ (i := 15) (N := some 27) (v := undef) (a' := ?_) #[true, true, true, true, true, true, true, true, true, true, true, true, true, true, true, true, false, false, false, false] rfl rfl (any_of HT_.out (by kernel_rfl)) (fun _ _ _ h => h) (Or.inr ⟨by rfl, rfl⟩) ?_ ?_
     rotate_left
     · simp only [Act.put, List.setIfInBounds_toArray, List.set_cons_zero, List.set_cons_succ, i64_w, i32_w]
       rfl
     refine pure_ (i := 16) (N := some 28) (v := undef) (a' := ?_) #[true, true, true, true, true, true, true, true, true, true, true, true, true, true, true, true, true, false, false, false] rfl rfl (any_of HT_.out (by kernel_rfl)) (fun _ _ _ h => h) (Or.inr ⟨by rfl, rfl⟩) ?_ ?_
     rotate_left
     · simp only [Act.put, List.setIfInBounds_toArray, List.set_cons_zero, List.set_cons_succ, i64_w, i32_w]
       rfl
     refine pure_ (i := 17) (N := some 29) (v := undef) (a' := ?_) #[true, true, true, true, true, true, true, true, true, true, true, true, true, true, true, true, true, true, false, false] rfl rfl (any_of HT_.out (by kernel_rfl)) (fun _ _ _ h => h) (Or.inr ⟨by rfl, rfl⟩) ?_ ?_
     rotate_left
     · simp only [Act.put, List.setIfInBounds_toArray, List.set_cons_zero, List.set_cons_succ, i64_w, i32_w]
       rfl
     refine pure_ (i := 18) (N := some 30) (v := ?_) (a' := ?_) #[true, true, true, true, true, true, true, true, true, true, true, true, true, true, true, true, true, true, true, false] rfl rfl (any_of HT_.out (by kernel_rfl)) (fun _ _ _ h => h) (Or.inl ⟨by rfl, ?_⟩) ?_ ?_
     rotate_left
     · intro w'
       go_simp
       with_reducible rfl
     rotate_left
     · simp only [Act.put, List.setIfInBounds_toArray, List.set_cons_zero, List.set_cons_succ, i64_w, i32_w]
       rfl
     refine pure_ (i := 19) (N := some 4) (v := ?_) (a' := ?_) #[true, true, true, true, true, true, true, true, true, true, true, true, true, true, true, true, true, true, true, true] rfl rfl (any_of HT_.out (by kernel_rfl)) (fun _ _ _ h => h) (Or.inl ⟨by rfl, ?_⟩) ?_ ?_
     rotate_left
     · intro w'
       go_simp
       with_reducible rfl
     rotate_left
     · simp only [Act.put, List.setIfInBounds_toArray, List.set_cons_zero, List.set_cons_succ, i64_w, i32_w]
       rfl
     refine done_ (done_of HT_.out (by kernel_rfl)) ?_
     try go_wp2
     go_ret
     exact ⟨by first | rfl | (simp [errW_none, errW_some] <;> rfl) | (simp [*, errW_none, errW_some] <;> rfl), by repeat (first | (with_reducible first | exact HB.out | apply below_alloc | apply pw_below_drewN | apply below_drew1 | refine below_set ?_ GE406.out) | exact HB.out)⟩
end Go.Proofs.Ytjhepdcdhabcjaa.G
namespace Go.Proofs.Ytjhepdcdhabcjaa.G
open Go.RowKit Go.Proofs.YtjhepdcdhabcjaaW.PrintWords Go.Proofs.YtjhepdcdhabcjaaW.PrintLast Go.Proofs.YtjhepdcdhabcjaaW.PrintMore
set_option linter.unusedVariables false
def trackV (x : S40) : Value := .agg #[.int .i64 x.f0, .int .i64 x.f1, .int .i64 x.f2, .int .i64 x.f3, .int .i64 x.f4, .int .i64 x.f5, .int .i64 x.f6]
theorem cell_box {w : World} {B j : Nat} {v : Value} (h : w.cell? ⟨B, j, none⟩ = some v) (o : Obj) : (w.alloc o).cell? ⟨B, j, none⟩ = some v :=
 (World.cell?_alloc_lt w o _ (World.block_lt_of_cell? w _ h)).trans h
theorem below_one (w : World) (o : Obj) : Below w.heap.size w (w.alloc o) := (Below.refl _ _).alloc (Nat.le_refl _) _
def rule3B (t1 t5 cl : Int) : Bool := decide (t1 ≤ cl + 1 ∧ t1 ≤ 16 ∧ (cl < t1 ∨ t5 = 2))
theorem rule3 (v : Value) (t0 t1 t2 t3 t4 t5 t6 cl : Int) (B : Nat) (w : World) (h0 : 0 ≤ cl) (h1 : cl ≤ 16) (hc : w.cell? ⟨B, 0, none⟩ = some (.int .i64 cl)) :
 Calls Try.prog 36 #[v, .agg #[.int .i64 t0, .int .i64 t1, .int .i64 t2, .int .i64 t3, .int .i64 t4, .int .i64 t5, .int .i64 t6], .pointer (some ⟨B, 0, none⟩)] w fun e w' => e = .returned (.bool (rule3B t1 t5 cl)) ∧ Below w.heap.size w w' := by
 have hca := cell_box hc
 have hbl := Aside0.mk (below_one w)
 by_cases a1 : t1 ≤ cl + 1
 · by_cases a2 : t1 ≤ 16
   · by_cases a3 : cl < t1
     · have hr : rule3B t1 t5 cl = true := decide_eq_true ⟨a1, a2, Or.inl a3⟩
       rw [hr]
       clear hr
       go_enter Try.func36, Try.ntmps36
       go_wp2
       go_ret
       exact ⟨by simp, hbl.out _⟩
     · have d3 : decide (cl < t1) = false := decide_eq_false a3
       by_cases a4 : t5 = 2
       · have hr : rule3B t1 t5 cl = true := decide_eq_true ⟨a1, a2, Or.inr a4⟩
         rw [hr]
         have d4 : (t5 == 2) = true := by simpa using a4
         clear hr a4
         go_enter Try.func36, Try.ntmps36
         go_wp2
         go_ret
         exact ⟨by simp, hbl.out _⟩
       · have hr : rule3B t1 t5 cl = false := decide_eq_false (by omega)
         rw [hr]
         have d4 : (t5 == 2) = false := by simpa using a4
         clear hr
         go_enter Try.func36, Try.ntmps36
         go_wp2
         go_ret
         exact ⟨by simp, hbl.out _⟩
   · have hr : rule3B t1 t5 cl = false := decide_eq_false (by omega)
     rw [hr]
     have d2 : decide (t1 ≤ 16) = false := decide_eq_false a2
     clear hr
     go_enter Try.func36, Try.ntmps36
     go_wp2
     go_ret
     exact ⟨by simp, hbl.out _⟩
 · have hr : rule3B t1 t5 cl = false := decide_eq_false (by omega)
   rw [hr]
   have d1 : decide (t1 ≤ cl + 1) = false := decide_eq_false a1
   clear hr
   go_enter Try.func36, Try.ntmps36
   go_wp2
   go_ret
   exact ⟨by simp, hbl.out _⟩
def rule4B (t1 cl : Int) (fin : Bool) : Bool := !fin || decide (t1 ≤ cl)
theorem rule4 (v : Value) (t0 t1 t2 t3 t4 t5 t6 cl : Int) (fin : Bool) (B : Nat) (w : World) (hc : w.cell? ⟨B, 0, none⟩ = some (.int .i64 cl)) (hf : w.cell? ⟨B, 1, none⟩ = some (.bool fin)) :
 Calls Try.prog 37 #[v, .agg #[.int .i64 t0, .int .i64 t1, .int .i64 t2, .int .i64 t3, .int .i64 t4, .int .i64 t5, .int .i64 t6], .pointer (some ⟨B, 0, none⟩)] w fun e w' => e = .returned (.bool (rule4B t1 cl fin)) ∧ Below w.heap.size w w' := by
 have hca := cell_box hc
 have hfa := cell_box hf
 have hbl := Aside0.mk (below_one w)
 cases fin with
 | false =>
  have hr : rule4B t1 cl false = true := rfl
  rw [hr]
  go_enter Try.func37, Try.ntmps37
  go_wp2
  go_ret
  exact ⟨by simp, hbl.out _⟩
 | true =>
  have hr : rule4B t1 cl true = decide (t1 ≤ cl) := rfl
  rw [hr]
  clear hr
  go_enter Try.func37, Try.ntmps37
  go_wp2
  go_ret
  exact ⟨by simp, hbl.out _⟩
def rule6B (t2 t3 cap : Int) : Bool := decide (1 ≤ t3 ∧ t3 ≤ cap ∧ t2 ≤ cap - t3)
theorem rule6 (v : Value) (t0 t1 t2 t3 t4 t5 t6 cap : Int) (B : Nat) (w : World) (h0 : 0 ≤ cap) (h1 : cap ≤ 1000000) (hc : w.cell? ⟨B, 0, none⟩ = some (.int .i64 cap)) :
 Calls Try.prog 39 #[v, .agg #[.int .i64 t0, .int .i64 t1, .int .i64 t2, .int .i64 t3, .int .i64 t4, .int .i64 t5, .int .i64 t6], .pointer (some ⟨B, 0, none⟩)] w fun e w' => e = .returned (.bool (rule6B t2 t3 cap)) ∧ Below w.heap.size w w' := by
 have hca := cell_box hc
 have hbl := Aside0.mk (below_one w)
 by_cases a1 : 1 ≤ t3
 · by_cases a2 : t3 ≤ cap
   · have hr : rule6B t2 t3 cap = decide (t2 ≤ cap - t3) := by unfold rule6B; rw [decide_eq_decide]; omega
     rw [hr]
     clear hr
     go_enter Try.func39, Try.ntmps39
     go_wp2
     go_ret
     exact ⟨by simp, hbl.out _⟩
   · have hr : rule6B t2 t3 cap = false := decide_eq_false (by omega)
     rw [hr]
     have d2 : decide (t3 ≤ cap) = false := decide_eq_false a2
     clear hr
     go_enter Try.func39, Try.ntmps39
     go_wp2
     go_ret
     exact ⟨by simp, hbl.out _⟩
 · have hr : rule6B t2 t3 cap = false := decide_eq_false (by omega)
   rw [hr]
   have d1 : decide (1 ≤ t3) = false := decide_eq_false a1
   clear hr
   go_enter Try.func39, Try.ntmps39
   go_wp2
   go_ret
   exact ⟨by simp, hbl.out _⟩
def rulesV (B T : Nat) : Array Value := #[.func (.func 34) #[] #[], .func (.func 35) #[] #[], .func (.func 36) #[] #[.pointer (some ⟨T, 0, none⟩)], .func (.func 37) #[] #[.pointer (some ⟨T, 0, none⟩)],
 .func (.func 38) #[] #[], .func (.func 39) #[] #[.pointer (some ⟨B, 0, none⟩)], .func (.func 40) #[] #[], .func (.func 41) #[] #[]]
theorem rules_any (cap cl : Int) (fin : Bool) (A : Option Addr) (n c : Nat) (w : World) :
 Calls Try.prog 24 #[.int .i64 cap, .agg #[.int .i64 cl, .bool fin, .slice A n c]] w fun e w' => e = .returned (.slice (some ⟨w.heap.size + 2, 0, none⟩) 8 8) ∧
  ((w.alloc (.cells #[.int .i64 cap] 3)).alloc (.cells #[.int .i64 cl, .bool fin, .slice A n c] 24)).alloc (.cells (rulesV w.heap.size (w.heap.size + 1)) 53) = w' := by
 have hmf : ∀ (fn : Fn) (first cap : Array Value) (w : World), (Instr.makeFunc fn first cap).run Try.prog w = .ok (.func fn first cap) w := fun _ _ _ _ => rfl
 go_enter Try.func24, Try.ntmps24
 go_wp2
 go_ret
 exact ⟨by simp, by simp [rulesV]⟩
theorem two_new {W w' : World} {o1 o2 : Obj} (h : (W.alloc o1).alloc o2 = w') : w'.heap[W.heap.size]? = some o1 ∧ w'.heap[W.heap.size + 1]? = some o2 ∧ Below W.heap.size W w' := by
 subst h
 have s1 : (W.alloc o1).heap.size = W.heap.size + 1 := by simp
 refine ⟨blk_alloc (blk_new W o1) o2, ?_, ?_⟩
 · have := blk_new (W.alloc o1) o2; rwa [s1] at this
 · exact ((Below.refl _ _).alloc (Nat.le_refl _) _).alloc (by rw [s1]; omega) _
end Go.Proofs.Ytjhepdcdhabcjaa.G
namespace Go.Proofs.Ytjhepdcdhabcjaa.G
open Go.RowKit Go.Proofs.YtjhepdcdhabcjaaW.PrintWords Go.Proofs.YtjhepdcdhabcjaaW.PrintLast Go.Proofs.YtjhepdcdhabcjaaW.PrintMore
set_option linter.unusedVariables false
def rulesR (cap cl : Int) (fin : Bool) (l : List S40) (x : S40) : List (Option Bool) :=
 [toc_rules_1.f l x.f0 x.f1 x.f2 x.f3 x.f4 x.f5 x.f6, toc_rules_2.f l x.f0 x.f1 x.f2 x.f3 x.f4 x.f5 x.f6, some (rule3B x.f1 x.f5 cl), some (rule4B x.f1 cl fin),
  toc_rules_5.f l x.f0 x.f1 x.f2 x.f3 x.f4 x.f5 x.f6, some (rule6B x.f2 x.f3 cap), toc_rules_7.f l x.f0 x.f1 x.f2 x.f3 x.f4 x.f5 x.f6, toc_rules_8.f l x.f0 x.f1 x.f2 x.f3 x.f4 x.f5 x.f6]
def allR : List (Option Bool) → Option Bool
 | [] => some true
 | none :: _ => none
 | some false :: _ => some false
 | some true :: rs => allR rs
def endB (cl : Int) (l : List S40) : Bool := decide (cl = 0 ∨ (0 < l.length ∧ cl ≤ (rd_T40 l ((l.length : Int) - 1)).f1))
def validL (cap cl : Int) (fin : Bool) (l : List S40) : Nat → Nat → Option Bool
 | 0, _ => some (endB cl l)
 | d + 1, i => match allR (rulesR cap cl fin (l.take i) (rd_T40 l (i : Int))) with
  | some true => validL cap cl fin l d (i + 1)
  | r => r
def headB (cap cl : Int) (fin : Bool) (n : Nat) : Bool := decide (1 ≤ cap ∧ cap ≤ 449849 ∧ n ≤ 99 ∧ 0 ≤ cl ∧ cl ≤ 16 ∧ (fin = true → ¬ cl = 0))
def toc_Valid.f (a0 : Int) (a1_0 : Int) (a1_1 : Bool) (l1_2 : List (S40)) : Option (Bool) :=
 if headB a0 a1_0 a1_1 l1_2.length = true then validL a0 a1_0 a1_1 l1_2 l1_2.length 0 else some false
def RuleAt (cap cl : Int) (fin : Bool) (l : List S40) (x : S40) (A : Option Addr) (n : Nat) (v : Value) (r : Option Bool) (w : World) : Prop :=
 ∃ g lb, v = .func (.func g) #[] lb ∧ (∀ args w, (callFunc g args).run Try.prog w = .ok (.enter g args) w) ∧
  ∀ b, r = some b → ∀ W, Below w.heap.size w W → Calls Try.prog g (#[.slice A n n, trackV x] ++ lb) W fun e w' => e = .returned (.bool b) ∧ Below W.heap.size W w'
theorem enters_of_ {P : Program} {f : FuncId} {fn : Func} {c : Code} (hf : P.funcs[f]? = some fn) (hname : (fn.name == "runtime.NumGoroutine") = false) (hb : fn.body = some c) (args : Array Value) (w : World) : (callFunc f args).run P w = .ok (.enter f args) w := by
 have h1 : fn.name ≠ "runtime.NumGoroutine" := by simpa using hname
 simp [callFunc, hf, h1, hb, mark]
theorem rules_at (cap cl : Int) (fin : Bool) (l : List S40) (x : S40) (A : Option Addr) (B T : Nat) (w : World) (h0 : 0 ≤ cap) (h1 : cap ≤ 1000000) (h2 : 0 ≤ cl) (h3 : cl ≤ 16)
 (hr : Kd.C k40 w A l.length l) (hB : w.cell? ⟨B, 0, none⟩ = some (.int .i64 cap)) (hT0 : w.cell? ⟨T, 0, none⟩ = some (.int .i64 cl)) (hT1 : w.cell? ⟨T, 1, none⟩ = some (.bool fin)) (j : Nat) (hj : j < 8) :
 RuleAt cap cl fin l x A l.length ((rulesV B T).getD j undef) ((rulesR cap cl fin l x).getD j none) w := by
 match j, hj with
 | 0, _ => exact ⟨_, _, rfl, enters_of_ Try.func34 (by kernel_rfl) rfl, fun b hb W hW => toc_rules_1.calls A l.length l x.f0 x.f1 x.f2 x.f3 x.f4 x.f5 x.f6 b W (Kd.C_below hr hW) (Nat.le_refl _) hb⟩
 | 1, _ => exact ⟨_, _, rfl, enters_of_ Try.func35 (by kernel_rfl) rfl, fun b hb W hW => toc_rules_2.calls A l.length l x.f0 x.f1 x.f2 x.f3 x.f4 x.f5 x.f6 b W (Kd.C_below hr hW) (Nat.le_refl _) hb⟩
 | 2, _ => exact ⟨_, _, rfl, enters_of_ Try.func36 (by kernel_rfl) rfl, fun b hb W hW => by
  obtain rfl := Option.some.inj hb
  exact rule3 _ x.f0 x.f1 x.f2 x.f3 x.f4 x.f5 x.f6 cl T W h2 h3 ((hW.cell (World.block_lt_of_cell? w _ hT0)).trans hT0)⟩
 | 3, _ => exact ⟨_, _, rfl, enters_of_ Try.func37 (by kernel_rfl) rfl, fun b hb W hW => by
  obtain rfl := Option.some.inj hb
  exact rule4 _ x.f0 x.f1 x.f2 x.f3 x.f4 x.f5 x.f6 cl fin T W ((hW.cell (World.block_lt_of_cell? w _ hT0)).trans hT0) ((hW.cell (World.block_lt_of_cell? w _ hT1)).trans hT1)⟩
 | 4, _ => exact ⟨_, _, rfl, enters_of_ Try.func38 (by kernel_rfl) rfl, fun b hb W hW => toc_rules_5.calls A l.length l x.f0 x.f1 x.f2 x.f3 x.f4 x.f5 x.f6 b W (Kd.C_below hr hW) (Nat.le_refl _) hb⟩
 | 5, _ => exact ⟨_, _, rfl, enters_of_ Try.func39 (by kernel_rfl) rfl, fun b hb W hW => by
  obtain rfl := Option.some.inj hb
  exact rule6 _ x.f0 x.f1 x.f2 x.f3 x.f4 x.f5 x.f6 cap B W h0 h1 ((hW.cell (World.block_lt_of_cell? w _ hB)).trans hB)⟩
 | 6, _ => exact ⟨_, _, rfl, enters_of_ Try.func40 (by kernel_rfl) rfl, fun b hb W hW => toc_rules_7.calls A l.length l x.f0 x.f1 x.f2 x.f3 x.f4 x.f5 x.f6 b W (Kd.C_below hr hW) (Nat.le_refl _) hb⟩
 | 7, _ => exact ⟨_, _, rfl, enters_of_ Try.func41 (by kernel_rfl) rfl, fun b hb W hW => toc_rules_8.calls A l.length l x.f0 x.f1 x.f2 x.f3 x.f4 x.f5 x.f6 b W (Kd.C_below hr hW) (Nat.le_refl _) hb⟩
theorem four_new {W w' : World} {o1 o2 o3 o4 : Obj} (h : (((W.alloc o1).alloc o2).alloc o3).alloc o4 = w') :
 w'.heap[W.heap.size]? = some o1 ∧ w'.heap[W.heap.size + 1]? = some o2 ∧ w'.heap[W.heap.size + 2]? = some o3 ∧ w'.heap[W.heap.size + 3]? = some o4 ∧ Below W.heap.size W w' := by
 subst h
 have s1 : (W.alloc o1).heap.size = W.heap.size + 1 := by simp
 have s2 : ((W.alloc o1).alloc o2).heap.size = W.heap.size + 2 := by simp
 have s3 : (((W.alloc o1).alloc o2).alloc o3).heap.size = W.heap.size + 3 := by simp
 refine ⟨blk_alloc (blk_alloc (blk_alloc (blk_new W o1) o2) o3) o4, ?_, ?_, ?_, ?_⟩
 · have := blk_alloc (blk_alloc (blk_new (W.alloc o1) o2) o3) o4; rwa [s1] at this
 · have := blk_alloc (blk_new ((W.alloc o1).alloc o2) o3) o4; rwa [s2] at this
 · have := blk_new (((W.alloc o1).alloc o2).alloc o3) o4; rwa [s3] at this
 · exact ((((Below.refl _ _).alloc (Nat.le_refl _) _).alloc (by rw [s1]; omega) _).alloc (by rw [s2]; omega) _).alloc (by rw [s3]; omega) _
theorem rulesR_length (cap cl : Int) (fin : Bool) (l : List S40) (x : S40) : (rulesR cap cl fin l x).length = 8 := rfl
theorem rulesV_get (B T j : Nat) (hj : j < 8) : (rulesV B T)[j]? = some ((rulesV B T).getD j undef) := by
 have h : j < (rulesV B T).size := hj
 rw [Array.getElem?_eq_getElem h, Array.getD, dif_pos h]
 rfl
theorem allR_step {rs : List (Option Bool)} {q : Bool} {j : Nat} (hj : j < rs.length) (h : allR (rs.drop j) = some q) :
 ∃ b, rs.getD j none = some b ∧ (b = false → q = false) ∧ (b = true → allR (rs.drop (j + 1)) = some q) := by
 have e : rs.drop j = rs[j] :: rs.drop (j + 1) := List.drop_eq_getElem_cons hj
 rw [e] at h
 have g : rs.getD j none = rs[j] := by simp [List.getD_eq_getElem?_getD, List.getElem?_eq_getElem hj]
 rw [g]
 generalize rs[j] = x at h
 match x, h with
 | none, h => simp [allR] at h
 | some false, h => exact ⟨false, rfl, fun _ => by simpa [allR] using h, fun h => by cases h⟩
 | some true, h => exact ⟨true, rfl, (fun h => by cases h), fun _ => by simpa [allR] using h⟩
set_option maxHeartbeats 4000000 in
set_option maxRecDepth 100000 in
theorem valid_yes_false (cap cl : Int) (A : Option Addr) (c : Nat) (l : List (S40)) (r : Bool) (w : World) (hr : Kd.C k40 w A l.length l) (hc : l.length ≤ c)
 (h1 : 1 ≤ cap) (h2 : cap ≤ 449849) (h3 : l.length ≤ 99) (h4 : 0 ≤ cl) (h5 : cl ≤ 16) (h6 : false = true → (cl == 0) = false) (h : validL cap cl false l l.length 0 = some r) :
 Calls Try.prog 10 #[.int .i64 cap, .agg #[.int .i64 cl, .bool false, .slice A l.length c]] w fun e w' => e = .returned (.bool r) ∧ Below w.heap.size w w' := by
 have hu38 := Try.underlying24
 have hu66 := Try.underlying40
 have HR := Aside0.mk hr
 have H := Aside0.mk h
 have HN := Aside0.mk hc
 have H45 := Aside0.mk (show (0 ≤ cap ∧ cap ≤ 1000000) ∧ 0 ≤ cl ∧ cl ≤ 16 from ⟨by omega, h4, h5⟩)
 have d1 : decide (cap < 1) = false := decide_eq_false (by omega)
 have d2 : decide (449849 < cap) = false := decide_eq_false (by omega)
 have d3 : decide (99 < (l.length : Int)) = false := decide_eq_false (by omega)
 have d4 : decide (cl < 0) = false := decide_eq_false (by omega)
 have d5 : decide (16 < cl) = false := decide_eq_false (by omega)
 clear h hr h6 hc
 go_enter Try.func10, Try.ntmps10
 go_wp2
 clear d1 d2 d3 d4 d5 h1 h2 h4 h5
 go_loopg [43] l.length (fun gk v43 wr => ∃ i : Nat, i ≤ l.length ∧ l.length - i ≤ gk ∧ v43 = .int .i64 i ∧ Aside0 (validL cap cl false l (l.length - i) i = some r) ∧
  Aside0 (wr.heap[w.heap.size]? = some (.cells #[.int .i64 cl, .bool false, .slice A l.length c] 24 (0, 0))) ∧ Aside0 (Below w.heap.size w wr))
 case atStart => exact ⟨0, Nat.zero_le _, by omega, rfl, by rw [Nat.sub_zero]; exact H, ⟨heap_alloc_new _ _⟩, ⟨below_one _ _⟩⟩
 case round =>
  obtain ⟨i, hi, hg, rfl, HV, HT, HB⟩ := hrel
  obtain ⟨wo, rfl⟩ : ∃ wo : World, wo = wr := ⟨_, rfl⟩
  have hT0 : wo.cell? ⟨w.heap.size, 0, none⟩ = some (.int .i64 cl) := (blk_cell HT.out 0).trans rfl
  have hT1 : wo.cell? ⟨w.heap.size, 1, none⟩ = some (.bool false) := (blk_cell HT.out 1).trans rfl
  have hT2 : wo.cell? ⟨w.heap.size, 2, none⟩ = some (.slice A l.length c) := (blk_cell HT.out 2).trans rfl
  by_cases hlt : i < l.length
  · have hltz : (i : Int) < (l.length : Int) := by omega
    have hi0 : 0 ≤ (i : Int) := by omega
    obtain ⟨ad, rfl, hx0, hx1, hx2, hx3, hx4, hx5, hx6⟩ := at_T40 (Kd.C_below HR.out HB.out) (i : Int) hi0 hltz
    rw [Int.toNat_natCast] at hx0 hx1 hx2 hx3 hx4 hx5 hx6
    obtain ⟨x, hx⟩ : ∃ x, x = rd_T40 l (i : Int) := ⟨_, rfl⟩
    rw [← hx] at hx0 hx1 hx2 hx3 hx4 hx5 hx6
    have HX := Aside0.mk hx
    clear hx
    have hT0a := cell_box hT0
    have hT1a := cell_box hT1
    have hT2a := cell_box hT2
    go_wp2_with (fail)
    refine (rules_any cap cl false _ _ _ _).mono ?_
    rintro e wi ⟨rfl, hw⟩
    obtain ⟨hb0, hb1, hb2, hb3, hbi⟩ := four_new hw
    have HBI := Aside0.mk (below_step HB.out hbi)
    have hTi := blk_below HT.out hbi
    have hlen : (l.take i).length = i := by rw [List.length_take]; omega
    have HRI := Aside0.mk (fun j hj => rules_at cap cl false (l.take i) x (some ad) (wo.heap.size + 1) (wo.heap.size + 1 + 1) wi H45.out.1.1 H45.out.1.2 H45.out.2.1 H45.out.2.2
     (Kd.C_below (Kd.C_take HR.out (Nat.le_of_lt hlt)) HBI.out) ((blk_cell hb1 0).trans rfl) ((blk_cell hb2 0).trans rfl) ((blk_cell hb2 1).trans rfl) j hj)
    rw [hlen] at HRI
    have hz : (wo.alloc (.cells #[.int .i64 x.f0, .int .i64 x.f1, .int .i64 x.f2, .int .i64 x.f3, .int .i64 x.f4, .int .i64 x.f5, .int .i64 x.f6] 40)).heap.size = wo.heap.size + 1 := by simp
    rw [hz] at hb3
    obtain ⟨q, hq⟩ : ∃ q, allR (rulesR cap cl false (l.take i) x) = some q := by
     have hv := HV.out
     rw [show l.length - i = (l.length - (i + 1)) + 1 by omega] at hv
     simp only [validL] at hv
     rw [← HX.out] at hv
     cases hall : allR (rulesR cap cl false (l.take i) x) with
     | none => rw [hall] at hv; cases hv
     | some q => exact ⟨q, rfl⟩
    have HQ := Aside0.mk hq
    have Hb0 := Aside0.mk hb0
    have Hb3 := Aside0.mk hb3
    have HTi := Aside0.mk hTi
    clear hw hz hb0 hb1 hb2 hb3 hbi hTi hq hT0 hT1 hT2 hT0a hT1a hT2a hx0 hx1 hx2 hx3 hx4 hx5 hx6 hlen
    go_wp2_with (fail)
    go_loopg [52] 8 (fun gk v52 wr => ∃ j : Nat, j ≤ 8 ∧ 8 - j ≤ gk ∧ v52 = .int .i64 j ∧ Aside0 (allR ((rulesR cap cl false (l.take i) x).drop j) = some q) ∧ Aside0 (Below wi.heap.size wi wr))
    case atStart => exact ⟨0, Nat.zero_le _, by omega, rfl, HQ, ⟨Below.refl _ _⟩⟩
    case round =>
     obtain ⟨j, hj, hgj, rfl, HA, HBR⟩ := hrel
     by_cases hjl : j < 8
     · have hjz : (j : Int) < 8 := by omega
       obtain ⟨b, hb, hbf, hbt⟩ := allR_step (j := j) (by rw [rulesR_length]; exact hjl) HA.out
       obtain ⟨g, lb, hgv, heg, hcall⟩ := HRI.out j hjl
       have hc3 : wr.cell? ⟨wo.heap.size + 1 + 2, j, none⟩ = some (.func (.func g) #[] lb) := by
        rw [blk_cell (blk_below Hb3.out HBR.out) j, ← hgv]
        exact rulesV_get _ _ _ hjl
       have HCALL := Aside0.mk (hcall b hb wr.drew (HBR.out.drew))
       have HBW := Aside0.mk (HBR.out.drew)
       have HBD := Aside0.mk (hbf)
       have HBT := Aside0.mk (hbt)
       have hT2 : wr.drew.cell? ⟨w.heap.size, 2, none⟩ = some (.slice (some ad) l.length c) := (blk_cell (blk_below HTi.out HBR.out) 2).trans rfl
       have hX := blk_below Hb0.out HBR.out
       have hX0 : wr.drew.cell? ⟨wo.heap.size, 0, none⟩ = some (.int .i64 x.f0) := (blk_cell hX 0).trans rfl
       have hX1 : wr.drew.cell? ⟨wo.heap.size, 1, none⟩ = some (.int .i64 x.f1) := (blk_cell hX 1).trans rfl
       have hX2 : wr.drew.cell? ⟨wo.heap.size, 2, none⟩ = some (.int .i64 x.f2) := (blk_cell hX 2).trans rfl
       have hX3 : wr.drew.cell? ⟨wo.heap.size, 3, none⟩ = some (.int .i64 x.f3) := (blk_cell hX 3).trans rfl
       have hX4 : wr.drew.cell? ⟨wo.heap.size, 4, none⟩ = some (.int .i64 x.f4) := (blk_cell hX 4).trans rfl
       have hX5 : wr.drew.cell? ⟨wo.heap.size, 5, none⟩ = some (.int .i64 x.f5) := (blk_cell hX 5).trans rfl
       have hX6 : wr.drew.cell? ⟨wo.heap.size, 6, none⟩ = some (.int .i64 x.f6) := (blk_cell hX 6).trans rfl
       clear hb hbf hbt hgv hcall hX
       go_wp2_with (fail)
       refine wp_region_still_tail 7 (by kernel_rfl) (by kernel_rfl) ?_
       change wpStill _ _ wr.drew (fun a' => wpList _ _ _ _ a' wr.drew) _ _
       simp only [List.take_succ_cons, List.take_zero, List.drop_succ_cons, List.drop_zero]
       generalize wr.drew = w2 at HCALL HBW hT2 hX0 hX1 hX2 hX3 hX4 hX5 hX6 ⊢
       clear hc3
       have hic : i ≤ c := by have := HN.out; omega
       simp only [trackV] at HCALL
       still_step
       still_step
       still_step
       still_step
       still_step
       still_step
       still_step
       refine wpStill_nil ?_
       clear hT2 hX0 hX1 hX2 hX3 hX4 hX5 hX6
       go_wp2_with (fail)
       cases b with
       | false =>
        refine HCALL.out.mono ?_
        rintro e wk ⟨rfl, hbk⟩
        go_wp2_with (fail)
        go_ret
        have hrv : r = false := by
         have hv := HV.out
         rw [show l.length - i = (l.length - (i + 1)) + 1 by omega] at hv
         simp only [validL] at hv
         rw [← HX.out, HQ.out, HBD.out trivial] at hv
         exact (Option.some.inj hv).symm
        exact ⟨by rw [hrv]; rfl, below_step (below_step HBI.out HBW.out) hbk⟩
       | true =>
        refine HCALL.out.mono ?_
        rintro e wk ⟨rfl, hbk⟩
        go_wp2_with (fail)
        go_roundg (8 - (j + 1))
        case measure => omega
        case rel => exact ⟨j + 1, by omega, by omega, by go_num, ⟨HBT.out trivial⟩, ⟨below_step HBW.out hbk⟩⟩
     · have hjz : ¬ (j : Int) < 8 := by omega
       have hq8 : q = true := by
        have := HA.out
        rw [List.drop_eq_nil_of_le (by rw [rulesR_length]; omega)] at this
        exact (Option.some.inj this).symm
       go_wp2_with (fail)
       go_roundg (l.length - (i + 1))
       case measure => omega
       case rel =>
        refine ⟨i + 1, by omega, by omega, by go_num, ⟨?_⟩, ⟨blk_below HTi.out HBR.out⟩, ⟨below_step HBI.out HBR.out⟩⟩
        have hv := HV.out
        rw [show l.length - i = (l.length - (i + 1)) + 1 by omega] at hv
        simp only [validL] at hv
        rw [← HX.out, HQ.out, hq8] at hv
        exact hv
  · have hltz : ¬ (i : Int) < (l.length : Int) := by omega
    have hin : i = l.length := by omega
    have he : r = endB cl l := by
     have hv := HV.out
     rw [hin, Nat.sub_self] at hv
     exact (Option.some.inj hv).symm
    by_cases hz : cl = 0
    · have hrt : r = true := by rw [he]; exact decide_eq_true (Or.inl hz)
      have hz1 : (cl == 0) = true := by simpa using hz
      have HRT := Aside0.mk hrt
      clear hz he hin hrt hT1 HV
      go_wp2_with (fail)
      go_quiet (fail)
      go_wp2_with (fail)
      go_ret
      exact ⟨by rw [HRT.out]; simp, pw_below_drewN HB.out _⟩
    · have hz1 : (cl == 0) = false := by simpa using hz
      by_cases hl : 0 < l.length
      · have hlz : (0 : Int) < (l.length : Int) := by omega
        have hl2 : decide (0 < (l.length : Int)) = true := decide_eq_true hlz
        obtain ⟨ad, hA, hx0, hx1, _⟩ := at_T40 (Kd.C_below HR.out HB.out) ((l.length : Int) - 1) (by omega) (by omega)
        rw [show ((l.length : Int) - 1).toNat = l.length - 1 by omega] at hx1
        obtain ⟨x, hx⟩ : ∃ x, x = (rd_T40 l ((l.length : Int) - 1)).f1 := ⟨_, rfl⟩
        rw [← hx] at hx1
        have hre : r = decide (cl ≤ x) := by rw [he, hx]; unfold endB; rw [decide_eq_decide]; omega
        have HRT := Aside0.mk hre
        clear hz he hin hre hT1 HV hx hx0
        subst hA
        go_wp2_with (fail)
        go_quiet (fail)
        go_wp2_with (fail)
        go_ret
        exact ⟨by rw [HRT.out]; simp, pw_below_drewN HB.out _⟩
      · have hl2 : decide (0 < (l.length : Int)) = false := decide_eq_false (by omega)
        have hrf : r = false := by rw [he]; exact decide_eq_false (by omega)
        have HRT := Aside0.mk hrf
        clear hz he hin hrf hT1 HV
        go_wp2_with (fail)
        go_quiet (fail)
        go_wp2_with (fail)
        go_ret
        exact ⟨by rw [HRT.out]; simp, pw_below_drewN HB.out _⟩
set_option maxHeartbeats 4000000 in
set_option maxRecDepth 100000 in
theorem valid_yes_true (cap cl : Int) (A : Option Addr) (c : Nat) (l : List (S40)) (r : Bool) (w : World) (hr : Kd.C k40 w A l.length l) (hc : l.length ≤ c)
 (h1 : 1 ≤ cap) (h2 : cap ≤ 449849) (h3 : l.length ≤ 99) (h4 : 0 ≤ cl) (h5 : cl ≤ 16) (h6 : true = true → (cl == 0) = false) (h : validL cap cl true l l.length 0 = some r) :
 Calls Try.prog 10 #[.int .i64 cap, .agg #[.int .i64 cl, .bool true, .slice A l.length c]] w fun e w' => e = .returned (.bool r) ∧ Below w.heap.size w w' := by
 have hu38 := Try.underlying24
 have hu66 := Try.underlying40
 have HR := Aside0.mk hr
 have H := Aside0.mk h
 have HN := Aside0.mk hc
 have H45 := Aside0.mk (show (0 ≤ cap ∧ cap ≤ 1000000) ∧ 0 ≤ cl ∧ cl ≤ 16 from ⟨by omega, h4, h5⟩)
 have d1 : decide (cap < 1) = false := decide_eq_false (by omega)
 have d2 : decide (449849 < cap) = false := decide_eq_false (by omega)
 have d3 : decide (99 < (l.length : Int)) = false := decide_eq_false (by omega)
 have d4 : decide (cl < 0) = false := decide_eq_false (by omega)
 have d5 : decide (16 < cl) = false := decide_eq_false (by omega)
 have d6 := h6 rfl
 have D6 := Aside0.mk (show ¬ cl = 0 by simpa using d6)
 clear h hr h6 hc
 go_enter Try.func10, Try.ntmps10
 go_wp2
 clear d1 d2 d3 d4 d5 h1 h2 h4 h5 d6
 go_loopg [43] l.length (fun gk v43 wr => ∃ i : Nat, i ≤ l.length ∧ l.length - i ≤ gk ∧ v43 = .int .i64 i ∧ Aside0 (validL cap cl true l (l.length - i) i = some r) ∧
  Aside0 (wr.heap[w.heap.size]? = some (.cells #[.int .i64 cl, .bool true, .slice A l.length c] 24 (0, 0))) ∧ Aside0 (Below w.heap.size w wr))
 case atStart => exact ⟨0, Nat.zero_le _, by omega, rfl, by rw [Nat.sub_zero]; exact H, ⟨heap_alloc_new _ _⟩, ⟨below_one _ _⟩⟩
 case round =>
  obtain ⟨i, hi, hg, rfl, HV, HT, HB⟩ := hrel
  obtain ⟨wo, rfl⟩ : ∃ wo : World, wo = wr := ⟨_, rfl⟩
  have hT0 : wo.cell? ⟨w.heap.size, 0, none⟩ = some (.int .i64 cl) := (blk_cell HT.out 0).trans rfl
  have hT1 : wo.cell? ⟨w.heap.size, 1, none⟩ = some (.bool true) := (blk_cell HT.out 1).trans rfl
  have hT2 : wo.cell? ⟨w.heap.size, 2, none⟩ = some (.slice A l.length c) := (blk_cell HT.out 2).trans rfl
  by_cases hlt : i < l.length
  · have hltz : (i : Int) < (l.length : Int) := by omega
    have hi0 : 0 ≤ (i : Int) := by omega
    obtain ⟨ad, rfl, hx0, hx1, hx2, hx3, hx4, hx5, hx6⟩ := at_T40 (Kd.C_below HR.out HB.out) (i : Int) hi0 hltz
    rw [Int.toNat_natCast] at hx0 hx1 hx2 hx3 hx4 hx5 hx6
    obtain ⟨x, hx⟩ : ∃ x, x = rd_T40 l (i : Int) := ⟨_, rfl⟩
    rw [← hx] at hx0 hx1 hx2 hx3 hx4 hx5 hx6
    have HX := Aside0.mk hx
    clear hx
    have hT0a := cell_box hT0
    have hT1a := cell_box hT1
    have hT2a := cell_box hT2
    go_wp2_with (fail)
    refine (rules_any cap cl true _ _ _ _).mono ?_
    rintro e wi ⟨rfl, hw⟩
    obtain ⟨hb0, hb1, hb2, hb3, hbi⟩ := four_new hw
    have HBI := Aside0.mk (below_step HB.out hbi)
    have hTi := blk_below HT.out hbi
    have hlen : (l.take i).length = i := by rw [List.length_take]; omega
    have HRI := Aside0.mk (fun j hj => rules_at cap cl true (l.take i) x (some ad) (wo.heap.size + 1) (wo.heap.size + 1 + 1) wi H45.out.1.1 H45.out.1.2 H45.out.2.1 H45.out.2.2
     (Kd.C_below (Kd.C_take HR.out (Nat.le_of_lt hlt)) HBI.out) ((blk_cell hb1 0).trans rfl) ((blk_cell hb2 0).trans rfl) ((blk_cell hb2 1).trans rfl) j hj)
    rw [hlen] at HRI
    have hz : (wo.alloc (.cells #[.int .i64 x.f0, .int .i64 x.f1, .int .i64 x.f2, .int .i64 x.f3, .int .i64 x.f4, .int .i64 x.f5, .int .i64 x.f6] 40)).heap.size = wo.heap.size + 1 := by simp
    rw [hz] at hb3
    obtain ⟨q, hq⟩ : ∃ q, allR (rulesR cap cl true (l.take i) x) = some q := by
     have hv := HV.out
     rw [show l.length - i = (l.length - (i + 1)) + 1 by omega] at hv
     simp only [validL] at hv
     rw [← HX.out] at hv
     cases hall : allR (rulesR cap cl true (l.take i) x) with
     | none => rw [hall] at hv; cases hv
     | some q => exact ⟨q, rfl⟩
    have HQ := Aside0.mk hq
    have Hb0 := Aside0.mk hb0
    have Hb3 := Aside0.mk hb3
    have HTi := Aside0.mk hTi
    clear hw hz hb0 hb1 hb2 hb3 hbi hTi hq hT0 hT1 hT2 hT0a hT1a hT2a hx0 hx1 hx2 hx3 hx4 hx5 hx6 hlen
    go_wp2_with (fail)
    go_loopg [52] 8 (fun gk v52 wr => ∃ j : Nat, j ≤ 8 ∧ 8 - j ≤ gk ∧ v52 = .int .i64 j ∧ Aside0 (allR ((rulesR cap cl true (l.take i) x).drop j) = some q) ∧ Aside0 (Below wi.heap.size wi wr))
    case atStart => exact ⟨0, Nat.zero_le _, by omega, rfl, HQ, ⟨Below.refl _ _⟩⟩
    case round =>
     obtain ⟨j, hj, hgj, rfl, HA, HBR⟩ := hrel
     by_cases hjl : j < 8
     · have hjz : (j : Int) < 8 := by omega
       obtain ⟨b, hb, hbf, hbt⟩ := allR_step (j := j) (by rw [rulesR_length]; exact hjl) HA.out
       obtain ⟨g, lb, hgv, heg, hcall⟩ := HRI.out j hjl
       have hc3 : wr.cell? ⟨wo.heap.size + 1 + 2, j, none⟩ = some (.func (.func g) #[] lb) := by
        rw [blk_cell (blk_below Hb3.out HBR.out) j, ← hgv]
        exact rulesV_get _ _ _ hjl
       have HCALL := Aside0.mk (hcall b hb wr.drew (HBR.out.drew))
       have HBW := Aside0.mk (HBR.out.drew)
       have HBD := Aside0.mk (hbf)
       have HBT := Aside0.mk (hbt)
       have hT2 : wr.drew.cell? ⟨w.heap.size, 2, none⟩ = some (.slice (some ad) l.length c) := (blk_cell (blk_below HTi.out HBR.out) 2).trans rfl
       have hX := blk_below Hb0.out HBR.out
       have hX0 : wr.drew.cell? ⟨wo.heap.size, 0, none⟩ = some (.int .i64 x.f0) := (blk_cell hX 0).trans rfl
       have hX1 : wr.drew.cell? ⟨wo.heap.size, 1, none⟩ = some (.int .i64 x.f1) := (blk_cell hX 1).trans rfl
       have hX2 : wr.drew.cell? ⟨wo.heap.size, 2, none⟩ = some (.int .i64 x.f2) := (blk_cell hX 2).trans rfl
       have hX3 : wr.drew.cell? ⟨wo.heap.size, 3, none⟩ = some (.int .i64 x.f3) := (blk_cell hX 3).trans rfl
       have hX4 : wr.drew.cell? ⟨wo.heap.size, 4, none⟩ = some (.int .i64 x.f4) := (blk_cell hX 4).trans rfl
       have hX5 : wr.drew.cell? ⟨wo.heap.size, 5, none⟩ = some (.int .i64 x.f5) := (blk_cell hX 5).trans rfl
       have hX6 : wr.drew.cell? ⟨wo.heap.size, 6, none⟩ = some (.int .i64 x.f6) := (blk_cell hX 6).trans rfl
       clear hb hbf hbt hgv hcall hX
       go_wp2_with (fail)
       refine wp_region_still_tail 7 (by kernel_rfl) (by kernel_rfl) ?_
       change wpStill _ _ wr.drew (fun a' => wpList _ _ _ _ a' wr.drew) _ _
       simp only [List.take_succ_cons, List.take_zero, List.drop_succ_cons, List.drop_zero]
       generalize wr.drew = w2 at HCALL HBW hT2 hX0 hX1 hX2 hX3 hX4 hX5 hX6 ⊢
       clear hc3
       have hic : i ≤ c := by have := HN.out; omega
       simp only [trackV] at HCALL
       still_step
       still_step
       still_step
       still_step
       still_step
       still_step
       still_step
       refine wpStill_nil ?_
       clear hT2 hX0 hX1 hX2 hX3 hX4 hX5 hX6
       go_wp2_with (fail)
       cases b with
       | false =>
        refine HCALL.out.mono ?_
        rintro e wk ⟨rfl, hbk⟩
        go_wp2_with (fail)
        go_ret
        have hrv : r = false := by
         have hv := HV.out
         rw [show l.length - i = (l.length - (i + 1)) + 1 by omega] at hv
         simp only [validL] at hv
         rw [← HX.out, HQ.out, HBD.out trivial] at hv
         exact (Option.some.inj hv).symm
        exact ⟨by rw [hrv]; rfl, below_step (below_step HBI.out HBW.out) hbk⟩
       | true =>
        refine HCALL.out.mono ?_
        rintro e wk ⟨rfl, hbk⟩
        go_wp2_with (fail)
        go_roundg (8 - (j + 1))
        case measure => omega
        case rel => exact ⟨j + 1, by omega, by omega, by go_num, ⟨HBT.out trivial⟩, ⟨below_step HBW.out hbk⟩⟩
     · have hjz : ¬ (j : Int) < 8 := by omega
       have hq8 : q = true := by
        have := HA.out
        rw [List.drop_eq_nil_of_le (by rw [rulesR_length]; omega)] at this
        exact (Option.some.inj this).symm
       go_wp2_with (fail)
       go_roundg (l.length - (i + 1))
       case measure => omega
       case rel =>
        refine ⟨i + 1, by omega, by omega, by go_num, ⟨?_⟩, ⟨blk_below HTi.out HBR.out⟩, ⟨below_step HBI.out HBR.out⟩⟩
        have hv := HV.out
        rw [show l.length - i = (l.length - (i + 1)) + 1 by omega] at hv
        simp only [validL] at hv
        rw [← HX.out, HQ.out, hq8] at hv
        exact hv
  · have hltz : ¬ (i : Int) < (l.length : Int) := by omega
    have hin : i = l.length := by omega
    have he : r = endB cl l := by
     have hv := HV.out
     rw [hin, Nat.sub_self] at hv
     exact (Option.some.inj hv).symm
    by_cases hz : cl = 0
    · exact absurd hz D6.out
    · have hz1 : (cl == 0) = false := by simpa using hz
      by_cases hl : 0 < l.length
      · have hlz : (0 : Int) < (l.length : Int) := by omega
        have hl2 : decide (0 < (l.length : Int)) = true := decide_eq_true hlz
        obtain ⟨ad, hA, hx0, hx1, _⟩ := at_T40 (Kd.C_below HR.out HB.out) ((l.length : Int) - 1) (by omega) (by omega)
        rw [show ((l.length : Int) - 1).toNat = l.length - 1 by omega] at hx1
        obtain ⟨x, hx⟩ : ∃ x, x = (rd_T40 l ((l.length : Int) - 1)).f1 := ⟨_, rfl⟩
        rw [← hx] at hx1
        have hre : r = decide (cl ≤ x) := by rw [he, hx]; unfold endB; rw [decide_eq_decide]; omega
        have HRT := Aside0.mk hre
        clear hz he hin hre hT1 HV hx hx0
        subst hA
        go_wp2_with (fail)
        go_quiet (fail)
        go_wp2_with (fail)
        go_ret
        exact ⟨by rw [HRT.out]; simp, pw_below_drewN HB.out _⟩
      · have hl2 : decide (0 < (l.length : Int)) = false := decide_eq_false (by omega)
        have hrf : r = false := by rw [he]; exact decide_eq_false (by omega)
        have HRT := Aside0.mk hrf
        clear hz he hin hrf hT1 HV
        go_wp2_with (fail)
        go_quiet (fail)
        go_wp2_with (fail)
        go_ret
        exact ⟨by rw [HRT.out]; simp, pw_below_drewN HB.out _⟩
theorem valid_no (cap cl : Int) (fin : Bool) (A : Option Addr) (n c : Nat) (w : World) (h : headB cap cl fin n = false) :
 Calls Try.prog 10 #[.int .i64 cap, .agg #[.int .i64 cl, .bool fin, .slice A n c]] w fun e w' => e = .returned (.bool false) ∧ Below w.heap.size w w' := by
 have hu38 := Try.underlying24
 have hn : ¬ (1 ≤ cap ∧ cap ≤ 449849 ∧ n ≤ 99 ∧ 0 ≤ cl ∧ cl ≤ 16 ∧ (fin = true → ¬ cl = 0)) := of_decide_eq_false h
 have hbl := Aside0.mk (below_one w)
 clear h
 by_cases h1 : cap < 1
 · have d1 : decide (cap < 1) = true := decide_eq_true h1
   clear hn
   go_enter Try.func10, Try.ntmps10
   go_wp2
   go_ret
   exact ⟨rfl, hbl.out _⟩
 · have d1 : decide (cap < 1) = false := decide_eq_false h1
   by_cases h2 : 449849 < cap
   · have d2 : decide (449849 < cap) = true := decide_eq_true h2
     clear hn
     go_enter Try.func10, Try.ntmps10
     go_wp2
     go_ret
     exact ⟨rfl, hbl.out _⟩
   · have d2 : decide (449849 < cap) = false := decide_eq_false h2
     by_cases h3 : 99 < n
     · have d3 : decide (99 < (n : Int)) = true := decide_eq_true (by omega)
       clear hn
       go_enter Try.func10, Try.ntmps10
       go_wp2
       go_ret
       exact ⟨rfl, hbl.out _⟩
     · have d3 : decide (99 < (n : Int)) = false := decide_eq_false (by omega)
       by_cases h4 : cl < 0
       · have d4 : decide (cl < 0) = true := decide_eq_true h4
         clear hn
         go_enter Try.func10, Try.ntmps10
         go_wp2
         go_ret
         exact ⟨rfl, hbl.out _⟩
       · have d4 : decide (cl < 0) = false := decide_eq_false h4
         by_cases h5 : 16 < cl
         · have d5 : decide (16 < cl) = true := decide_eq_true h5
           clear hn
           go_enter Try.func10, Try.ntmps10
           go_wp2
           go_ret
           exact ⟨rfl, hbl.out _⟩
         · have d5 : decide (16 < cl) = false := decide_eq_false h5
           cases fin with
           | false => exact absurd ⟨by omega, by omega, by omega, by omega, by omega, fun h => by cases h⟩ hn
           | true =>
            have d6 : (cl == 0) = true := by
             rw [beq_iff_eq]
             refine Decidable.byContradiction fun h => hn ⟨by omega, by omega, by omega, by omega, by omega, fun _ => h⟩
            clear hn
            go_enter Try.func10, Try.ntmps10
            go_wp2
            go_ret
            exact ⟨rfl, hbl.out _⟩
theorem toc_Valid.calls (a0 : Int) (a1_0 : Int) (a1_1 : Bool) (A1_2 : Option Addr) (c1_2 : Nat) (l1_2 : List (S40)) (r : Bool) (w : World) (hr1_2 : Kd.C k40 w A1_2 l1_2.length l1_2) (hc1_2 : l1_2.length ≤ c1_2) (h : toc_Valid.f a0 a1_0 a1_1 l1_2 = some r) :
 Calls Try.prog 10 #[.int .i64 a0, .agg #[.int .i64 a1_0, .bool a1_1, .slice A1_2 l1_2.length c1_2]] w fun e w' => e = .returned (.bool r) ∧ Below w.heap.size w w' := by
 unfold toc_Valid.f at h
 cases hb : headB a0 a1_0 a1_1 l1_2.length with
 | false =>
  rw [hb, if_neg (by decide)] at h
  obtain rfl := Option.some.inj h
  exact valid_no a0 a1_0 a1_1 A1_2 _ c1_2 w hb
 | true =>
  rw [hb, if_pos rfl] at h
  obtain ⟨h1, h2, h3, h4, h5, h6⟩ := of_decide_eq_true hb
  cases a1_1 with
  | false => exact valid_yes_false a0 a1_0 A1_2 c1_2 l1_2 r w hr1_2 hc1_2 h1 h2 h3 h4 h5 (fun h => by cases h) h
  | true => exact valid_yes_true a0 a1_0 A1_2 c1_2 l1_2 r w hr1_2 hc1_2 h1 h2 h3 h4 h5 (fun _ => by simpa using h6 rfl) h
end Go.Proofs.Ytjhepdcdhabcjaa.G
namespace Go.Proofs.Ytjhepdcdhabcjaa.G
open Go.RowKit Go.Proofs.YtjhepdcdhabcjaaW.PrintWords Go.Proofs.YtjhepdcdhabcjaaW.PrintLast Go.Proofs.YtjhepdcdhabcjaaW.PrintMore
set_option linter.unusedVariables false
def rvA (cap cl i st ses : Int) (x : S40) : Bool := decide (x.f0 = wrap64 (i + 1) ∧ x.f1 = ses ∧ x.f1 ≤ wrap64 (cl + 1) ∧ x.f1 ≤ 16 ∧ x.f2 = st ∧ 1 ≤ x.f3 ∧ x.f3 ≤ wrap64 (cap - x.f2))
def rvB (x : S40) : Bool := decide (0 ≤ x.f6 ∧ x.f6 ≤ 1024 ∧ x.f2 ≤ x.f4 ∧ x.f4 ≤ wrap64 (x.f2 + x.f3))
def rvC (x : S40) : Bool := decide (0 < x.f6 → Int.tmod x.f3 x.f6 = 0 ∧ Int.tmod (wrap64 (x.f4 - x.f2)) x.f6 = 0)
def rvD (x : S40) : Bool := decide ((x.f5 = 2 ∧ x.f4 = wrap64 (x.f2 + x.f3)) ∨ (x.f5 = 0 ∧ x.f4 = x.f2) ∨ (x.f5 = 1 ∧ ¬ x.f4 = x.f2))
def rvE (cl : Int) (x : S40) : Bool := decide (x.f1 ≤ cl → x.f5 = 2)
def rvT (i ses : Int) (x : S40) : Bool := decide (0 < i ∧ x.f1 = wrap64 (ses + 1))
def rvEnd (cl : Int) (fin : Bool) (n ses : Int) : Bool := decide (cl ≤ (if 0 < n then ses else 0) ∧ (fin = true → 1 ≤ cl ∧ (if 0 < n then ses else 0) = cl))
def rvX (cap cl i st ses : Int) (x : S40) : Bool := rvA cap cl i st ses x && (rvB x && (rvC x && (rvD x && rvE cl x)))
def rvL (cap cl : Int) (fin : Bool) (l : List S40) : Nat → Nat → Int → Int → Bool
 | 0, _, _, ses => rvEnd cl fin (l.length : Int) ses
 | d + 1, i, e, ses =>
  if rvX cap cl (i : Int) (if rvT (i : Int) ses (rd_T40 l (i : Int)) = true then wrap64 (e + 16) else e) (if rvT (i : Int) ses (rd_T40 l (i : Int)) = true then wrap64 (ses + 1) else ses) (rd_T40 l (i : Int)) = true
  then rvL cap cl fin l d (i + 1) (wrap64 ((rd_T40 l (i : Int)).f2 + (rd_T40 l (i : Int)).f3)) (if rvT (i : Int) ses (rd_T40 l (i : Int)) = true then wrap64 (ses + 1) else ses) else false
def rvH (cap cl : Int) (n : Int) : Bool := decide (1 ≤ cap ∧ cap ≤ 449849 ∧ n ≤ 99 ∧ 0 ≤ cl ∧ cl ≤ 16)
def masterdiscref14_Valid.f (a0 : Int) (a1_0 : Int) (a1_1 : Bool) (l1_2 : List (S40)) : Option (Bool) :=
 some (if rvH a0 a1_0 (l1_2.length : Int) = true then rvL a0 a1_0 a1_1 l1_2 l1_2.length 0 0 1 else false)
end Go.Proofs.Ytjhepdcdhabcjaa.G
namespace Go.Proofs.Ytjhepdcdhabcjaa.G
open Go.RowKit Go.Proofs.YtjhepdcdhabcjaaW.PrintWords Go.Proofs.YtjhepdcdhabcjaaW.PrintLast Go.Proofs.YtjhepdcdhabcjaaW.PrintMore
set_option linter.unusedVariables false
def Bd (x : Int) : Prop := -1099511627776 ≤ x ∧ x ≤ 1099511627776
def BdT (x : S40) : Prop := Bd x.f0 ∧ Bd x.f1 ∧ Bd x.f2 ∧ Bd x.f3 ∧ Bd x.f4 ∧ Bd x.f5 ∧ Bd x.f6
theorem w64 {n : Int} (h : -9223372036854775808 ≤ n ∧ n ≤ 9223372036854775807) : wrap64 n = n := by unfold wrap64; omega
theorem ite_tt {c : Prop} [Decidable c] {a : Bool} (h : (if c then a else false) = true) : a = true := by
 by_cases hc : c
 · rwa [if_pos hc] at h
 · rw [if_neg hc] at h; cases h
theorem allR_somes (bs : List Bool) : allR (bs.map some) = some (bs.all id) := by
 induction bs with
 | nil => rfl
 | cons b bs ih => cases b with
  | false => rfl
  | true => simpa [allR] using ih
def Before (l : List S40) (cap : Int) (i : Nat) (e ses : Int) : Prop :=
 0 ≤ e ∧ e ≤ cap ∧ 1 ≤ ses ∧ ses ≤ 16 ∧ ((i = 0 ∧ e = 0 ∧ ses = 1) ∨ (0 < i ∧ e = wrap64 ((rd_T40 l ((i : Int) - 1)).f2 + (rd_T40 l ((i : Int) - 1)).f3) ∧ ses = (rd_T40 l ((i : Int) - 1)).f1))
theorem rd_take {l : List S40} {i : Nat} (h0 : 0 < i) (h1 : i ≤ l.length) : rd_T40 (l.take i) ((i : Int) - 1) = rd_T40 l ((i : Int) - 1) := by
 unfold rd_T40
 have e : ((i : Int) - 1).toNat = i - 1 := by omega
 rw [e, List.getD_eq_getElem?_getD, List.getD_eq_getElem?_getD, List.getElem?_take, if_pos (by omega)]
def r2B (i ses f1 : Int) : Bool := decide (f1 = ses ∨ (0 < i ∧ f1 = ses + 1))
def r5B (i e ses f1 f2 : Int) : Bool := decide (f2 = if i = 0 then 0 else if f1 > ses then e + 16 else e)
def r7B (f2 f3 f4 f6 : Int) : Bool := decide (f6 = 0 ∨ (1 ≤ f6 ∧ f6 ≤ 1024 ∧ Int.tmod f3 f6 = 0 ∧ Int.tmod (f4 - f2) f6 = 0))
def r8B (f2 f3 f4 f5 : Int) : Bool := decide ((f5 = 2 ∧ f4 = f2 + f3) ∨ (¬ f5 = 2 ∧ f2 ≤ f4 ∧ f4 ≤ f2 + f3 ∧ ((f4 = f2 ∧ f5 = 0) ∨ (¬ f4 = f2 ∧ f5 = 1))))
theorem rule2_eq {l : List S40} {cap : Int} {i : Nat} {e ses : Int} (hb : Before l cap i e ses) (hi : i ≤ l.length) (hn : l.length ≤ 99) (x0 x1 x2 x3 x4 x5 x6 : Int) (h1 : Bd x1) :
 toc_rules_2.f (l.take i) x0 x1 x2 x3 x4 x5 x6 = some (r2B i ses x1) := by
 obtain ⟨-, -, a1, a2, hc⟩ := hb
 have hl : ((l.take i).length : Int) = i := by rw [List.length_take]; omega
 unfold toc_rules_2.f r2B
 rw [hl]
 rcases hc with ⟨h, -, hs⟩ | ⟨h, -, hs⟩
 · rw [if_pos (by omega)]
   congr 1
   rw [Bool.eq_iff_iff]; simp; omega
 · rw [if_neg (by omega), w64 (n := (i : Int) - 1) (by omega), if_pos (by omega), if_pos (by omega), rd_take h hi, ← hs, w64 (n := x1 - ses) (by have := h1; unfold Bd at this; omega)]
   split
   · congr 1; rw [Bool.eq_iff_iff]; simp; omega
   · congr 1; rw [Bool.eq_iff_iff]; simp; omega
theorem rule5_eq {l : List S40} {cap : Int} {i : Nat} {e ses : Int} (hb : Before l cap i e ses) (hc0 : cap ≤ 449849) (hi : i ≤ l.length) (hn : l.length ≤ 99) (x0 x1 x2 x3 x4 x5 x6 : Int) :
 toc_rules_5.f (l.take i) x0 x1 x2 x3 x4 x5 x6 = some (r5B i e ses x1 x2) := by
 obtain ⟨e0, e1, a1, a2, hc⟩ := hb
 have hl : ((l.take i).length : Int) = i := by rw [List.length_take]; omega
 unfold toc_rules_5.f r5B toc_start.f toc_end.f
 rw [hl]
 rcases hc with ⟨h, he, hs⟩ | ⟨h, he, hs⟩
 · rw [if_pos (by omega), if_pos (by omega)]
   simp only [Option.bind]
   congr 1
 · rw [if_neg (by omega), w64 (n := (i : Int) - 1) (by omega), if_pos (by omega), if_pos (by omega), rd_take h hi, ← hs, ← he, show (if (i : Int) = 0 then (0 : Int) else if x1 > ses then e + 16 else e) = (if x1 > ses then e + 16 else e) from if_neg (by omega)]
   split
   · simp only [Option.bind]; rw [w64 (n := e + 16) (by omega)]; congr 1
   · simp only [Option.bind]; congr 1
theorem rule7_eq (l : List S40) (x0 x1 x2 x3 x4 x5 x6 : Int) (h2 : Bd x2) (h4 : Bd x4) : toc_rules_7.f l x0 x1 x2 x3 x4 x5 x6 = some (r7B x2 x3 x4 x6) := by
 unfold toc_rules_7.f r7B
 unfold Bd at h2 h4
 rw [w64 (n := x4 - x2) (by omega)]
 generalize Int.tmod x3 x6 = t1
 generalize Int.tmod (x4 - x2) x6 = t2
 repeat' split
 all_goals (congr 1; rw [Bool.eq_iff_iff]; simp; omega)
theorem rule8_eq (l : List S40) (x0 x1 x2 x3 x4 x5 x6 : Int) (h2 : Bd x2) (h3 : Bd x3) : toc_rules_8.f l x0 x1 x2 x3 x4 x5 x6 = some (r8B x2 x3 x4 x5) := by
 unfold toc_rules_8.f r8B toc_closed.f toc_end.f toc_state.f
 unfold Bd at h2 h3
 rw [w64 (n := x2 + x3) (by omega)]
 simp only [Option.bind]
 split
 · congr 1; rw [Bool.eq_iff_iff]; simp; omega
 · by_cases h5 : x4 ≥ x2
   · rw [if_pos h5]
     by_cases h6 : x4 ≤ x2 + x3
     · rw [if_pos h6]
       by_cases h7 : x4 = x2
       · rw [if_pos h7]; simp only []; congr 1; rw [Bool.eq_iff_iff]; simp; omega
       · rw [if_neg h7]; simp only []; congr 1; rw [Bool.eq_iff_iff]; simp; omega
     · rw [if_neg h6]; congr 1; rw [Bool.eq_iff_iff]; simp; omega
   · rw [if_neg h5]; congr 1; rw [Bool.eq_iff_iff]; simp; omega
theorem pv1 (i e ses f1 f2 : Int) (hi : 0 ≤ i) (hz : i = 0 → e = 0 ∧ ses = 1) :
 ((f1 = ses ∨ (0 < i ∧ f1 = ses + 1)) ∧ (f2 = if i = 0 then 0 else if f1 > ses then e + 16 else e)) ↔
  (f1 = (if (0 < i ∧ f1 = ses + 1) then ses + 1 else ses) ∧ f2 = (if (0 < i ∧ f1 = ses + 1) then e + 16 else e)) := by
 by_cases h0 : i = 0
 · obtain ⟨rfl, rfl⟩ := hz h0
   rw [if_pos h0, if_neg (by omega), if_neg (by omega)]
   constructor
   · rintro ⟨a, b⟩; exact ⟨by omega, b⟩
   · rintro ⟨a, b⟩; exact ⟨.inl a, b⟩
 · rw [if_neg h0]
   by_cases h1 : f1 = ses + 1
   · rw [if_pos (show f1 > ses by omega), if_pos ⟨by omega, h1⟩, if_pos ⟨by omega, h1⟩]
     constructor
     · rintro ⟨a, b⟩; exact ⟨h1, b⟩
     · rintro ⟨a, b⟩; exact ⟨.inr ⟨by omega, h1⟩, b⟩
   · have hf : ¬ (0 < i ∧ f1 = ses + 1) := fun h => h1 h.2
     rw [if_neg hf, if_neg hf]
     constructor
     · rintro ⟨a, b⟩
       have a : f1 = ses := by omega
       rw [if_neg (by omega)] at b
       exact ⟨a, b⟩
     · rintro ⟨a, b⟩
       rw [if_neg (by omega)]
       exact ⟨.inl a, b⟩
theorem pv2 (cap f2 f3 : Int) (h : 0 ≤ f2) : (1 ≤ f3 ∧ f3 ≤ cap ∧ f2 ≤ cap - f3) ↔ (1 ≤ f3 ∧ f3 ≤ cap - f2) := by omega
theorem pv3 (f6 : Int) (T : Prop) : (f6 = 0 ∨ (1 ≤ f6 ∧ f6 ≤ 1024 ∧ T)) ↔ ((0 ≤ f6 ∧ f6 ≤ 1024) ∧ (0 < f6 → T)) := by
 by_cases h : f6 = 0
 · constructor
   · intro _; exact ⟨by omega, fun hp => absurd h (by omega)⟩
   · intro _; exact .inl h
 · constructor
   · rintro (h' | ⟨a, b, c⟩)
     · exact absurd h' h
     · exact ⟨by omega, fun _ => c⟩
   · rintro ⟨⟨a, b⟩, c⟩; exact .inr ⟨by omega, b, c (by omega)⟩
theorem pv4 (f2 f3 f4 f5 : Int) (h : 1 ≤ f3) : ((f5 = 2 ∧ f4 = f2 + f3) ∨ (¬ f5 = 2 ∧ f2 ≤ f4 ∧ f4 ≤ f2 + f3 ∧ ((f4 = f2 ∧ f5 = 0) ∨ (¬ f4 = f2 ∧ f5 = 1)))) ↔
 ((f2 ≤ f4 ∧ f4 ≤ f2 + f3) ∧ ((f5 = 2 ∧ f4 = f2 + f3) ∨ (f5 = 0 ∧ f4 = f2) ∨ (f5 = 1 ∧ ¬ f4 = f2))) := by
 constructor
 · rintro (⟨a, b⟩ | ⟨a, b, c, (⟨d, e⟩ | ⟨d, e⟩)⟩)
   · exact ⟨by omega, .inl ⟨a, b⟩⟩
   · exact ⟨⟨b, c⟩, .inr (.inl ⟨e, d⟩)⟩
   · exact ⟨⟨b, c⟩, .inr (.inr ⟨e, d⟩)⟩
 · rintro ⟨⟨a, b⟩, (⟨c, d⟩ | ⟨c, d⟩ | ⟨c, d⟩)⟩
   · exact .inl ⟨c, d⟩
   · exact .inr ⟨by omega, a, b, .inl ⟨d, c⟩⟩
   · exact .inr ⟨by omega, a, b, .inr ⟨d, c⟩⟩
theorem pv5 (f1 cl f5 : Int) : (f1 ≤ cl + 1 ∧ f1 ≤ 16 ∧ (cl < f1 ∨ f5 = 2)) ↔ (f1 ≤ cl + 1 ∧ f1 ≤ 16 ∧ (f1 ≤ cl → f5 = 2)) := by
 constructor
 · rintro ⟨a, b, c⟩; exact ⟨a, b, fun h => c.resolve_left (by omega)⟩
 · rintro ⟨a, b, c⟩
   by_cases h : f1 ≤ cl
   · exact ⟨a, b, .inr (c h)⟩
   · exact ⟨a, b, .inl (by omega)⟩
theorem rules_eq {l : List S40} {cap cl : Int} {fin : Bool} {i : Nat} {e ses : Int} (hb : Before l cap i e ses) (hc0 : cap ≤ 449849) (hcl : 0 ≤ cl ∧ cl ≤ 16) (hi : i ≤ l.length) (hn : l.length ≤ 99) (x : S40) (hx : BdT x) :
 allR (rulesR cap cl fin (l.take i) x) = some (rvX cap cl (i : Int) (if rvT (i : Int) ses x = true then wrap64 (e + 16) else e) (if rvT (i : Int) ses x = true then wrap64 (ses + 1) else ses) x && (!fin || decide (x.f1 ≤ cl))) := by
 obtain ⟨b0, b1, b2, b3, b4, b5, b6⟩ := hx
 have hl : ((l.take i).length : Int) = i := by rw [List.length_take]; omega
 unfold rulesR
 rw [rule2_eq hb hi hn _ _ _ _ _ _ _ b1, rule5_eq hb hc0 hi hn, rule7_eq _ _ _ _ _ _ _ _ b2 b4, rule8_eq _ _ _ _ _ _ _ _ b2 b3]
 unfold toc_rules_1.f
 rw [hl]
 refine (allR_somes [_, _, _, _, _, _, _, _]).trans ?_
 congr 1
 obtain ⟨e0, e1, a1, a2, hc⟩ := hb
 obtain ⟨f0, f1, f2, f3, f4, f5, f6⟩ := x
 simp only [List.all_cons, List.all_nil, id, Bool.and_true]
 unfold rvX rvA rvB rvC rvD rvE rvT r2B r5B r7B r8B rule3B rule4B rule6B
 simp only [] at *
 unfold Bd at b0 b1 b2 b3 b4 b5 b6
 have hz : (i : Int) = 0 → e = 0 ∧ ses = 1 := by rcases hc with ⟨h, h2, h3⟩ | ⟨h, -, -⟩ <;> omega
 clear hc
 have hq : wrap64 ((i : Int) + 1) = (i : Int) + 1 ∧ wrap64 (ses + 1) = ses + 1 ∧ wrap64 (e + 16) = e + 16 ∧ wrap64 (cl + 1) = cl + 1 ∧ wrap64 (cap - f2) = cap - f2 ∧ wrap64 (f2 + f3) = f2 + f3 ∧ wrap64 (f4 - f2) = f4 - f2 :=
  ⟨w64 (by omega), w64 (by omega), w64 (by omega), w64 (by omega), w64 (by omega), w64 (by omega), w64 (by omega)⟩
 obtain ⟨q1, q2, q3, q4, q5, q6, q7⟩ := hq
 rw [q1, q2, q3, q4, q5, q6, q7]
 clear q1 q2 q3 q4 q5 q6 q7
 generalize Int.tmod f3 f6 = t1
 generalize Int.tmod (f4 - f2) f6 = t2
 have hi0 : (0 : Int) ≤ (i : Int) := by omega
 have key : (((f0 = (i : Int) + 1) ∧ (f1 = ses ∨ (0 < (i : Int) ∧ f1 = ses + 1)) ∧ (f1 ≤ cl + 1 ∧ f1 ≤ 16 ∧ (cl < f1 ∨ f5 = 2)) ∧ (f2 = if (i : Int) = 0 then 0 else if f1 > ses then e + 16 else e) ∧ (1 ≤ f3 ∧ f3 ≤ cap ∧ f2 ≤ cap - f3) ∧ (f6 = 0 ∨ (1 ≤ f6 ∧ f6 ≤ 1024 ∧ t1 = 0 ∧ t2 = 0)) ∧ ((f5 = 2 ∧ f4 = f2 + f3) ∨ (¬ f5 = 2 ∧ f2 ≤ f4 ∧ f4 ≤ f2 + f3 ∧ ((f4 = f2 ∧ f5 = 0) ∨ (¬ f4 = f2 ∧ f5 = 1))))) ↔
  ((f0 = (i : Int) + 1 ∧ f1 = (if (0 < (i : Int) ∧ f1 = ses + 1) then ses + 1 else ses) ∧ f1 ≤ cl + 1 ∧ f1 ≤ 16 ∧ f2 = (if (0 < (i : Int) ∧ f1 = ses + 1) then e + 16 else e) ∧ 1 ≤ f3 ∧ f3 ≤ cap - f2) ∧ (0 ≤ f6 ∧ f6 ≤ 1024 ∧ f2 ≤ f4 ∧ f4 ≤ f2 + f3) ∧ (0 < f6 → t1 = 0 ∧ t2 = 0) ∧ ((f5 = 2 ∧ f4 = f2 + f3) ∨ (f5 = 0 ∧ f4 = f2) ∨ (f5 = 1 ∧ ¬ f4 = f2)) ∧ (f1 ≤ cl → f5 = 2))) := by
  clear b0 b1 b2 b3 b4 b5 b6
  constructor
  · rintro ⟨r1, r2, r3, r5, r6, r7, r8⟩
    obtain ⟨s1, s2⟩ := (pv1 i e ses f1 f2 hi0 hz).1 ⟨r2, r5⟩
    have h2 : 0 ≤ f2 := by
     rw [s2]
     split <;> omega
    obtain ⟨u1, u2⟩ := (pv2 cap f2 f3 h2).1 r6
    obtain ⟨v1, v2⟩ := (pv3 f6 (t1 = 0 ∧ t2 = 0)).1 r7
    obtain ⟨x1, x2⟩ := (pv4 f2 f3 f4 f5 u1).1 r8
    obtain ⟨y1, y2, y3⟩ := (pv5 f1 cl f5).1 r3
    exact ⟨⟨r1, s1, y1, y2, s2, u1, u2⟩, ⟨v1.1, v1.2, x1.1, x1.2⟩, v2, x2, y3⟩
  · rintro ⟨⟨r1, s1, y1, y2, s2, u1, u2⟩, ⟨v1, v1', x1, x1'⟩, v2, x2, y3⟩
    have h2 : 0 ≤ f2 := by
     rw [s2]
     split <;> omega
    obtain ⟨r2, r5⟩ := (pv1 i e ses f1 f2 hi0 hz).2 ⟨s1, s2⟩
    exact ⟨r1, r2, (pv5 f1 cl f5).2 ⟨y1, y2, y3⟩, r5, (pv2 cap f2 f3 h2).2 ⟨u1, u2⟩, (pv3 f6 _).2 ⟨⟨v1, v1'⟩, v2⟩, (pv4 f2 f3 f4 f5 u1).2 ⟨⟨x1, x1'⟩, x2⟩⟩
 clear hz hi0 e0 e1 a1 a2 b0 b1 b2 b3 b4 b5 b6 hl hn hi hc0 hcl
 rw [Bool.eq_iff_iff]
 simp only [Bool.and_eq_true, Bool.or_eq_true, decide_eq_true_eq, beq_iff_eq]
 constructor
 · rintro ⟨r1, r2, r3, r4, r5, r6, r7, r8⟩
   exact ⟨key.1 ⟨r1, r2, r3, r5, r6, r7, r8⟩, r4⟩
 · rintro ⟨hk, r4⟩
   obtain ⟨r1, r2, r3, r5, r6, r7, r8⟩ := key.2 hk
   exact ⟨r1, r2, r3, r4, r5, r6, r7, r8⟩
theorem rvX_parts {cap cl i st ses : Int} {x : S40} (h : rvX cap cl i st ses x = true) : (x.f0 = wrap64 (i + 1) ∧ x.f1 = ses ∧ x.f1 ≤ wrap64 (cl + 1) ∧ x.f1 ≤ 16 ∧ x.f2 = st ∧ 1 ≤ x.f3 ∧ x.f3 ≤ wrap64 (cap - x.f2)) ∧ rvB x = true ∧ rvC x = true ∧ rvD x = true ∧ rvE cl x = true := by
 unfold rvX at h
 simp only [Bool.and_eq_true] at h
 exact ⟨of_decide_eq_true h.1, h.2.1, h.2.2.1, h.2.2.2.1, h.2.2.2.2⟩
theorem rvL_le {cap cl : Int} {fin : Bool} {l : List S40} (hf : fin = true) (hn : 0 < (l.length : Int)) : ∀ (d i : Nat) (e ses : Int), 1 ≤ ses → ses ≤ 16 → rvL cap cl fin l d i e ses = true → ses ≤ cl
 | 0, i, e, ses, h1, h2, h => by
  have := (of_decide_eq_true (show decide _ = true from h)).2 hf
  rw [if_pos hn] at this
  omega
 | d + 1, i, e, ses, h1, h2, h => by
  rw [rvL] at h
  by_cases hx : rvX cap cl (i : Int) (if rvT (i : Int) ses (rd_T40 l (i : Int)) = true then wrap64 (e + 16) else e) (if rvT (i : Int) ses (rd_T40 l (i : Int)) = true then wrap64 (ses + 1) else ses) (rd_T40 l (i : Int)) = true
  · rw [if_pos hx] at h
    have hp := (rvX_parts hx).1
    have ha : (rd_T40 l (i : Int)).f1 = _ := hp.2.1
    have hb := hp.2.2.2.1
    rw [ha] at hb
    have hw : wrap64 (ses + 1) = ses + 1 := w64 (by omega)
    rw [hw] at hb h
    have := rvL_le hf hn d (i + 1) _ _ (by split <;> omega) hb h
    split at this <;> omega
  · rw [if_neg hx] at h; cases h
theorem before_step {l : List S40} {cap cl : Int} {i : Nat} {e ses : Int} (hb : Before l cap i e ses) (hc0 : cap ≤ 449849) (hx : rvX cap cl (i : Int) (if rvT (i : Int) ses (rd_T40 l (i : Int)) = true then wrap64 (e + 16) else e) (if rvT (i : Int) ses (rd_T40 l (i : Int)) = true then wrap64 (ses + 1) else ses) (rd_T40 l (i : Int)) = true) :
 Before l cap (i + 1) (wrap64 ((rd_T40 l (i : Int)).f2 + (rd_T40 l (i : Int)).f3)) (if rvT (i : Int) ses (rd_T40 l (i : Int)) = true then wrap64 (ses + 1) else ses) := by
 obtain ⟨e0, e1, a1, a2, -⟩ := hb
 obtain ⟨⟨-, p1, -, p2, p3, p4, p5⟩, -⟩ := rvX_parts hx
 have hi : ((i + 1 : Nat) : Int) - 1 = (i : Int) := by omega
 unfold Before
 rw [hi]
 generalize rd_T40 l (i : Int) = x at *
 have hw : wrap64 (ses + 1) = ses + 1 ∧ wrap64 (e + 16) = e + 16 := ⟨w64 (by omega), w64 (by omega)⟩
 have g2 : 0 ≤ x.f2 ∧ x.f2 ≤ 449849 + 16 := by
  rw [p3, hw.2]; split <;> omega
 have hw2 : wrap64 (cap - x.f2) = cap - x.f2 := w64 (by omega)
 rw [hw2] at p5
 have hw3 : wrap64 (x.f2 + x.f3) = x.f2 + x.f3 := w64 (by omega)
 rw [hw3]
 refine ⟨by omega, by omega, ?_, by rw [← p1]; exact p2, .inr ⟨by omega, rfl, p1.symm⟩⟩
 rw [hw.1]
 clear hw hw2 hw3 p1 p3
 split <;> omega
theorem endB_eq {cl : Int} {fin : Bool} {l : List S40} {cap e ses : Int} (hb : Before l cap l.length e ses) (hcl : 0 ≤ cl) (hfc : fin = true → 1 ≤ cl) (hf : fin = true → 0 < l.length → ses ≤ cl) : endB cl l = rvEnd cl fin (l.length : Int) ses := by
 obtain ⟨-, -, a1, a2, hc⟩ := hb
 unfold endB rvEnd
 rw [decide_eq_decide]
 rcases hc with ⟨h, -, -⟩ | ⟨h, -, hs⟩
 · rw [if_neg (by omega)]
   constructor
   · rintro (h' | ⟨h', -⟩)
     · exact ⟨by omega, fun hf' => absurd (hfc hf') (by omega)⟩
     · omega
   · rintro ⟨h', -⟩; exact .inl (by omega)
 · rw [if_pos (by omega), ← hs]
   constructor
   · rintro (h' | ⟨-, h'⟩)
     · exact ⟨by omega, fun hf' => absurd (hfc hf') (by omega)⟩
     · exact ⟨h', fun hf' => ⟨hfc hf', by have := hf hf' h; omega⟩⟩
   · rintro ⟨h', -⟩; exact .inr ⟨h, h'⟩
theorem rd_bd {l : List S40} (hB : ∀ x ∈ l, BdT x) {i : Nat} (h : i < l.length) : BdT (rd_T40 l (i : Int)) := by
 unfold rd_T40
 rw [Int.toNat_natCast, List.getD_eq_getElem?_getD, List.getElem?_eq_getElem h]
 exact hB _ (List.getElem_mem h)
theorem valid_loop {cap cl : Int} {fin : Bool} {l : List S40} (hc0 : cap ≤ 449849) (hcl : 0 ≤ cl ∧ cl ≤ 16) (hn : l.length ≤ 99) (hfc : fin = true → 1 ≤ cl) (hB : ∀ x ∈ l, BdT x) :
 ∀ (d i : Nat) (e ses : Int), i + d = l.length → Before l cap i e ses → (fin = true → 0 < i → ses ≤ cl) → validL cap cl fin l d i = some (rvL cap cl fin l d i e ses)
 | 0, i, e, ses, hd, hb, hf => by
  obtain rfl : i = l.length := by omega
  rw [validL, rvL, endB_eq hb hcl.1 hfc hf]
 | d + 1, i, e, ses, hd, hb, hf => by
  have hil : i < l.length := by omega
  rw [validL, rules_eq hb hc0 hcl (Nat.le_of_lt hil) hn _ (rd_bd hB hil), rvL]
  by_cases hx : rvX cap cl (i : Int) (if rvT (i : Int) ses (rd_T40 l (i : Int)) = true then wrap64 (e + 16) else e) (if rvT (i : Int) ses (rd_T40 l (i : Int)) = true then wrap64 (ses + 1) else ses) (rd_T40 l (i : Int)) = true
  · rw [hx, if_pos rfl, Bool.true_and]
    have hbn := before_step hb hc0 hx
    have hp := (rvX_parts hx).1.2.1
    by_cases h4 : fin = true ∧ ¬ (rd_T40 l (i : Int)).f1 ≤ cl
    · rw [h4.1, decide_eq_false h4.2]
      show some false = _
      congr 1
      by_cases hr : rvL cap cl true l d (i + 1) (wrap64 ((rd_T40 l (i : Int)).f2 + (rd_T40 l (i : Int)).f3)) (if rvT (i : Int) ses (rd_T40 l (i : Int)) = true then wrap64 (ses + 1) else ses) = true
      · exfalso
        have := rvL_le rfl (by omega) d (i + 1) _ _ hbn.2.2.1 hbn.2.2.2.1 hr
        rw [← hp] at this
        exact h4.2 this
      · exact (Bool.eq_false_iff.mpr hr).symm
    · have h5 : (!fin || decide ((rd_T40 l (i : Int)).f1 ≤ cl)) = true := by
       cases fin with
       | false => rfl
       | true => rw [decide_eq_true (Decidable.not_not.mp (fun h => h4 ⟨rfl, h⟩))]; rfl
      rw [h5]
      refine valid_loop hc0 hcl hn hfc hB d (i + 1) _ _ (by omega) hbn (fun hf' _ => ?_)
      rw [← hp]
      exact Decidable.not_not.mp (fun h => h4 ⟨hf', h⟩)
  · rw [if_neg hx, Bool.eq_false_iff.mpr hx]
    rfl
theorem valid_eq (cap cl : Int) (fin : Bool) (l : List S40) (hB : ∀ x ∈ l, BdT x) : toc_Valid.f cap cl fin l = masterdiscref14_Valid.f cap cl fin l := by
 unfold toc_Valid.f masterdiscref14_Valid.f
 by_cases hh : rvH cap cl (l.length : Int) = true
 · rw [if_pos hh]
   have hh' := of_decide_eq_true hh
   by_cases hfc : fin = true → 1 ≤ cl
   · have h1 : headB cap cl fin l.length = true := decide_eq_true ⟨by omega, by omega, by omega, by omega, by omega, fun h => by have := hfc h; omega⟩
     rw [if_pos h1]
     exact valid_loop hh'.2.1 hh'.2.2.2 (by omega) hfc hB l.length 0 0 1 (by omega) ⟨by omega, by omega, by omega, by omega, .inl ⟨rfl, rfl, rfl⟩⟩ (fun _ h => by omega)
   · obtain ⟨hf, hc⟩ := Classical.not_imp.mp hfc
     have h1 : headB cap cl fin l.length = false := decide_eq_false (fun h => absurd (h.2.2.2.2.2 hf) (fun hn => hn (by omega)))
     rw [h1]
     show some false = _
     congr 1
     symm
     rw [← Bool.not_eq_true]
     intro hr
     have hr' : ∀ (d i : Nat) (e ses : Int), rvL cap cl fin l d i e ses = true → 1 ≤ cl := by
      intro d
      induction d with
      | zero => intro i e ses h; exact ((of_decide_eq_true (show decide _ = true from h)).2 hf).1
      | succ d ih =>
       intro i e ses h
       rw [rvL] at h
       exact ih _ _ _ (ite_tt h)
     exact hc (hr' _ _ _ _ hr)
 · rw [if_neg hh]
   have h1 : headB cap cl fin l.length = false := decide_eq_false (fun h => hh (decide_eq_true ⟨by omega, by omega, by omega, by omega, by omega⟩))
   rw [h1]
   rfl
end Go.Proofs.Ytjhepdcdhabcjaa.G
namespace Go.Proofs.Ytjhepdcdhabcjaa.G
open Go.RowKit Go.Proofs.YtjhepdcdhabcjaaW.PrintWords Go.Proofs.YtjhepdcdhabcjaaW.PrintLast Go.Proofs.YtjhepdcdhabcjaaW.PrintMore
set_option linter.unusedVariables false
def api_Track_44.f (a0 : List (S40)) : Option (List (S40)) := if a0.length < 2513169434916 then some a0 else none
set_option maxHeartbeats 1000000 in
theorem api_Track_44.calls (A0 : Option Addr) (c0 : Nat) (l0 : List (S40)) (r : List (S40)) (w : World) (hr0 : Kd.C k40 w A0 l0.length l0) (hc0 : l0.length ≤ c0) (h : api_Track_44.f l0 = some r) :
 Calls Try.prog 44 #[.slice A0 l0.length c0] w fun e w' => ∃ v0_ : Value, e = .returned (v0_) ∧ Kd.R k40 40 w' w.heap.size (fun _ => True) v0_ r ∧ Below w.heap.size w w' := by
 unfold api_Track_44.f at h
 by_cases hl : l0.length < 2513169434916
 · rw [if_pos hl] at h
   obtain rfl := Option.some.inj h
   have LM := Aside0.mk hl
   have HR := Aside0.mk hr0
   have HB := Aside0.mk (Below.refl w.heap.size w)
   have qT : ∀ (w : World) (a : Option Addr) (n c n' c' : Nat), (binOp .eql 22 (.slice a n c) (.slice none n' c')).run Try.prog w = .ok (.bool a.isNone) w := fun w a n c n' c' => Lib.run_eql_slice_nil w _ _ a n c n' c' Try.underlying22
   cases A0 with
   | none =>
    have h0 : l0.length = 0 := by
     rcases Nat.eq_zero_or_pos l0.length with h0 | h0
     · exact h0
     · obtain ⟨ad, e, _⟩ := at_T40 hr0 0 (by omega) (by omega)
       cases e
    have HL := Aside0.mk (List.eq_nil_of_length_eq_zero h0)
    clear h h0 hl hr0 hc0
    go_enter Try.func44, Try.ntmps44
    go_wp2
    go_ret
    exact ⟨_, rfl, by rw [HL.out]; exact Kd.R_nil _ _ _ _ _, HB.out⟩
   | some ad =>
    clear h hl hr0 hc0
    go_enter Try.func44, Try.ntmps44
    go_wp2_with (first
     | ((with_reducible refine gate_dst (N := 5) rfl ?_); refine Kd.R_lit k40 _ 40 ?hg (N := 5) ?hd (xs := ([] : List (S40))) (inner := []) (ok := fun _ => True) (okp := fun _ => True) ?hr ?hp (fun _ hk => hk) trivial (Below.refl _ _) (Nat.le_refl _) (by simp) ?_; (case hd => rfl); (case hg => rfl); (case hr => first | (go_simp; done) | (go_simp; rfl)); (case hp => exact (Reps.none _ _)); intro v1 w1 ho1 hb1 hg_ hnew_; clear hg_ hnew_; have n0_ := Aside0.mk (ho1); have n1_ := Aside0.mk (below_step HB.out hb1); clear HB; have HO1 := n0_; have HB := n1_; clear n0_ n1_; clear hb1 ho1)
     | ((with_reducible refine gate_builtin (b := .append) (xs := #[.tmp 5, .tmp 6]) rfl ?_); at_builtin; refine Kd.R_append_rows k40 (w0 := w) w.heap.size rfl (.tmp 5) (.tmp 6) 22 40 (.agg #[(.int .i64 0), (.int .i64 0), (.int .i64 0), (.int .i64 0), (.int .i64 0), (.int .i64 0), (.int .i64 0)]) 56 rfl Try.underlying22 info40 rfl (by decide) (by omega) v1 [] l0 _ _ _ (fun _ => True) (fun _ => False) rfl rfl ?aO ?aR (fun _ _ h => h) (fun _ h => h.elim) ?aF ?aB ?aS ?aL ?_; (case aR => exact Kd.C_below HR.out HB.out); (case aB => exact HB.out); (case aF => exact (fun _ _ => trivial)); (case aO => exact HO1.out); (case aS => exact HB.out.size); (case aL => have := LM.out; simp; omega); intro v2 w2 ho hb hg hat; have HO2 := Aside0.mk ho; have HB2 := Aside0.mk hb; clear ho hb hg hat))
    go_ret
    exact ⟨_, rfl, by simpa using HO2.out, HB2.out⟩
 · rw [if_neg hl] at h
   cases h
end Go.Proofs.Ytjhepdcdhabcjaa.G
namespace Go.Proofs.Ytjhepdcdhabcjaa.G
open Go.RowKit Go.Proofs.YtjhepdcdhabcjaaW.PrintWords Go.Proofs.YtjhepdcdhabcjaaW.PrintLast Go.Proofs.YtjhepdcdhabcjaaW.PrintMore
attribute [local go_sem] max2_int min2_int max_two min_two max_three min_three max_four min_four   -- for this text's walks alone
set_option linter.unusedVariables false
set_option linter.unusedSimpArgs false
def toc_clone.f (a0_0 : Int) (a0_1 : Bool) (l0_2 : List (S40)) : Option (Int × Bool × (List (S40))) := (api_Track_44.f l0_2).bind fun t108 => (some (a0_0, a0_1, t108))
set_option maxHeartbeats 8000000 in
set_option maxRecDepth 100000 in
theorem toc_clone.calls (a0_0 : Int) (a0_1 : Bool) (A0_2 : Option Addr) (c0_2 : Nat) (l0_2 : List (S40)) (r1 : Int) (r2 : Bool) (r3 : List (S40)) (w : World) (hr0_2 : Kd.C k40 w A0_2 l0_2.length l0_2) (hc0_2 : l0_2.length ≤ c0_2) (h : toc_clone.f a0_0 a0_1 l0_2 = some (r1, r2, r3)) :
 Calls Try.prog 29 #[.agg #[.int .i64 a0_0, .bool a0_1, .slice A0_2 l0_2.length c0_2]] w fun e w' => ∃ v2_ : Value, e = .returned (.agg #[.int .i64 r1, .bool r2, v2_]) ∧ Kd.R k40 40 w' w.heap.size (fun _ => True) v2_ r3 ∧ Below w.heap.size w w' := by
 have hu24 := Try.underlying24
 have HR0_2 := Aside0.mk hr0_2
 have HC0_2 := Aside0.mk hc0_2
 clear hr0_2 hc0_2
 have HB := Aside0.mk (Below.refl w.heap.size w)
 have H : ((api_Track_44.f l0_2).bind fun t108 => (some (a0_0, a0_1, t108))) = some (r1, r2, r3) := h
 clear h
 replace H := Option.bind_eq_some_iff.mp H
 obtain ⟨t108, A20, H⟩ := H
 replace H : (some (a0_0, a0_1, t108)) = some (r1, r2, r3) := H
 have A2 := Aside0.mk A20
 clear A20
 simp only [Option.some.injEq, Prod.mk.injEq] at H
 obtain ⟨rfl, rfl, rfl⟩ := H
 go_enter Try.func29, Try.ntmps29
 go_wp2_with (first | ((with_reducible refine gate_dst (N := 1) rfl ?_); refine box_event ?hg (N := 1) ?hd (cs := #[.int .i64 a0_0, .bool a0_1, .slice A0_2 l0_2.length c0_2]) (t := 24) ?hr ?_; (case hd => rfl); (case hg => rfl); (case hr => first | (go_simp; done) | (go_simp; rfl)); intro gb106 hg w3 hbox hb; have n0_ := Aside0.mk (below_step (by repeat (first | (with_reducible first | exact HB.out | apply below_alloc | apply pw_below_drewN | apply below_drew1) | exact HB.out)) hb); have n1_ := Aside0.mk (hbox); have n2_ := Aside0.mk ((by rw [hg]; exact (below_size (by repeat (first | (with_reducible first | exact HB.out | apply below_alloc | apply pw_below_drewN | apply below_drew1) | exact HB.out))) : w.heap.size ≤ gb106)); have n3_ := Aside0.mk ((by rw [hg]; exact (below_size (by repeat (first | (with_reducible first | exact HB.out | apply below_alloc | apply pw_below_drewN | apply below_drew1) | exact HB.out))) : w.heap.size ≤ gb106)); clear HB; have HB := n0_; have BK106 := n1_; have GW106 := n2_; have GE106 := n3_; clear n0_ n1_ n2_ n3_; clear hb hbox hg) | ((with_reducible refine gate_dst (N := 2) rfl ?_); refine box_event ?hg (N := 2) ?hd (cs := #[.int .i64 0, .bool false, .slice none 0 0]) (t := 24) ?hr ?_; (case hd => rfl); (case hg => rfl); (case hr => first | (go_simp; done) | (go_simp; rfl)); intro gb107 hg w4 hbox hb; have n0_ := Aside0.mk (blk_below (g := gb106) (o := .cells #[.int .i64 a0_0, .bool a0_1, .slice A0_2 l0_2.length c0_2] 24 (0, 0)) (by (with_reducible repeat (first | refine blk_drewN ?_ _ | refine blk_drew ?_ | refine blk_alloc ?_ _)); exact BK106.out) hb); have n1_ := Aside0.mk (below_step (by repeat (first | (with_reducible first | exact HB.out | apply below_alloc | apply pw_below_drewN | apply below_drew1 | refine below_set ?_ GE106.out) | exact HB.out)) hb); have n2_ := Aside0.mk (hbox); have n3_ := Aside0.mk ((by rw [hg]; exact (below_size (by repeat (first | (with_reducible first | exact HB.out | apply below_alloc | apply pw_below_drewN | apply below_drew1 | refine below_set ?_ GE106.out) | exact HB.out))) : w.heap.size ≤ gb107)); have n4_ := Aside0.mk ((by rw [hg]; exact (below_size (by repeat (first | (with_reducible first | exact HB.out | apply below_alloc | apply pw_below_drewN | apply below_drew1 | refine below_set ?_ GE106.out) | exact HB.out))) : w.heap.size ≤ gb107)); have n5_ := Aside0.mk ((by rw [hg]; exact Nat.ne_of_lt (blk_lt (g := gb106) (o := .cells #[.int .i64 a0_0, .bool a0_1, .slice A0_2 l0_2.length c0_2] 24 (0, 0)) (by (with_reducible repeat (first | refine blk_drewN ?_ _ | refine blk_drew ?_ | refine blk_alloc ?_ _)); exact BK106.out)) : gb106 ≠ gb107)); have n6_ := Aside0.mk ((by rw [hg]; exact Nat.ne_of_gt (blk_lt (g := gb106) (o := .cells #[.int .i64 a0_0, .bool a0_1, .slice A0_2 l0_2.length c0_2] 24 (0, 0)) (by (with_reducible repeat (first | refine blk_drewN ?_ _ | refine blk_drew ?_ | refine blk_alloc ?_ _)); exact BK106.out)) : gb107 ≠ gb106)); clear BK106; clear HB; have BK106 := n0_; have HB := n1_; have BK107 := n2_; have GW107 := n3_; have GE107 := n4_; have NB106_107 := n5_; have NB107_106 := n6_; clear n0_ n1_ n2_ n3_ n4_ n5_ n6_; clear hb hbox hg; have hnb5 := NB106_107.out; have hnc5 := NB107_106.out; obtain ⟨hcz6_0, hcz6_1, hcz6_2⟩ := cel3 BK106.out; obtain ⟨hfz6_0, hfz6_1, hfz6_2⟩ := frz3 BK106.out) | ((with_reducible refine gate_callee (f := 44) rfl ?_); refine goesL_ (some 5) rfl rfl Try.func44 (by kernel_rfl) rfl #[.slice A0_2 l0_2.length c0_2] rfl (by (try simp only [List.map_toArray, List.map_cons, List.map_nil]); first | done | rfl | (simp only [List.length_drop, List.length_take]; rfl)) ?_; (with_reducible refine (api_Track_44.calls _ _ l0_2 t108 _ ?side1 ?side2 A2.out).mono ?_); (case side1 => repeat (first | exact (Kd.C_below HR0_2.out HB.out) | (with_reducible refine Kd.C_alloc ?_ _) | (with_reducible refine Kd.C_drewN ?_ _) | (with_reducible refine Kd.C_drew ?_))); (case side2 => exact HC0_2.out); rintro e w7 ⟨v109, rfl, ho0, hb⟩; refine ⟨_, rfl, ?_⟩; have n0_ := Aside0.mk (Kd.R_lower ho0 (below_size (by repeat (first | (with_reducible first | exact HB.out | apply below_alloc | apply pw_below_drewN | apply below_drew1 | refine below_set ?_ GE106.out | refine below_set ?_ GE107.out) | exact HB.out)))); have n1_ := Aside0.mk (blk_below (g := gb106) (o := .cells #[.int .i64 a0_0, .bool a0_1, .slice A0_2 l0_2.length c0_2] 24 (0, 0)) (by (with_reducible repeat (first | refine blk_drewN ?_ _ | refine blk_drew ?_ | refine blk_alloc ?_ _)); exact BK106.out) hb); have n2_ := Aside0.mk (blk_below (g := gb107) (o := .cells #[.int .i64 0, .bool false, .slice none 0 0] 24 (0, 0)) (by (with_reducible repeat (first | refine blk_drewN ?_ _ | refine blk_drew ?_ | refine blk_alloc ?_ _)); exact BK107.out) hb); have n3_ := Aside0.mk (below_step (by repeat (first | (with_reducible first | exact HB.out | apply below_alloc | apply pw_below_drewN | apply below_drew1 | refine below_set ?_ GE106.out | refine below_set ?_ GE107.out) | exact HB.out)) hb); clear BK106; clear BK107; clear HB; have HO110 := n0_; have BK106 := n1_; have BK107 := n2_; have HB := n3_; clear n0_ n1_ n2_ n3_; (try clear hb); (try clear hb2); (try clear hk); (try clear hi); (try clear ho0); obtain ⟨Ao8, co8, eo8⟩ := Kd.R_slice HO110.out; subst eo8; obtain ⟨hcz9_0, hcz9_1, hcz9_2⟩ := cel3 BK106.out; obtain ⟨hfz9_0, hfz9_1, hfz9_2⟩ := frz3 BK106.out; obtain ⟨hcz10_0, hcz10_1, hcz10_2⟩ := cel3 BK107.out; obtain ⟨hfz10_0, hfz10_1, hfz10_2⟩ := frz3 BK107.out))
 refine bodyPost_ret (results_cell_row rfl _ _ gb107 24 #[.int .i64 a0_0, .bool a0_1, .slice Ao8 t108.length co8] (0, 0) _ rfl (by (with_reducible repeat (first | refine blk_drewN ?_ _ | refine blk_drew ?_ | refine blk_alloc ?_ _)); refine blk_put (cs := #[.int .i64 a0_0, .bool a0_1, .slice none 0 0]) ?_ 2 _ rfl; (with_reducible repeat (first | refine blk_drewN ?_ _ | refine blk_drew ?_ | refine blk_alloc ?_ _)); refine blk_put (cs := #[.int .i64 a0_0, .bool false, .slice none 0 0]) ?_ 1 _ rfl; (with_reducible repeat (first | refine blk_drewN ?_ _ | refine blk_drew ?_ | refine blk_alloc ?_ _)); refine blk_put (cs := #[.int .i64 0, .bool false, .slice none 0 0]) ?_ 0 _ rfl; (with_reducible repeat (first | refine blk_drewN ?_ _ | refine blk_drew ?_ | refine blk_alloc ?_ _)); refine blk_far ?_ NB107_106.out _; (with_reducible repeat (first | refine blk_drewN ?_ _ | refine blk_drew ?_ | refine blk_alloc ?_ _)); exact BK107.out) Try.underlying24 rfl (by kernel_rfl)) rfl ?_
 exact ⟨_, by first | rfl | (simp [errW_none, errW_some] <;> rfl) | (simp [*, errW_none, errW_some] <;> rfl), by (with_reducible repeat (first | apply Kd.R_alloc | apply Kd.R_drewN | apply Kd.R_drew)); exact Kd.R_mono (Kd.R_far (p := ⟨gb107, 2, none⟩) (Kd.R_far (p := ⟨gb107, 1, none⟩) (Kd.R_far (p := ⟨gb107, 0, none⟩) (Kd.R_far (p := ⟨gb106, 2, none⟩) (Kd.R_types (Kd.R_types HO110.out BK106.out (by decide)) BK107.out (by decide)) (fun _ hk => hk.1.2) (.slice Ao8 t108.length co8)) (fun _ hk => hk.2) (.int .i64 a0_0)) (fun _ hk => hk.2) (.bool a0_1)) (fun _ hk => hk.2) (.slice Ao8 t108.length co8)) (fun _ hk => trivial), by repeat (first | (with_reducible first | exact HB.out | apply below_alloc | apply pw_below_drewN | apply below_drew1 | refine below_set ?_ GE106.out | refine below_set ?_ GE107.out) | exact HB.out)⟩
end Go.Proofs.Ytjhepdcdhabcjaa.G
namespace Go.Proofs.Ytjhepdcdhabcjaa.G
open Go.RowKit Go.Proofs.YtjhepdcdhabcjaaW.PrintWords Go.Proofs.YtjhepdcdhabcjaaW.PrintLast Go.Proofs.YtjhepdcdhabcjaaW.PrintMore
attribute [local go_sem] max2_int min2_int max_two min_two max_three min_three max_four min_four   -- for this text's walks alone
set_option linter.unusedVariables false
set_option linter.unusedSimpArgs false
def toc_packets.f (a0 : Int) (a1 : Int) : Option (Bool) := if a0 ≥ 1 then (if a1 ≥ 0 then (if a1 ≤ 1024 then (if a1 = 0 then (some true) else (some ((Int.tmod a0 a1) == 0))) else (some false)) else (some false)) else (some false)
set_option maxHeartbeats 8000000 in
set_option maxRecDepth 100000 in
theorem toc_packets.calls (a0 : Int) (a1 : Int) (r : Bool) (w : World) (h : toc_packets.f a0 a1 = some r) :
 Calls Try.prog 27 #[.int .i64 a0, .int .i64 a1] w fun e w' => e = .returned (.bool r) ∧ Drawn0 w w' := by
 have H : (if a0 ≥ 1 then (if a1 ≥ 0 then (if a1 ≤ 1024 then (if a1 = 0 then (some true) else (some ((Int.tmod a0 a1) == 0))) else (some false)) else (some false)) else (some false)) = some r := h
 clear h
 by_cases c3 : a0 ≥ 1
 · rw [if_pos c3] at H
   have c3b0 : decide (1 ≤ a0) = true := decide_eq_true c3
   clear c3
   by_cases c4 : a1 ≥ 0
   · rw [if_pos c4] at H
     have c4b0 : decide (0 ≤ a1) = true := decide_eq_true c4
     clear c4
     by_cases c5 : a1 ≤ 1024
     · rw [if_pos c5] at H
       have c5b0 : decide (a1 ≤ 1024) = true := decide_eq_true c5
       clear c5
       by_cases c6 : a1 = 0
       · rw [if_pos c6] at H
         have c6b0 : (a1 == 0) = true := beq_iff_eq.mpr c6
         have c6b1 : (a1 != 0) = false := bne_eq_false_iff_eq.mpr c6
         clear c6
         obtain rfl := Option.some.inj H
         go_enter Try.func27, Try.ntmps27
         go_wp2
         go_ret
         exact ⟨by first | rfl | (simp; done) | (simp [*]; done), by repeat (first | exact Drawn0.refl _ | apply Drawn0.step)⟩
       · rw [if_neg c6] at H
         have c6b0 : (a1 == 0) = false := beq_eq_false_iff_ne.mpr c6
         have c6b1 : (a1 != 0) = true := bne_iff_ne.mpr c6
         obtain rfl := Option.some.inj H
         go_enter Try.func27, Try.ntmps27
         go_wp2
         go_ret
         exact ⟨by first | rfl | (simp; done) | (simp [*]; done), by repeat (first | exact Drawn0.refl _ | apply Drawn0.step)⟩
     · rw [if_neg c5] at H
       have c5b0 : decide (a1 ≤ 1024) = false := decide_eq_false c5
       clear c5
       obtain rfl := Option.some.inj H
       go_enter Try.func27, Try.ntmps27
       go_wp2
       go_ret
       exact ⟨by first | rfl | (simp; done) | (simp [*]; done), by repeat (first | exact Drawn0.refl _ | apply Drawn0.step)⟩
   · rw [if_neg c4] at H
     have c4b0 : decide (0 ≤ a1) = false := decide_eq_false c4
     clear c4
     obtain rfl := Option.some.inj H
     go_enter Try.func27, Try.ntmps27
     go_wp2
     go_ret
     exact ⟨by first | rfl | (simp; done) | (simp [*]; done), by repeat (first | exact Drawn0.refl _ | apply Drawn0.step)⟩
 · rw [if_neg c3] at H
   have c3b0 : decide (1 ≤ a0) = false := decide_eq_false c3
   clear c3
   obtain rfl := Option.some.inj H
   go_enter Try.func27, Try.ntmps27
   go_wp2
   go_ret
   exact ⟨by first | rfl | (simp; done) | (simp [*]; done), by repeat (first | exact Drawn0.refl _ | apply Drawn0.step)⟩
end Go.Proofs.Ytjhepdcdhabcjaa.G
