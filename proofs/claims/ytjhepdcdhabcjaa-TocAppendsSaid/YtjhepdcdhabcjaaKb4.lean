/- Texts of one claim, merged by a program of this session; what is proved stands in the last of them. -/
import Derived.ChangeArms
import Derived.Deep.Slices
import Derived.Test.YtjhepdcdhabcjaaKb1
import Derived.Test.YtjhepdcdhabcjaaKb3
namespace Go.Proofs.Ytjhepdcdhabcjaa.G
open Go.RowKit Go.Proofs.YtjhepdcdhabcjaaW.PrintWords Go.Proofs.YtjhepdcdhabcjaaW.PrintLast Go.Proofs.YtjhepdcdhabcjaaW.PrintMore
attribute [local go_sem] max2_int min2_int max_two min_two max_three min_three max_four min_four   -- for this text's walks alone
set_option linter.unusedVariables false
set_option linter.unusedSimpArgs false
mutual
def masterdisclaw14_TocAppends.j0 : Nat → Int → List (S26) → Bool → Option (Bool)
 | 0, _, _, _ => none
 | k + 1, x0, x1, x30 => if x30 = true then (some true) else (if 0 ≤ x0 then (if (x0 : Int).toNat ≤ 281474976710656 then (masterdisclaw14_TocAppends.l0 k x0 (List.replicate (x0 : Int).toNat false) x1 (x1.length : Int) 0 0 false ([] : List (S40))) else (none)) else (none))
def masterdisclaw14_TocAppends.l0 : Nat → Int → List Bool → List (S26) → Int → Int → Int → Bool → List (S40) → Option (Bool)
 | 0, _, _, _, _, _, _, _, _ => none
 | k + 1, x0, x6, x34, x35, x36, x327000, x327001, x327002 => if x36 < x35 then (if 0 ≤ x36 then (if x36 < (x34.length : Int) then ((masterdisclaw14_do.f k x0 x327000 x327001 x327002 ((rd_T26 x34 x36).f0) ((rd_T26 x34 x36).f1) ((rd_T26 x34 x36).f2) ((rd_T26 x34 x36).f3)).bind fun bt332 => (if bt332.2.2.2 = 0 then (if ((rd_T26 x34 x36).f0) = 1 then (masterdisclaw14_TocAppends.l1 k x0 x6 x34 x35 x36 ((rd_T26 x34 x36).f2) 0 bt332.1 bt332.2.1 bt332.2.2.1 ((rd_T26 x34 x36).f0) ((rd_T26 x34 x36).f1) ((rd_T26 x34 x36).f2) ((rd_T26 x34 x36).f3)) else (masterdisclaw14_TocAppends.l0 k x0 x6 x34 x35 (wrap64 (x36 + 1)) bt332.1 bt332.2.1 bt332.2.2.1)) else (masterdisclaw14_TocAppends.l0 k x0 x6 x34 x35 (wrap64 (x36 + 1)) x327000 x327001 x327002))) else (none)) else (none)) else (masterdisclaw14_TocAppends.l2 k x0 x6 x327002 (x327002.length : Int) 0)
def masterdisclaw14_TocAppends.l1 : Nat → Int → List Bool → List (S26) → Int → Int → Int → Int → Int → Bool → List (S40) → Int → Int → Int → Bool → Option (Bool)
 | 0, _, _, _, _, _, _, _, _, _, _, _, _, _, _ => none
 | k + 1, x0, x6, x34, x35, x36, x54, x55, x327000, x327001, x327002, x332000, x332001, x332002, x332003 => if x55 < x54 then (if (wrap64 (x332001 + x55)) < 0 then (masterdisclaw14_TocAppends.j3 k x0 x6 (wrap64 (x332001 + x55)) x34 x35 x36 x54 x55 true x327000 x327001 x327002 x332000 x332001 x332002 x332003) else (if (wrap64 (x332001 + x55)) ≥ x0 then (masterdisclaw14_TocAppends.j3 k x0 x6 (wrap64 (x332001 + x55)) x34 x35 x36 x54 x55 true x327000 x327001 x327002 x332000 x332001 x332002 x332003) else (if 0 ≤ (wrap64 (x332001 + x55)) then (if (wrap64 (x332001 + x55)) < (x6.length : Int) then (masterdisclaw14_TocAppends.j3 k x0 x6 (wrap64 (x332001 + x55)) x34 x35 x36 x54 x55 (rdOf false x6 (wrap64 (x332001 + x55))) x327000 x327001 x327002 x332000 x332001 x332002 x332003) else (none)) else (none)))) else (masterdisclaw14_TocAppends.l0 k x0 x6 x34 x35 (wrap64 (x36 + 1)) x327000 x327001 x327002)
def masterdisclaw14_TocAppends.j3 : Nat → Int → List Bool → Int → List (S26) → Int → Int → Int → Int → Bool → Int → Bool → List (S40) → Int → Int → Int → Bool → Option (Bool)
 | 0, _, _, _, _, _, _, _, _, _, _, _, _, _, _, _, _ => none
 | k + 1, x0, x6, x12, x34, x35, x36, x54, x55, x74, x327000, x327001, x327002, x332000, x332001, x332002, x332003 => if x74 = true then (none) else (if 0 ≤ x12 then (if x12 < (x6.length : Int) then ((toc_Find.f k x327000 x327001 x327002 x12).bind fun bt341 => (if bt341.2 = true then (if bt341.1 < 1 then (none) else (if bt341.1 > (x327002.length : Int) then (none) else (if 0 ≤ (wrap64 (bt341.1 - 1)) then (if (wrap64 (bt341.1 - 1)) < (x327002.length : Int) then (if x12 ≥ ((rd_T40 x327002 (wrap64 (bt341.1 - 1))).f4) then (none) else (masterdisclaw14_TocAppends.l1 k x0 (x6.set (x12 : Int).toNat true) x34 x35 x36 x54 (wrap64 (x55 + 1)) x327000 x327001 x327002 x332000 x332001 x332002 x332003)) else (none)) else (none)))) else (none))) else (none)) else (none))
def masterdisclaw14_TocAppends.l2 : Nat → Int → List Bool → List (S40) → Int → Int → Option (Bool)
 | 0, _, _, _, _, _ => none
 | k + 1, x0, x6, x111, x112, x113 => if x113 < x112 then (if 0 ≤ x113 then (if x113 < (x111.length : Int) then (if ((rd_T40 x111 x113).f2) < 0 then (masterdisclaw14_TocAppends.j5 k x0 x6 x111 x112 x113 true ((rd_T40 x111 x113).f0) ((rd_T40 x111 x113).f1) ((rd_T40 x111 x113).f2) ((rd_T40 x111 x113).f3) ((rd_T40 x111 x113).f4) ((rd_T40 x111 x113).f5) ((rd_T40 x111 x113).f6)) else (masterdisclaw14_TocAppends.j5 k x0 x6 x111 x112 x113 (decide (((rd_T40 x111 x113).f4) > x0)) ((rd_T40 x111 x113).f0) ((rd_T40 x111 x113).f1) ((rd_T40 x111 x113).f2) ((rd_T40 x111 x113).f3) ((rd_T40 x111 x113).f4) ((rd_T40 x111 x113).f5) ((rd_T40 x111 x113).f6))) else (none)) else (none)) else (some true)
def masterdisclaw14_TocAppends.j5 : Nat → Int → List Bool → List (S40) → Int → Int → Bool → Int → Int → Int → Int → Int → Int → Int → Option (Bool)
 | 0, _, _, _, _, _, _, _, _, _, _, _, _, _ => none
 | k + 1, x0, x6, x111, x112, x113, x125, x346000, x346001, x346002, x346003, x346004, x346005, x346006 => if x125 = true then (none) else (masterdisclaw14_TocAppends.l3 k x0 x6 x346002 x111 x112 x113 x346000 x346001 x346002 x346003 x346004 x346005 x346006)
def masterdisclaw14_TocAppends.l3 : Nat → Int → List Bool → Int → List (S40) → Int → Int → Int → Int → Int → Int → Int → Int → Int → Option (Bool)
 | 0, _, _, _, _, _, _, _, _, _, _, _, _, _ => none
 | k + 1, x0, x6, x17, x111, x112, x113, x346000, x346001, x346002, x346003, x346004, x346005, x346006 => if x17 < x346004 then (if 0 ≤ x17 then (if x17 < (x6.length : Int) then (if rdOf false x6 x17 = true then (masterdisclaw14_TocAppends.l3 k x0 x6 (wrap64 (x17 + 1)) x111 x112 x113 x346000 x346001 x346002 x346003 x346004 x346005 x346006) else (none)) else (none)) else (none)) else (masterdisclaw14_TocAppends.l2 k x0 x6 x111 x112 (wrap64 (x113 + 1)))
end
def masterdisclaw14_TocAppends.f (k : Nat) (a0 : Int) (l1 : List (S26)) : Option (Bool) := (masterdisclaw14_awake.f k).bind fun t325 => (if t325 = true then (if (l1.length : Int) > 40 then (masterdisclaw14_TocAppends.j0 k a0 l1 true) else (if a0 < 1 then (masterdisclaw14_TocAppends.j0 k a0 l1 true) else (masterdisclaw14_TocAppends.j0 k a0 l1 (decide (a0 > 2000))))) else (none))
theorem masterdisclaw14_TocAppends.mono_l : ∀ k, (∀ y0 y1 y2, LeO (masterdisclaw14_TocAppends.j0 k y0 y1 y2) (masterdisclaw14_TocAppends.j0 (k + 1) y0 y1 y2)) ∧ (∀ y0 y1 y2 y3 y4 y5 y6 y7, LeO (masterdisclaw14_TocAppends.l0 k y0 y1 y2 y3 y4 y5 y6 y7) (masterdisclaw14_TocAppends.l0 (k + 1) y0 y1 y2 y3 y4 y5 y6 y7)) ∧ (∀ y0 y1 y2 y3 y4 y5 y6 y7 y8 y9 y10 y11 y12 y13, LeO (masterdisclaw14_TocAppends.l1 k y0 y1 y2 y3 y4 y5 y6 y7 y8 y9 y10 y11 y12 y13) (masterdisclaw14_TocAppends.l1 (k + 1) y0 y1 y2 y3 y4 y5 y6 y7 y8 y9 y10 y11 y12 y13)) ∧ (∀ y0 y1 y2 y3 y4 y5 y6 y7 y8 y9 y10 y11 y12 y13 y14 y15, LeO (masterdisclaw14_TocAppends.j3 k y0 y1 y2 y3 y4 y5 y6 y7 y8 y9 y10 y11 y12 y13 y14 y15) (masterdisclaw14_TocAppends.j3 (k + 1) y0 y1 y2 y3 y4 y5 y6 y7 y8 y9 y10 y11 y12 y13 y14 y15)) ∧ (∀ y0 y1 y2 y3 y4, LeO (masterdisclaw14_TocAppends.l2 k y0 y1 y2 y3 y4) (masterdisclaw14_TocAppends.l2 (k + 1) y0 y1 y2 y3 y4)) ∧ (∀ y0 y1 y2 y3 y4 y5 y6 y7 y8 y9 y10 y11 y12, LeO (masterdisclaw14_TocAppends.j5 k y0 y1 y2 y3 y4 y5 y6 y7 y8 y9 y10 y11 y12) (masterdisclaw14_TocAppends.j5 (k + 1) y0 y1 y2 y3 y4 y5 y6 y7 y8 y9 y10 y11 y12)) ∧ (∀ y0 y1 y2 y3 y4 y5 y6 y7 y8 y9 y10 y11 y12, LeO (masterdisclaw14_TocAppends.l3 k y0 y1 y2 y3 y4 y5 y6 y7 y8 y9 y10 y11 y12) (masterdisclaw14_TocAppends.l3 (k + 1) y0 y1 y2 y3 y4 y5 y6 y7 y8 y9 y10 y11 y12))
 | 0 => ⟨fun _ _ _ r h => by simp [masterdisclaw14_TocAppends.j0] at h, fun _ _ _ _ _ _ _ _ r h => by simp [masterdisclaw14_TocAppends.l0] at h, fun _ _ _ _ _ _ _ _ _ _ _ _ _ _ r h => by simp [masterdisclaw14_TocAppends.l1] at h, fun _ _ _ _ _ _ _ _ _ _ _ _ _ _ _ _ r h => by simp [masterdisclaw14_TocAppends.j3] at h, fun _ _ _ _ _ r h => by simp [masterdisclaw14_TocAppends.l2] at h, fun _ _ _ _ _ _ _ _ _ _ _ _ _ r h => by simp [masterdisclaw14_TocAppends.j5] at h, fun _ _ _ _ _ _ _ _ _ _ _ _ _ r h => by simp [masterdisclaw14_TocAppends.l3] at h⟩
 | k + 1 => by
  obtain ⟨ih0, ih1, ih2, ih3, ih4, ih5, ih6⟩ := masterdisclaw14_TocAppends.mono_l k
  refine ⟨?_, ?_, ?_, ?_, ?_, ?_, ?_⟩
  · intro y0 y1 y2
    unfold masterdisclaw14_TocAppends.j0
    repeat' first
    | (with_reducible exact ih0 _ _ _)
    | (with_reducible exact ih1 _ _ _ _ _ _ _ _)
    | (with_reducible exact ih2 _ _ _ _ _ _ _ _ _ _ _ _ _ _)
    | (with_reducible exact ih3 _ _ _ _ _ _ _ _ _ _ _ _ _ _ _ _)
    | (with_reducible exact ih4 _ _ _ _ _)
    | (with_reducible exact ih5 _ _ _ _ _ _ _ _ _ _ _ _ _)
    | (with_reducible exact ih6 _ _ _ _ _ _ _ _ _ _ _ _ _)
    | (with_reducible exact masterdisclaw14_awake.mono _)
    | (with_reducible exact masterdisclaw14_do.mono _ _ _ _ _ _ _ _ _)
    | (with_reducible exact toc_Find.mono _ _ _ _ _)
    | (with_reducible exact LeO.refl _)
    | (with_reducible exact LeO.none _)
    | (with_reducible refine LeO.ite ?_ ?_)
    | (with_reducible refine LeO.bind ?_ (fun _ => ?_))
    | exact ih0 _ _ _
    | exact ih1 _ _ _ _ _ _ _ _
    | exact ih2 _ _ _ _ _ _ _ _ _ _ _ _ _ _
    | exact ih3 _ _ _ _ _ _ _ _ _ _ _ _ _ _ _ _
    | exact ih4 _ _ _ _ _
    | exact ih5 _ _ _ _ _ _ _ _ _ _ _ _ _
    | exact ih6 _ _ _ _ _ _ _ _ _ _ _ _ _
    | exact masterdisclaw14_awake.mono _
    | exact masterdisclaw14_do.mono _ _ _ _ _ _ _ _ _
    | exact toc_Find.mono _ _ _ _ _
    | exact LeO.none _
    | refine LeO.ite ?_ ?_
    | refine LeO.bind ?_ (fun _ => ?_)
  · intro y0 y1 y2 y3 y4 y5 y6 y7
    unfold masterdisclaw14_TocAppends.l0
    repeat' first
    | (with_reducible exact ih0 _ _ _)
    | (with_reducible exact ih1 _ _ _ _ _ _ _ _)
    | (with_reducible exact ih2 _ _ _ _ _ _ _ _ _ _ _ _ _ _)
    | (with_reducible exact ih3 _ _ _ _ _ _ _ _ _ _ _ _ _ _ _ _)
    | (with_reducible exact ih4 _ _ _ _ _)
    | (with_reducible exact ih5 _ _ _ _ _ _ _ _ _ _ _ _ _)
    | (with_reducible exact ih6 _ _ _ _ _ _ _ _ _ _ _ _ _)
    | (with_reducible exact masterdisclaw14_awake.mono _)
    | (with_reducible exact masterdisclaw14_do.mono _ _ _ _ _ _ _ _ _)
    | (with_reducible exact toc_Find.mono _ _ _ _ _)
    | (with_reducible exact LeO.refl _)
    | (with_reducible exact LeO.none _)
    | (with_reducible refine LeO.ite ?_ ?_)
    | (with_reducible refine LeO.bind ?_ (fun _ => ?_))
    | exact ih0 _ _ _
    | exact ih1 _ _ _ _ _ _ _ _
    | exact ih2 _ _ _ _ _ _ _ _ _ _ _ _ _ _
    | exact ih3 _ _ _ _ _ _ _ _ _ _ _ _ _ _ _ _
    | exact ih4 _ _ _ _ _
    | exact ih5 _ _ _ _ _ _ _ _ _ _ _ _ _
    | exact ih6 _ _ _ _ _ _ _ _ _ _ _ _ _
    | exact masterdisclaw14_awake.mono _
    | exact masterdisclaw14_do.mono _ _ _ _ _ _ _ _ _
    | exact toc_Find.mono _ _ _ _ _
    | exact LeO.none _
    | refine LeO.ite ?_ ?_
    | refine LeO.bind ?_ (fun _ => ?_)
  · intro y0 y1 y2 y3 y4 y5 y6 y7 y8 y9 y10 y11 y12 y13
    unfold masterdisclaw14_TocAppends.l1
    repeat' first
    | (with_reducible exact ih0 _ _ _)
    | (with_reducible exact ih1 _ _ _ _ _ _ _ _)
    | (with_reducible exact ih2 _ _ _ _ _ _ _ _ _ _ _ _ _ _)
    | (with_reducible exact ih3 _ _ _ _ _ _ _ _ _ _ _ _ _ _ _ _)
    | (with_reducible exact ih4 _ _ _ _ _)
    | (with_reducible exact ih5 _ _ _ _ _ _ _ _ _ _ _ _ _)
    | (with_reducible exact ih6 _ _ _ _ _ _ _ _ _ _ _ _ _)
    | (with_reducible exact masterdisclaw14_awake.mono _)
    | (with_reducible exact masterdisclaw14_do.mono _ _ _ _ _ _ _ _ _)
    | (with_reducible exact toc_Find.mono _ _ _ _ _)
    | (with_reducible exact LeO.refl _)
    | (with_reducible exact LeO.none _)
    | (with_reducible refine LeO.ite ?_ ?_)
    | (with_reducible refine LeO.bind ?_ (fun _ => ?_))
    | exact ih0 _ _ _
    | exact ih1 _ _ _ _ _ _ _ _
    | exact ih2 _ _ _ _ _ _ _ _ _ _ _ _ _ _
    | exact ih3 _ _ _ _ _ _ _ _ _ _ _ _ _ _ _ _
    | exact ih4 _ _ _ _ _
    | exact ih5 _ _ _ _ _ _ _ _ _ _ _ _ _
    | exact ih6 _ _ _ _ _ _ _ _ _ _ _ _ _
    | exact masterdisclaw14_awake.mono _
    | exact masterdisclaw14_do.mono _ _ _ _ _ _ _ _ _
    | exact toc_Find.mono _ _ _ _ _
    | exact LeO.none _
    | refine LeO.ite ?_ ?_
    | refine LeO.bind ?_ (fun _ => ?_)
  · intro y0 y1 y2 y3 y4 y5 y6 y7 y8 y9 y10 y11 y12 y13 y14 y15
    unfold masterdisclaw14_TocAppends.j3
    repeat' first
    | (with_reducible exact ih0 _ _ _)
    | (with_reducible exact ih1 _ _ _ _ _ _ _ _)
    | (with_reducible exact ih2 _ _ _ _ _ _ _ _ _ _ _ _ _ _)
    | (with_reducible exact ih3 _ _ _ _ _ _ _ _ _ _ _ _ _ _ _ _)
    | (with_reducible exact ih4 _ _ _ _ _)
    | (with_reducible exact ih5 _ _ _ _ _ _ _ _ _ _ _ _ _)
    | (with_reducible exact ih6 _ _ _ _ _ _ _ _ _ _ _ _ _)
    | (with_reducible exact masterdisclaw14_awake.mono _)
    | (with_reducible exact masterdisclaw14_do.mono _ _ _ _ _ _ _ _ _)
    | (with_reducible exact toc_Find.mono _ _ _ _ _)
    | (with_reducible exact LeO.refl _)
    | (with_reducible exact LeO.none _)
    | (with_reducible refine LeO.ite ?_ ?_)
    | (with_reducible refine LeO.bind ?_ (fun _ => ?_))
    | exact ih0 _ _ _
    | exact ih1 _ _ _ _ _ _ _ _
    | exact ih2 _ _ _ _ _ _ _ _ _ _ _ _ _ _
    | exact ih3 _ _ _ _ _ _ _ _ _ _ _ _ _ _ _ _
    | exact ih4 _ _ _ _ _
    | exact ih5 _ _ _ _ _ _ _ _ _ _ _ _ _
    | exact ih6 _ _ _ _ _ _ _ _ _ _ _ _ _
    | exact masterdisclaw14_awake.mono _
    | exact masterdisclaw14_do.mono _ _ _ _ _ _ _ _ _
    | exact toc_Find.mono _ _ _ _ _
    | exact LeO.none _
    | refine LeO.ite ?_ ?_
    | refine LeO.bind ?_ (fun _ => ?_)
  · intro y0 y1 y2 y3 y4
    unfold masterdisclaw14_TocAppends.l2
    repeat' first
    | (with_reducible exact ih0 _ _ _)
    | (with_reducible exact ih1 _ _ _ _ _ _ _ _)
    | (with_reducible exact ih2 _ _ _ _ _ _ _ _ _ _ _ _ _ _)
    | (with_reducible exact ih3 _ _ _ _ _ _ _ _ _ _ _ _ _ _ _ _)
    | (with_reducible exact ih4 _ _ _ _ _)
    | (with_reducible exact ih5 _ _ _ _ _ _ _ _ _ _ _ _ _)
    | (with_reducible exact ih6 _ _ _ _ _ _ _ _ _ _ _ _ _)
    | (with_reducible exact masterdisclaw14_awake.mono _)
    | (with_reducible exact masterdisclaw14_do.mono _ _ _ _ _ _ _ _ _)
    | (with_reducible exact toc_Find.mono _ _ _ _ _)
    | (with_reducible exact LeO.refl _)
    | (with_reducible exact LeO.none _)
    | (with_reducible refine LeO.ite ?_ ?_)
    | (with_reducible refine LeO.bind ?_ (fun _ => ?_))
    | exact ih0 _ _ _
    | exact ih1 _ _ _ _ _ _ _ _
    | exact ih2 _ _ _ _ _ _ _ _ _ _ _ _ _ _
    | exact ih3 _ _ _ _ _ _ _ _ _ _ _ _ _ _ _ _
    | exact ih4 _ _ _ _ _
    | exact ih5 _ _ _ _ _ _ _ _ _ _ _ _ _
    | exact ih6 _ _ _ _ _ _ _ _ _ _ _ _ _
    | exact masterdisclaw14_awake.mono _
    | exact masterdisclaw14_do.mono _ _ _ _ _ _ _ _ _
    | exact toc_Find.mono _ _ _ _ _
    | exact LeO.none _
    | refine LeO.ite ?_ ?_
    | refine LeO.bind ?_ (fun _ => ?_)
  · intro y0 y1 y2 y3 y4 y5 y6 y7 y8 y9 y10 y11 y12
    unfold masterdisclaw14_TocAppends.j5
    repeat' first
    | (with_reducible exact ih0 _ _ _)
    | (with_reducible exact ih1 _ _ _ _ _ _ _ _)
    | (with_reducible exact ih2 _ _ _ _ _ _ _ _ _ _ _ _ _ _)
    | (with_reducible exact ih3 _ _ _ _ _ _ _ _ _ _ _ _ _ _ _ _)
    | (with_reducible exact ih4 _ _ _ _ _)
    | (with_reducible exact ih5 _ _ _ _ _ _ _ _ _ _ _ _ _)
    | (with_reducible exact ih6 _ _ _ _ _ _ _ _ _ _ _ _ _)
    | (with_reducible exact masterdisclaw14_awake.mono _)
    | (with_reducible exact masterdisclaw14_do.mono _ _ _ _ _ _ _ _ _)
    | (with_reducible exact toc_Find.mono _ _ _ _ _)
    | (with_reducible exact LeO.refl _)
    | (with_reducible exact LeO.none _)
    | (with_reducible refine LeO.ite ?_ ?_)
    | (with_reducible refine LeO.bind ?_ (fun _ => ?_))
    | exact ih0 _ _ _
    | exact ih1 _ _ _ _ _ _ _ _
    | exact ih2 _ _ _ _ _ _ _ _ _ _ _ _ _ _
    | exact ih3 _ _ _ _ _ _ _ _ _ _ _ _ _ _ _ _
    | exact ih4 _ _ _ _ _
    | exact ih5 _ _ _ _ _ _ _ _ _ _ _ _ _
    | exact ih6 _ _ _ _ _ _ _ _ _ _ _ _ _
    | exact masterdisclaw14_awake.mono _
    | exact masterdisclaw14_do.mono _ _ _ _ _ _ _ _ _
    | exact toc_Find.mono _ _ _ _ _
    | exact LeO.none _
    | refine LeO.ite ?_ ?_
    | refine LeO.bind ?_ (fun _ => ?_)
  · intro y0 y1 y2 y3 y4 y5 y6 y7 y8 y9 y10 y11 y12
    unfold masterdisclaw14_TocAppends.l3
    repeat' first
    | (with_reducible exact ih0 _ _ _)
    | (with_reducible exact ih1 _ _ _ _ _ _ _ _)
    | (with_reducible exact ih2 _ _ _ _ _ _ _ _ _ _ _ _ _ _)
    | (with_reducible exact ih3 _ _ _ _ _ _ _ _ _ _ _ _ _ _ _ _)
    | (with_reducible exact ih4 _ _ _ _ _)
    | (with_reducible exact ih5 _ _ _ _ _ _ _ _ _ _ _ _ _)
    | (with_reducible exact ih6 _ _ _ _ _ _ _ _ _ _ _ _ _)
    | (with_reducible exact masterdisclaw14_awake.mono _)
    | (with_reducible exact masterdisclaw14_do.mono _ _ _ _ _ _ _ _ _)
    | (with_reducible exact toc_Find.mono _ _ _ _ _)
    | (with_reducible exact LeO.refl _)
    | (with_reducible exact LeO.none _)
    | (with_reducible refine LeO.ite ?_ ?_)
    | (with_reducible refine LeO.bind ?_ (fun _ => ?_))
    | exact ih0 _ _ _
    | exact ih1 _ _ _ _ _ _ _ _
    | exact ih2 _ _ _ _ _ _ _ _ _ _ _ _ _ _
    | exact ih3 _ _ _ _ _ _ _ _ _ _ _ _ _ _ _ _
    | exact ih4 _ _ _ _ _
    | exact ih5 _ _ _ _ _ _ _ _ _ _ _ _ _
    | exact ih6 _ _ _ _ _ _ _ _ _ _ _ _ _
    | exact masterdisclaw14_awake.mono _
    | exact masterdisclaw14_do.mono _ _ _ _ _ _ _ _ _
    | exact toc_Find.mono _ _ _ _ _
    | exact LeO.none _
    | refine LeO.ite ?_ ?_
    | refine LeO.bind ?_ (fun _ => ?_)
theorem masterdisclaw14_TocAppends.mono : ∀ a0 a1 k, LeO (masterdisclaw14_TocAppends.f k a0 a1) (masterdisclaw14_TocAppends.f (k + 1) a0 a1) := by
 intro a0 a1 k
 obtain ⟨ih0, ih1, ih2, ih3, ih4, ih5, ih6⟩ := masterdisclaw14_TocAppends.mono_l k
 unfold masterdisclaw14_TocAppends.f
 repeat' first
  | (with_reducible exact ih0 _ _ _)
  | (with_reducible exact ih1 _ _ _ _ _ _ _ _)
  | (with_reducible exact ih2 _ _ _ _ _ _ _ _ _ _ _ _ _ _)
  | (with_reducible exact ih3 _ _ _ _ _ _ _ _ _ _ _ _ _ _ _ _)
  | (with_reducible exact ih4 _ _ _ _ _)
  | (with_reducible exact ih5 _ _ _ _ _ _ _ _ _ _ _ _ _)
  | (with_reducible exact ih6 _ _ _ _ _ _ _ _ _ _ _ _ _)
  | (with_reducible exact masterdisclaw14_awake.mono _)
  | (with_reducible exact masterdisclaw14_do.mono _ _ _ _ _ _ _ _ _)
  | (with_reducible exact toc_Find.mono _ _ _ _ _)
  | (with_reducible exact LeO.refl _)
  | (with_reducible exact LeO.none _)
  | (with_reducible refine LeO.ite ?_ ?_)
  | (with_reducible refine LeO.bind ?_ (fun _ => ?_))
  | exact ih0 _ _ _
  | exact ih1 _ _ _ _ _ _ _ _
  | exact ih2 _ _ _ _ _ _ _ _ _ _ _ _ _ _
  | exact ih3 _ _ _ _ _ _ _ _ _ _ _ _ _ _ _ _
  | exact ih4 _ _ _ _ _
  | exact ih5 _ _ _ _ _ _ _ _ _ _ _ _ _
  | exact ih6 _ _ _ _ _ _ _ _ _ _ _ _ _
  | exact masterdisclaw14_awake.mono _
  | exact masterdisclaw14_do.mono _ _ _ _ _ _ _ _ _
  | exact toc_Find.mono _ _ _ _ _
  | exact LeO.none _
  | refine LeO.ite ?_ ?_
  | refine LeO.bind ?_ (fun _ => ?_)
set_option maxHeartbeats 8000000 in
set_option maxRecDepth 100000 in
theorem masterdisclaw14_TocAppends.calls (k : Nat) (a0 : Int) (A1 : Option Addr) (c1 : Nat) (l1 : List (S26)) (r : Bool) (w : World) (hr1 : Kd.C k26 w A1 l1.length l1) (hc1 : l1.length ≤ c1) (h : masterdisclaw14_TocAppends.f k a0 l1 = some r) :
 Calls Try.prog 4 #[.int .i64 a0, .slice A1 l1.length c1] w fun e w' => e = .returned (.bool r) ∧ Below w.heap.size w w' := by
 have hu24 := Try.underlying24
 have hu26 := Try.underlying26
 have hu40 := Try.underlying40
 have HR1 := Aside0.mk hr1
 have HC1 := Aside0.mk hc1
 clear hr1 hc1
 have HB := Aside0.mk (Below.refl w.heap.size w)
 have H : ((masterdisclaw14_awake.f k).bind fun t325 => (if t325 = true then (if (l1.length : Int) > 40 then (masterdisclaw14_TocAppends.j0 k a0 l1 true) else (if a0 < 1 then (masterdisclaw14_TocAppends.j0 k a0 l1 true) else (masterdisclaw14_TocAppends.j0 k a0 l1 (decide (a0 > 2000))))) else (none))) = some r := h
 clear h
 replace H := Option.bind_eq_some_iff.mp H
 obtain ⟨t325, A30, H⟩ := H
 replace H : (if t325 = true then (if (l1.length : Int) > 40 then (masterdisclaw14_TocAppends.j0 k a0 l1 true) else (if a0 < 1 then (masterdisclaw14_TocAppends.j0 k a0 l1 true) else (masterdisclaw14_TocAppends.j0 k a0 l1 (decide (a0 > 2000))))) else (none)) = some r := H
 have A3 := Aside0.mk A30
 clear A30
 by_cases c4 : t325 = true
 · subst c4
   have H1 : (if (l1.length : Int) > 40 then (masterdisclaw14_TocAppends.j0 k a0 l1 true) else (if a0 < 1 then (masterdisclaw14_TocAppends.j0 k a0 l1 true) else (masterdisclaw14_TocAppends.j0 k a0 l1 (decide (a0 > 2000))))) = some r := by rw [if_pos rfl] at H; exact H
   clear H
   have H := H1
   clear H1
   have HC5 := Aside0.mk H
   clear H
   go_enter Try.func4, Try.ntmps4
   go_upto_region 3 with (first | ((with_reducible refine gate_callee (f := 6) rfl ?_); refine goesL_ (some 18) rfl rfl Try.func6 (by kernel_rfl) rfl #[] rfl (by (try simp only [List.map_toArray, List.map_cons, List.map_nil]); first | done | rfl | (simp only [List.length_drop, List.length_take]; rfl)) ?_; (with_reducible refine (masterdisclaw14_awake.calls k  true _ A3.out).mono ?_); rintro e w6 ⟨rfl, hb⟩; refine ⟨_, rfl, ?_⟩; have n0_ := Aside0.mk (below_step (by repeat (first | (with_reducible first | exact HB.out | apply below_alloc | apply pw_below_drewN | apply below_drew1) | exact HB.out)) hb); clear HB; have HB := n0_; clear n0_; (try clear hb); (try clear hb2); (try clear hk); (try clear hi)))
   (try simp only [Act.put, List.setIfInBounds_toArray, List.set_cons_zero, List.set_cons_succ])
   go_cut [30] (fun v30 wc => ∃ (kq : Nat) (x30_4 : Bool), v30 = .bool x30_4 ∧ Aside0 (masterdisclaw14_TocAppends.j0 kq a0 l1 x30_4 = some r) ∧ Aside0 (kq ≤ k) ∧ Aside0 (Below w.heap.size w wc))
   case first =>
    have H := HC5.out
    clear HC5
    by_cases c7 : (l1.length : Int) > 40
    · rw [if_pos c7] at H
      have c7b0 : decide (40 < (l1.length : Int)) = true := decide_eq_true c7
      have c7b1 : decide (40 < l1.length) = true := decide_eq_true (by omega)
      clear c7
      (first | rw [c7b0] | (simp only [i64_w, i32_w]; rw [c7b0]) | skip)
      have H' := Aside0.mk H
      clear H
      go_wp2
      go_meet
      case rel => exact ⟨_, (true), (by first | rfl | (simp; done) | (simp [*]; done)), H', ⟨by first | omega | exact Nat.le_refl _⟩, ⟨by repeat (first | (with_reducible first | exact HB.out | apply below_alloc | apply pw_below_drewN | apply below_drew1) | exact HB.out)⟩⟩
    · rw [if_neg c7] at H
      have c7b0 : decide (40 < (l1.length : Int)) = false := decide_eq_false c7
      have c7b1 : decide (40 < l1.length) = false := decide_eq_false (by omega)
      clear c7
      (first | rw [c7b0] | (simp only [i64_w, i32_w]; rw [c7b0]) | skip)
      by_cases c8 : a0 < 1
      · rw [if_pos c8] at H
        have c8b0 : decide (a0 < 1) = true := decide_eq_true c8
        clear c8
        have H' := Aside0.mk H
        clear H
        go_wp2
        go_meet
        case rel => exact ⟨_, (true), (by first | rfl | (simp; done) | (simp [*]; done)), H', ⟨by first | omega | exact Nat.le_refl _⟩, ⟨by repeat (first | (with_reducible first | exact HB.out | apply below_alloc | apply pw_below_drewN | apply below_drew1) | exact HB.out)⟩⟩
      · rw [if_neg c8] at H
        have c8b0 : decide (a0 < 1) = false := decide_eq_false c8
        clear c8
        have H' := Aside0.mk H
        clear H
        go_wp2
        go_meet
        case rel => exact ⟨_, (decide (a0 > 2000)), (by first | rfl | (simp; done) | (simp [*]; done)), H', ⟨by first | omega | exact Nat.le_refl _⟩, ⟨by repeat (first | (with_reducible first | exact HB.out | apply below_alloc | apply pw_below_drewN | apply below_drew1) | exact HB.out)⟩⟩
   case rest =>
    clear HC5
    try clear c1
    try clear p2
    try clear c4
    try clear c6
    try clear c7
    try clear c7b0
    try clear c7b1
    try clear c8
    try clear c8b0
    obtain ⟨kq, x30_4, rfl, HA, HJ4, HB⟩ := hcut
    cases kq with
    | zero => exact absurd HA.out (by simp [masterdisclaw14_TocAppends.j0])
    | succ kj4 =>
     have H := HA.out
     clear HA
     simp only [masterdisclaw14_TocAppends.j0] at H
     by_cases c9 : x30_4 = true
     · subst c9
       have H1 : (some true) = some r := by rw [if_pos rfl] at H; exact H
       clear H
       have H := H1
       clear H1
       obtain rfl := Option.some.inj H
       go_wp2
       go_ret
       exact ⟨by first | rfl | (simp [errW_none, errW_some] <;> rfl) | (simp [*, errW_none, errW_some] <;> rfl), by repeat (first | (with_reducible first | exact HB.out | apply below_alloc | apply pw_below_drewN | apply below_drew1) | exact HB.out)⟩
     · replace c9 := Bool.eq_false_iff.mpr c9
       subst c9
       have H1 : (if 0 ≤ a0 then (if (a0 : Int).toNat ≤ 281474976710656 then (masterdisclaw14_TocAppends.l0 kj4 a0 (List.replicate (a0 : Int).toNat false) l1 (l1.length : Int) 0 0 false ([] : List (S40))) else (none)) else (none)) = some r := by rw [if_neg (show ¬ (false = true) by decide)] at H; exact H
       clear H
       have H := H1
       clear H1
       by_cases c10 : 0 ≤ a0
       · rw [if_pos c10] at H
         have c10b0 := eq_true c10
         have c10b1 : decide (0 ≤ a0) = true := decide_eq_true c10
         clear c10
         by_cases c11 : (a0 : Int).toNat ≤ 281474976710656
         · rw [if_pos c11] at H
           have c11b0 := eq_true c11
           have c11b1 : decide ((a0 : Int).toNat ≤ 281474976710656) = true := decide_eq_true c11
           clear c11
           obtain ⟨y327, hy327⟩ : ∃ y_ : List Bool, y_ = (List.replicate (a0 : Int).toNat false) := ⟨_, rfl⟩
           replace H : (masterdisclaw14_TocAppends.l0 kj4 a0 y327 l1 (l1.length : Int) 0 0 false ([] : List (S40))) = some r := by first | (rw [hy327]; with_reducible exact H) | (have H2_ := (Option.bind_some _ _).symm.trans H; rw [hy327]; with_reducible exact H2_) | (have H2_ := (Option.bind_some _ _).symm.trans H; with_reducible exact H2_) | with_reducible exact H | (rw [hy327]; exact H) | exact H
           have Ny327 := Aside0.mk hy327
           clear hy327
           have H' := Aside0.mk H
           clear H
           go_wp2_with (first | ((with_reducible refine gate_dst (N := 5) rfl ?_); (try (refine gate_guard (by rfl) ?_; dsimp only)); refine box_event ?hg (N := 5) ?hd (cs := #[.int .i64 0, .bool false, .slice none 0 0]) (t := 24) ?hr ?_; (case hd => rfl); (case hg => rfl); (case hr => first | (go_simp; done) | (go_simp; rfl)); intro gb326 hg w12 hbox hb; have n0_ := Aside0.mk (below_step (by repeat (first | (with_reducible first | exact HB.out | apply below_alloc | apply pw_below_drewN | apply below_drew1) | exact HB.out)) hb); have n1_ := Aside0.mk (hbox); have n2_ := Aside0.mk ((by rw [hg]; exact (below_size (by repeat (first | (with_reducible first | exact HB.out | apply below_alloc | apply pw_below_drewN | apply below_drew1) | exact HB.out))) : w.heap.size ≤ gb326)); have n3_ := Aside0.mk ((by rw [hg]; exact (below_size (by repeat (first | (with_reducible first | exact HB.out | apply below_alloc | apply pw_below_drewN | apply below_drew1) | exact HB.out))) : w.heap.size ≤ gb326)); clear HB; have HB := n0_; have BK326 := n1_; have GW326 := n2_; have GE326 := n3_; clear n0_ n1_ n2_ n3_; clear hb hbox hg; obtain ⟨hcz13_0, hcz13_1, hcz13_2⟩ := cel3 BK326.out; obtain ⟨hfz13_0, hfz13_1, hfz13_2⟩ := frz3 BK326.out) | ((with_reducible refine gate_dst (N := 33) rfl ?_); (try (refine gate_guard (by rfl) ?_; dsimp only)); refine Kd.R_make Kd.bool _ 4 rfl (N := 33) rfl 36 _ _ rfl a0 rfl rfl Try.underlying36 (.bool false) 1 info4 rfl (by decide) (by omega) false (ok := fun _ => True) (okp := fun _ => True) rfl (fun _ hk => hk) trivial (of_decide_eq_true (by first | (with_reducible assumption) | assumption)) (Nat.le_trans (Nat.mul_le_mul_right _ (of_decide_eq_true (by first | (with_reducible assumption) | assumption) : a0.toNat ≤ 281474976710656)) (by omega)) (Below.refl _ _) (Nat.le_refl _) ?_; intro v328 w14 ho15 hb hg_ hnew_; clear hg_ hnew_; (first | rw [← Ny327.out] at ho15 | (simp only [Int.reduceToNat] at ho15; rw [← Ny327.out] at ho15)); have n0_ := Aside0.mk (Kd.R_lower ho15 (below_size (by repeat (first | (with_reducible first | exact HB.out | apply below_alloc | apply pw_below_drewN | apply below_drew1 | refine below_set ?_ GE326.out) | exact HB.out)))); have n1_ := Aside0.mk (blk_below (g := gb326) (o := .cells #[.int .i64 0, .bool false, .slice none 0 0] 24 (0, 0)) (by (with_reducible repeat (first | refine blk_drewN ?_ _ | refine blk_drew ?_ | refine blk_alloc ?_ _)); refine blk_put (cs := #[.int .i64 0, .bool false, .slice none 0 0]) ?_ 2 _ rfl; (with_reducible repeat (first | refine blk_drewN ?_ _ | refine blk_drew ?_ | refine blk_alloc ?_ _)); refine blk_put (cs := #[.int .i64 0, .bool false, .slice none 0 0]) ?_ 1 _ rfl; (with_reducible repeat (first | refine blk_drewN ?_ _ | refine blk_drew ?_ | refine blk_alloc ?_ _)); refine blk_put (cs := #[.int .i64 0, .bool false, .slice none 0 0]) ?_ 0 _ rfl; (with_reducible repeat (first | refine blk_drewN ?_ _ | refine blk_drew ?_ | refine blk_alloc ?_ _)); exact BK326.out) hb); have n2_ := Aside0.mk (below_step (by repeat (first | (with_reducible first | exact HB.out | apply below_alloc | apply pw_below_drewN | apply below_drew1 | refine below_set ?_ GE326.out) | exact HB.out)) hb); clear BK326; clear HB; have HO329 := n0_; have BK326 := n1_; have HB := n2_; clear n0_ n1_ n2_; clear hb ho15))
           go_loopg [36] kj4 (fun kq v36 w' => ∃ (x6_2 : List Bool) (x36_2 : Int) (x327000_2 : Int) (x327001_2 : Bool) (x327002_2 : List (S40)) (u327002 : Value), v36 = .int .i64 x36_2 ∧ Aside0 (masterdisclaw14_TocAppends.l0 kq a0 x6_2 l1 (l1.length : Int) x36_2 x327000_2 x327001_2 x327002_2 = some r) ∧ Aside0 (kq ≤ kj4) ∧ Aside0 (Kd.R Kd.bool 4 w' w.heap.size (fun _ => True) v328 x6_2) ∧ Aside0 (Kd.R k40 40 w' w.heap.size (fun _ => True) u327002 x327002_2) ∧ Aside0 (w'.heap[gb326]? = some (.cells #[.int .i64 x327000_2, .bool x327001_2, u327002] 24 (0, 0))) ∧ Aside0 (Below w.heap.size w w'))
           case atStart => exact ⟨(y327), (0), (0), (false), (([] : List (S40))), (.slice none 0 0), (by first | rfl | (simp; done) | (simp [*]; done)), H', ⟨Nat.le_refl _⟩, ⟨by (with_reducible repeat (first | apply Kd.R_alloc | apply Kd.R_drewN | apply Kd.R_drew)); exact HO329.out⟩, ⟨by first | exact Kd.R_nil _ _ _ _ _ | exact Kd.N_nil _ _ _ _ _ | exact Kd.V_nil _ _ _ _ _ | exact Kd.Q_nil _ _ _ _ _ | exact Kd.S_nil _ _ _ _ _⟩, ⟨by (with_reducible repeat (first | refine blk_drewN ?_ _ | refine blk_drew ?_ | refine blk_alloc ?_ _)); exact BK326.out⟩, ⟨by repeat (first | (with_reducible first | exact HB.out | apply below_alloc | apply pw_below_drewN | apply below_drew1 | refine below_set ?_ GE326.out) | exact HB.out)⟩⟩
           case round =>
            clear H'
            try clear c1
            try clear p2
            try clear c4
            try clear c6
            try clear c7
            try clear c7b0
            try clear c7b1
            try clear c8
            try clear c8b0
            try clear c9
            try clear c10
            try clear c10b0
            try clear c10b1
            try clear c11
            try clear c11b0
            try clear c11b1
            try clear hcz13_0
            try clear hcz13_1
            try clear hcz13_2
            try clear hfz13_0
            try clear hfz13_1
            try clear hfz13_2
            try clear p2
            obtain ⟨x6_2, x36_2, x327000_2, x327001_2, x327002_2, u327002, rfl, HA, HK2, HO_6, HO_327002, BK326, HB⟩ := hrel
            cases gk with
            | zero => exact absurd HA.out (by simp [masterdisclaw14_TocAppends.l0])
            | succ k2 =>
             have H := HA.out
             clear HA
             simp only [masterdisclaw14_TocAppends.l0] at H
             by_cases c16 : x36_2 < (l1.length : Int)
             · rw [if_pos c16] at H
               have c16b0 : decide (x36_2 < (l1.length : Int)) = true := decide_eq_true c16
               clear c16
               by_cases c17 : 0 ≤ x36_2
               · rw [if_pos c17] at H
                 have c17b0 : decide (0 ≤ x36_2) = true := decide_eq_true c17
                 clear c17
                 by_cases c18 : x36_2 < (l1.length : Int)
                 · rw [if_pos c18] at H
                   have c18b0 : decide (x36_2 < (l1.length : Int)) = true := decide_eq_true c18
                   clear c18
                   replace H := Option.bind_eq_some_iff.mp H
                   obtain ⟨⟨t332, t333, t334, t337⟩, A190, H⟩ := H
                   replace H : (if t337 = 0 then (if ((rd_T26 l1 x36_2).f0) = 1 then (masterdisclaw14_TocAppends.l1 k2 a0 x6_2 l1 (l1.length : Int) x36_2 ((rd_T26 l1 x36_2).f2) 0 t332 t333 t334 ((rd_T26 l1 x36_2).f0) ((rd_T26 l1 x36_2).f1) ((rd_T26 l1 x36_2).f2) ((rd_T26 l1 x36_2).f3)) else (masterdisclaw14_TocAppends.l0 k2 a0 x6_2 l1 (l1.length : Int) (wrap64 (x36_2 + 1)) t332 t333 t334)) else (masterdisclaw14_TocAppends.l0 k2 a0 x6_2 l1 (l1.length : Int) (wrap64 (x36_2 + 1)) x327000_2 x327001_2 x327002_2)) = some r := H
                   have A19 := Aside0.mk A190
                   clear A190
                   by_cases c20 : t337 = 0
                   · rw [if_pos c20] at H
                     have c20b0 : (t337 == 0) = true := beq_iff_eq.mpr c20
                     have c20b1 : (t337 != 0) = false := bne_eq_false_iff_eq.mpr c20
                     clear c20
                     by_cases c21 : ((rd_T26 l1 x36_2).f0) = 1
                     · rw [if_pos c21] at H
                       have c21b0 : (((rd_T26 l1 x36_2).f0) == 1) = true := beq_iff_eq.mpr c21
                       have c21b1 : (((rd_T26 l1 x36_2).f0) != 1) = false := bne_eq_false_iff_eq.mpr c21
                       clear c21
                       have H' := Aside0.mk H
                       clear H
                       have p330 : 0 ≤ (x36_2 : Int) := of_decide_eq_true (by first | (with_reducible assumption) | assumption)
                       have q330 : x36_2 < (l1.length : Int) := of_decide_eq_true (by first | (with_reducible assumption) | assumption)
                       obtain ⟨ad330, e330, hx330_0, hx330_1, hx330_2, hx330_3⟩ := at_T26 HR1.out x36_2 p330 q330
                       cases e330
                       replace hx330_0 := upc HB.out hx330_0
                       replace hx330_1 := upc HB.out hx330_1
                       replace hx330_2 := upc HB.out hx330_2
                       replace hx330_3 := upc HB.out hx330_3
                       replace p330 := eq_true p330
                       replace q330 := eq_true q330
                       go_wp2_with (first | ((with_reducible refine gate_dst (N := 8) rfl ?_); (try (refine gate_guard (by rfl) ?_; dsimp only)); refine box_event ?hg (N := 8) ?hd (cs := #[.int .i64 0, .int .i64 0, .int .i64 0, .bool false]) (t := 26) ?hr ?_; (case hd => rfl); (case hg => rfl); (case hr => first | (go_simp; done) | (go_simp; rfl)); intro gb331 hg w22 hbox hb; have n0_ := Aside0.mk (Kd.R_below (by (with_reducible repeat (first | apply Kd.R_alloc | apply Kd.R_drewN | apply Kd.R_drew)); exact HO_6.out) hb); have n1_ := Aside0.mk (Kd.R_below (by (with_reducible repeat (first | apply Kd.R_alloc | apply Kd.R_drewN | apply Kd.R_drew)); exact HO_327002.out) hb); have n2_ := Aside0.mk (blk_below (g := gb326) (o := .cells #[.int .i64 x327000_2, .bool x327001_2, u327002] 24 (0, 0)) (by (with_reducible repeat (first | refine blk_drewN ?_ _ | refine blk_drew ?_ | refine blk_alloc ?_ _)); exact BK326.out) hb); have n3_ := Aside0.mk (below_step (by repeat (first | (with_reducible first | exact HB.out | apply below_alloc | apply pw_below_drewN | apply below_drew1 | refine below_set ?_ GE326.out) | exact HB.out)) hb); have n4_ := Aside0.mk (hbox); have n5_ := Aside0.mk ((by rw [hg]; exact (below_size (by repeat (first | (with_reducible first | exact HB.out | apply below_alloc | apply pw_below_drewN | apply below_drew1 | refine below_set ?_ GE326.out) | exact HB.out))) : w.heap.size ≤ gb331)); have n6_ := Aside0.mk ((by rw [hg]; exact (below_size (by repeat (first | (with_reducible first | exact HB.out | apply below_alloc | apply pw_below_drewN | apply below_drew1 | refine below_set ?_ GE326.out) | exact HB.out))) : w.heap.size ≤ gb331)); have n7_ := Aside0.mk ((by rw [hg]; exact Nat.ne_of_lt (blk_lt (g := gb326) (o := .cells #[.int .i64 x327000_2, .bool x327001_2, u327002] 24 (0, 0)) (by (with_reducible repeat (first | refine blk_drewN ?_ _ | refine blk_drew ?_ | refine blk_alloc ?_ _)); exact BK326.out)) : gb326 ≠ gb331)); have n8_ := Aside0.mk ((by rw [hg]; exact Nat.ne_of_gt (blk_lt (g := gb326) (o := .cells #[.int .i64 x327000_2, .bool x327001_2, u327002] 24 (0, 0)) (by (with_reducible repeat (first | refine blk_drewN ?_ _ | refine blk_drew ?_ | refine blk_alloc ?_ _)); exact BK326.out)) : gb331 ≠ gb326)); clear HO_6; clear HO_327002; clear BK326; clear HB; have HO_6 := n0_; have HO_327002 := n1_; have BK326 := n2_; have HB := n3_; have BK331 := n4_; have GW331 := n5_; have GE331 := n6_; have NB326_331 := n7_; have NB331_326 := n8_; clear n0_ n1_ n2_ n3_ n4_ n5_ n6_ n7_ n8_; clear hb hbox hg; have hnb23 := NB331_326.out; have hnc23 := NB326_331.out; obtain ⟨hcz24_0, hcz24_1, hcz24_2, hcz24_3⟩ := cel4 BK331.out; obtain ⟨hfz24_0, hfz24_1, hfz24_2, hfz24_3⟩ := frz4 BK331.out; obtain ⟨hcz25_0, hcz25_1, hcz25_2⟩ := cel3 BK326.out; obtain ⟨hfz25_0, hfz25_1, hfz25_2⟩ := frz3 BK326.out; obtain ⟨Ao26, co26, eo26⟩ := Kd.R_slice HO_327002.out; subst eo26) | ((with_reducible refine gate_callee (f := 8) rfl ?_); refine goesL_ (some 44) rfl rfl Try.func8 (by kernel_rfl) rfl #[.int .i64 a0, .agg #[.int .i64 x327000_2, .bool x327001_2, .slice Ao26 x327002_2.length co26], .agg #[.int .i64 ((rd_T26 l1 x36_2).f0), .int .i64 ((rd_T26 l1 x36_2).f1), .int .i64 ((rd_T26 l1 x36_2).f2), .bool ((rd_T26 l1 x36_2).f3)]] rfl (by (try simp only [List.map_toArray, List.map_cons, List.map_nil]); first | done | rfl | (simp only [List.length_drop, List.length_take]; rfl)) ?_; (with_reducible refine (masterdisclaw14_do.calls k2 a0 x327000_2 x327001_2 _ _ x327002_2 ((rd_T26 l1 x36_2).f0) ((rd_T26 l1 x36_2).f1) ((rd_T26 l1 x36_2).f2) ((rd_T26 l1 x36_2).f3) t332 t333 t334 t337 _ ?side1 ?side2 A19.out).mono ?_); (case side1 => refine (Kd.R_reads' (e := 40) (base := w.heap.size) (ok := fun k_ => True) (n := x327002_2.length) (c := co26) ?_).2.2; exact (by (with_reducible repeat (first | apply Kd.R_alloc | apply Kd.R_drewN | apply Kd.R_drew)); exact (Kd.R_mono (Kd.R_far (p := ⟨gb331, 3, none⟩) (Kd.R_far (p := ⟨gb331, 2, none⟩) (Kd.R_far (p := ⟨gb331, 1, none⟩) (Kd.R_far (p := ⟨gb331, 0, none⟩) (Kd.R_types HO_327002.out BK331.out (by decide)) (fun _ hk => hk.2) (.int .i64 ((rd_T26 l1 x36_2).f0))) (fun _ hk => hk.2) (.int .i64 ((rd_T26 l1 x36_2).f1))) (fun _ hk => hk.2) (.int .i64 ((rd_T26 l1 x36_2).f2))) (fun _ hk => hk.2) (.bool ((rd_T26 l1 x36_2).f3))) (fun _ h_ => h_.1)))); (case side2 => exact (Kd.R_reads' HO_327002.out).2.1); rintro e w27 ⟨v335, rfl, ho0, hb⟩; refine ⟨_, rfl, ?_⟩; have n0_ := Aside0.mk (Kd.R_below (by (with_reducible repeat (first | apply Kd.R_alloc | apply Kd.R_drewN | apply Kd.R_drew)); exact (Kd.R_mono (Kd.R_far (p := ⟨gb331, 3, none⟩) (Kd.R_far (p := ⟨gb331, 2, none⟩) (Kd.R_far (p := ⟨gb331, 1, none⟩) (Kd.R_far (p := ⟨gb331, 0, none⟩) (Kd.R_types HO_6.out BK331.out (by decide)) (fun _ hk => hk.2) (.int .i64 ((rd_T26 l1 x36_2).f0))) (fun _ hk => hk.2) (.int .i64 ((rd_T26 l1 x36_2).f1))) (fun _ hk => hk.2) (.int .i64 ((rd_T26 l1 x36_2).f2))) (fun _ hk => hk.2) (.bool ((rd_T26 l1 x36_2).f3))) (fun _ h_ => h_.1))) hb); have n1_ := Aside0.mk (Kd.R_elder' (by (with_reducible repeat (first | apply Kd.R_alloc | apply Kd.R_drewN | apply Kd.R_drew)); exact (Kd.R_mono (Kd.R_far (p := ⟨gb331, 3, none⟩) (Kd.R_far (p := ⟨gb331, 2, none⟩) (Kd.R_far (p := ⟨gb331, 1, none⟩) (Kd.R_far (p := ⟨gb331, 0, none⟩) (Kd.R_types HO_327002.out BK331.out (by decide)) (fun _ hk => hk.2) (.int .i64 ((rd_T26 l1 x36_2).f0))) (fun _ hk => hk.2) (.int .i64 ((rd_T26 l1 x36_2).f1))) (fun _ hk => hk.2) (.int .i64 ((rd_T26 l1 x36_2).f2))) (fun _ hk => hk.2) (.bool ((rd_T26 l1 x36_2).f3))) (fun _ h_ => h_.1))) (Kd.R_base ho0) hb); have n2_ := Aside0.mk (Kd.R_lower (Kd.R_new' ho0 (Kd.R_lt (by (with_reducible repeat (first | apply Kd.R_alloc | apply Kd.R_drewN | apply Kd.R_drew)); exact (Kd.R_mono (Kd.R_far (p := ⟨gb331, 3, none⟩) (Kd.R_far (p := ⟨gb331, 2, none⟩) (Kd.R_far (p := ⟨gb331, 1, none⟩) (Kd.R_far (p := ⟨gb331, 0, none⟩) (Kd.R_types HO_327002.out BK331.out (by decide)) (fun _ hk => hk.2) (.int .i64 ((rd_T26 l1 x36_2).f0))) (fun _ hk => hk.2) (.int .i64 ((rd_T26 l1 x36_2).f1))) (fun _ hk => hk.2) (.int .i64 ((rd_T26 l1 x36_2).f2))) (fun _ hk => hk.2) (.bool ((rd_T26 l1 x36_2).f3))) (fun _ h_ => h_.1))))) (below_size (by repeat (first | (with_reducible first | exact HB.out | apply below_alloc | apply pw_below_drewN | apply below_drew1 | refine below_set ?_ GE326.out | refine below_set ?_ GE331.out) | exact HB.out)))); have n3_ := Aside0.mk (blk_below (g := gb326) (o := .cells #[.int .i64 x327000_2, .bool x327001_2, .slice Ao26 x327002_2.length co26] 24 (0, 0)) (by (with_reducible repeat (first | refine blk_drewN ?_ _ | refine blk_drew ?_ | refine blk_alloc ?_ _)); refine blk_far ?_ NB326_331.out _; (with_reducible repeat (first | refine blk_drewN ?_ _ | refine blk_drew ?_ | refine blk_alloc ?_ _)); refine blk_far ?_ NB326_331.out _; (with_reducible repeat (first | refine blk_drewN ?_ _ | refine blk_drew ?_ | refine blk_alloc ?_ _)); refine blk_far ?_ NB326_331.out _; (with_reducible repeat (first | refine blk_drewN ?_ _ | refine blk_drew ?_ | refine blk_alloc ?_ _)); refine blk_far ?_ NB326_331.out _; (with_reducible repeat (first | refine blk_drewN ?_ _ | refine blk_drew ?_ | refine blk_alloc ?_ _)); exact BK326.out) hb); have n4_ := Aside0.mk (blk_below (g := gb331) (o := .cells #[.int .i64 ((rd_T26 l1 x36_2).f0), .int .i64 ((rd_T26 l1 x36_2).f1), .int .i64 ((rd_T26 l1 x36_2).f2), .bool ((rd_T26 l1 x36_2).f3)] 26 (0, 0)) (by (with_reducible repeat (first | refine blk_drewN ?_ _ | refine blk_drew ?_ | refine blk_alloc ?_ _)); refine blk_put (cs := #[.int .i64 ((rd_T26 l1 x36_2).f0), .int .i64 ((rd_T26 l1 x36_2).f1), .int .i64 ((rd_T26 l1 x36_2).f2), .bool false]) ?_ 3 _ rfl; (with_reducible repeat (first | refine blk_drewN ?_ _ | refine blk_drew ?_ | refine blk_alloc ?_ _)); refine blk_put (cs := #[.int .i64 ((rd_T26 l1 x36_2).f0), .int .i64 ((rd_T26 l1 x36_2).f1), .int .i64 0, .bool false]) ?_ 2 _ rfl; (with_reducible repeat (first | refine blk_drewN ?_ _ | refine blk_drew ?_ | refine blk_alloc ?_ _)); refine blk_put (cs := #[.int .i64 ((rd_T26 l1 x36_2).f0), .int .i64 0, .int .i64 0, .bool false]) ?_ 1 _ rfl; (with_reducible repeat (first | refine blk_drewN ?_ _ | refine blk_drew ?_ | refine blk_alloc ?_ _)); refine blk_put (cs := #[.int .i64 0, .int .i64 0, .int .i64 0, .bool false]) ?_ 0 _ rfl; (with_reducible repeat (first | refine blk_drewN ?_ _ | refine blk_drew ?_ | refine blk_alloc ?_ _)); exact BK331.out) hb); have n5_ := Aside0.mk (below_step (by repeat (first | (with_reducible first | exact HB.out | apply below_alloc | apply pw_below_drewN | apply below_drew1 | refine below_set ?_ GE326.out | refine below_set ?_ GE331.out) | exact HB.out)) hb); clear HO_6; clear HO_327002; clear BK326; clear BK331; clear HB; have HO_6 := n0_; have HO_327002 := n1_; have HO336 := n2_; have BK326 := n3_; have BK331 := n4_; have HB := n5_; clear n0_ n1_ n2_ n3_ n4_ n5_; (try clear hb); (try clear hb2); (try clear hk); (try clear hi); (try clear ho0)) | ((with_reducible refine gate_dst (N := 9) rfl ?_); (try (refine gate_guard (by rfl) ?_; dsimp only)); refine box_event ?hg (N := 9) ?hd (cs := #[.int .i64 0, .bool false, .slice none 0 0]) (t := 24) ?hr ?_; (case hd => rfl); (case hg => rfl); (case hr => first | (go_simp; done) | (go_simp; rfl)); intro gb338 hg w28 hbox hb; have n0_ := Aside0.mk (Kd.R_below (by (with_reducible repeat (first | apply Kd.R_alloc | apply Kd.R_drewN | apply Kd.R_drew)); exact HO_6.out) hb); have n1_ := Aside0.mk (Kd.R_below (by (with_reducible repeat (first | apply Kd.R_alloc | apply Kd.R_drewN | apply Kd.R_drew)); exact HO_327002.out) hb); have n2_ := Aside0.mk (Kd.R_below (by (with_reducible repeat (first | apply Kd.R_alloc | apply Kd.R_drewN | apply Kd.R_drew)); exact HO336.out) hb); have n3_ := Aside0.mk (blk_below (g := gb326) (o := .cells #[.int .i64 x327000_2, .bool x327001_2, .slice Ao26 x327002_2.length co26] 24 (0, 0)) (by (with_reducible repeat (first | refine blk_drewN ?_ _ | refine blk_drew ?_ | refine blk_alloc ?_ _)); exact BK326.out) hb); have n4_ := Aside0.mk (blk_below (g := gb331) (o := .cells #[.int .i64 ((rd_T26 l1 x36_2).f0), .int .i64 ((rd_T26 l1 x36_2).f1), .int .i64 ((rd_T26 l1 x36_2).f2), .bool ((rd_T26 l1 x36_2).f3)] 26 (0, 0)) (by (with_reducible repeat (first | refine blk_drewN ?_ _ | refine blk_drew ?_ | refine blk_alloc ?_ _)); exact BK331.out) hb); have n5_ := Aside0.mk (below_step (by repeat (first | (with_reducible first | exact HB.out | apply below_alloc | apply pw_below_drewN | apply below_drew1 | refine below_set ?_ GE326.out | refine below_set ?_ GE331.out) | exact HB.out)) hb); have n6_ := Aside0.mk (hbox); have n7_ := Aside0.mk ((by rw [hg]; exact (below_size (by repeat (first | (with_reducible first | exact HB.out | apply below_alloc | apply pw_below_drewN | apply below_drew1 | refine below_set ?_ GE326.out | refine below_set ?_ GE331.out) | exact HB.out))) : w.heap.size ≤ gb338)); have n8_ := Aside0.mk ((by rw [hg]; exact (below_size (by repeat (first | (with_reducible first | exact HB.out | apply below_alloc | apply pw_below_drewN | apply below_drew1 | refine below_set ?_ GE326.out | refine below_set ?_ GE331.out) | exact HB.out))) : w.heap.size ≤ gb338)); have n9_ := Aside0.mk ((by rw [hg]; exact Nat.ne_of_lt (blk_lt (g := gb326) (o := .cells #[.int .i64 x327000_2, .bool x327001_2, .slice Ao26 x327002_2.length co26] 24 (0, 0)) (by (with_reducible repeat (first | refine blk_drewN ?_ _ | refine blk_drew ?_ | refine blk_alloc ?_ _)); exact BK326.out)) : gb326 ≠ gb338)); have n10_ := Aside0.mk ((by rw [hg]; exact Nat.ne_of_gt (blk_lt (g := gb326) (o := .cells #[.int .i64 x327000_2, .bool x327001_2, .slice Ao26 x327002_2.length co26] 24 (0, 0)) (by (with_reducible repeat (first | refine blk_drewN ?_ _ | refine blk_drew ?_ | refine blk_alloc ?_ _)); exact BK326.out)) : gb338 ≠ gb326)); have n11_ := Aside0.mk ((by rw [hg]; exact Nat.ne_of_lt (blk_lt (g := gb331) (o := .cells #[.int .i64 ((rd_T26 l1 x36_2).f0), .int .i64 ((rd_T26 l1 x36_2).f1), .int .i64 ((rd_T26 l1 x36_2).f2), .bool ((rd_T26 l1 x36_2).f3)] 26 (0, 0)) (by (with_reducible repeat (first | refine blk_drewN ?_ _ | refine blk_drew ?_ | refine blk_alloc ?_ _)); exact BK331.out)) : gb331 ≠ gb338)); have n12_ := Aside0.mk ((by rw [hg]; exact Nat.ne_of_gt (blk_lt (g := gb331) (o := .cells #[.int .i64 ((rd_T26 l1 x36_2).f0), .int .i64 ((rd_T26 l1 x36_2).f1), .int .i64 ((rd_T26 l1 x36_2).f2), .bool ((rd_T26 l1 x36_2).f3)] 26 (0, 0)) (by (with_reducible repeat (first | refine blk_drewN ?_ _ | refine blk_drew ?_ | refine blk_alloc ?_ _)); exact BK331.out)) : gb338 ≠ gb331)); clear HO_6; clear HO_327002; clear HO336; clear BK326; clear BK331; clear HB; have HO_6 := n0_; have HO_327002 := n1_; have HO336 := n2_; have BK326 := n3_; have BK331 := n4_; have HB := n5_; have BK338 := n6_; have GW338 := n7_; have GE338 := n8_; have NB326_338 := n9_; have NB338_326 := n10_; have NB331_338 := n11_; have NB338_331 := n12_; clear n0_ n1_ n2_ n3_ n4_ n5_ n6_ n7_ n8_ n9_ n10_ n11_ n12_; clear hb hbox hg; have hnb29 := NB338_326.out; have hnc29 := NB326_338.out; have hnb30 := NB338_331.out; have hnc30 := NB331_338.out; obtain ⟨hcz31_0, hcz31_1, hcz31_2⟩ := cel3 BK338.out; obtain ⟨hfz31_0, hfz31_1, hfz31_2⟩ := frz3 BK338.out; obtain ⟨Ao32, co32, eo32⟩ := Kd.R_slice HO336.out; subst eo32; obtain ⟨hcz33_0, hcz33_1, hcz33_2⟩ := cel3 BK326.out; obtain ⟨hfz33_0, hfz33_1, hfz33_2⟩ := frz3 BK326.out; obtain ⟨hcz34_0, hcz34_1, hcz34_2, hcz34_3⟩ := cel4 BK331.out; obtain ⟨hfz34_0, hfz34_1, hfz34_2, hfz34_3⟩ := frz4 BK331.out))
                       go_loopg [55] k2 (fun kq v55 w' => ∃ (x6_3 : List Bool) (x55_3 : Int), v55 = .int .i64 x55_3 ∧ Aside0 (masterdisclaw14_TocAppends.l1 kq a0 x6_3 l1 (l1.length : Int) x36_2 ((rd_T26 l1 x36_2).f2) x55_3 t332 t333 t334 ((rd_T26 l1 x36_2).f0) ((rd_T26 l1 x36_2).f1) ((rd_T26 l1 x36_2).f2) ((rd_T26 l1 x36_2).f3) = some r) ∧ Aside0 (kq ≤ k2) ∧ Aside0 (Kd.R Kd.bool 4 w' w.heap.size (fun _ => True) v328 x6_3) ∧ Aside0 (Kd.R k40 40 w' w.heap.size (fun _ => True) (.slice Ao32 t334.length co32) t334) ∧ Aside0 (Kd.R k40 40 w' w.heap.size (fun _ => True) (.slice Ao32 t334.length co32) t334) ∧ Aside0 (w'.heap[gb326]? = some (.cells #[.int .i64 t332, .bool t333, (.slice Ao32 t334.length co32)] 24 (0, 0))) ∧ Aside0 (w'.heap[gb331]? = some (.cells #[.int .i64 ((rd_T26 l1 x36_2).f0), .int .i64 ((rd_T26 l1 x36_2).f1), .int .i64 ((rd_T26 l1 x36_2).f2), .bool ((rd_T26 l1 x36_2).f3)] 26 (0, 0))) ∧ Aside0 (w'.heap[gb338]? = some (.cells #[.int .i64 t332, .bool t333, (.slice Ao32 t334.length co32)] 24 (0, 0))) ∧ Aside0 (Below w.heap.size w w'))
                       case atStart => exact ⟨(x6_2), (0), (by first | rfl | (simp; done) | (simp [*]; done)), H', ⟨Nat.le_refl _⟩, ⟨by (with_reducible repeat (first | apply Kd.R_alloc | apply Kd.R_drewN | apply Kd.R_drew)); exact Kd.R_mono (Kd.R_far (p := ⟨gb326, 2, none⟩) (Kd.R_far (p := ⟨gb326, 1, none⟩) (Kd.R_far (p := ⟨gb326, 0, none⟩) (Kd.R_far (p := ⟨gb338, 2, none⟩) (Kd.R_far (p := ⟨gb338, 1, none⟩) (Kd.R_far (p := ⟨gb338, 0, none⟩) (Kd.R_types (Kd.R_types HO_6.out BK338.out (by decide)) BK326.out (by decide)) (fun _ hk => hk.1.2) (.int .i64 t332)) (fun _ hk => hk.1.2) (.bool t333)) (fun _ hk => hk.1.2) (.slice Ao32 t334.length co32)) (fun _ hk => hk.2) (.int .i64 t332)) (fun _ hk => hk.2) (.bool t333)) (fun _ hk => hk.2) (.slice Ao32 t334.length co32)) (fun _ hk => trivial)⟩, ⟨by (with_reducible repeat (first | apply Kd.R_alloc | apply Kd.R_drewN | apply Kd.R_drew)); exact Kd.R_mono (Kd.R_far (p := ⟨gb326, 2, none⟩) (Kd.R_far (p := ⟨gb326, 1, none⟩) (Kd.R_far (p := ⟨gb326, 0, none⟩) (Kd.R_far (p := ⟨gb338, 2, none⟩) (Kd.R_far (p := ⟨gb338, 1, none⟩) (Kd.R_far (p := ⟨gb338, 0, none⟩) (Kd.R_types (Kd.R_types HO336.out BK338.out (by decide)) BK326.out (by decide)) (fun _ hk => hk.1.2) (.int .i64 t332)) (fun _ hk => hk.1.2) (.bool t333)) (fun _ hk => hk.1.2) (.slice Ao32 t334.length co32)) (fun _ hk => hk.2) (.int .i64 t332)) (fun _ hk => hk.2) (.bool t333)) (fun _ hk => hk.2) (.slice Ao32 t334.length co32)) (fun _ hk => trivial)⟩, ⟨by (with_reducible repeat (first | apply Kd.R_alloc | apply Kd.R_drewN | apply Kd.R_drew)); exact Kd.R_mono (Kd.R_far (p := ⟨gb326, 2, none⟩) (Kd.R_far (p := ⟨gb326, 1, none⟩) (Kd.R_far (p := ⟨gb326, 0, none⟩) (Kd.R_far (p := ⟨gb338, 2, none⟩) (Kd.R_far (p := ⟨gb338, 1, none⟩) (Kd.R_far (p := ⟨gb338, 0, none⟩) (Kd.R_types (Kd.R_types HO336.out BK338.out (by decide)) BK326.out (by decide)) (fun _ hk => hk.1.2) (.int .i64 t332)) (fun _ hk => hk.1.2) (.bool t333)) (fun _ hk => hk.1.2) (.slice Ao32 t334.length co32)) (fun _ hk => hk.2) (.int .i64 t332)) (fun _ hk => hk.2) (.bool t333)) (fun _ hk => hk.2) (.slice Ao32 t334.length co32)) (fun _ hk => trivial)⟩, ⟨by (with_reducible repeat (first | refine blk_drewN ?_ _ | refine blk_drew ?_ | refine blk_alloc ?_ _)); refine blk_put (cs := #[.int .i64 t332, .bool t333, .slice Ao26 x327002_2.length co26]) ?_ 2 _ rfl; (with_reducible repeat (first | refine blk_drewN ?_ _ | refine blk_drew ?_ | refine blk_alloc ?_ _)); refine blk_put (cs := #[.int .i64 t332, .bool x327001_2, .slice Ao26 x327002_2.length co26]) ?_ 1 _ rfl; (with_reducible repeat (first | refine blk_drewN ?_ _ | refine blk_drew ?_ | refine blk_alloc ?_ _)); refine blk_put (cs := #[.int .i64 x327000_2, .bool x327001_2, .slice Ao26 x327002_2.length co26]) ?_ 0 _ rfl; (with_reducible repeat (first | refine blk_drewN ?_ _ | refine blk_drew ?_ | refine blk_alloc ?_ _)); refine blk_far ?_ NB326_338.out _; (with_reducible repeat (first | refine blk_drewN ?_ _ | refine blk_drew ?_ | refine blk_alloc ?_ _)); refine blk_far ?_ NB326_338.out _; (with_reducible repeat (first | refine blk_drewN ?_ _ | refine blk_drew ?_ | refine blk_alloc ?_ _)); refine blk_far ?_ NB326_338.out _; (with_reducible repeat (first | refine blk_drewN ?_ _ | refine blk_drew ?_ | refine blk_alloc ?_ _)); exact BK326.out⟩, ⟨by (with_reducible repeat (first | refine blk_drewN ?_ _ | refine blk_drew ?_ | refine blk_alloc ?_ _)); refine blk_far ?_ NB331_326.out _; (with_reducible repeat (first | refine blk_drewN ?_ _ | refine blk_drew ?_ | refine blk_alloc ?_ _)); refine blk_far ?_ NB331_326.out _; (with_reducible repeat (first | refine blk_drewN ?_ _ | refine blk_drew ?_ | refine blk_alloc ?_ _)); refine blk_far ?_ NB331_326.out _; (with_reducible repeat (first | refine blk_drewN ?_ _ | refine blk_drew ?_ | refine blk_alloc ?_ _)); refine blk_far ?_ NB331_338.out _; (with_reducible repeat (first | refine blk_drewN ?_ _ | refine blk_drew ?_ | refine blk_alloc ?_ _)); refine blk_far ?_ NB331_338.out _; (with_reducible repeat (first | refine blk_drewN ?_ _ | refine blk_drew ?_ | refine blk_alloc ?_ _)); refine blk_far ?_ NB331_338.out _; (with_reducible repeat (first | refine blk_drewN ?_ _ | refine blk_drew ?_ | refine blk_alloc ?_ _)); exact BK331.out⟩, ⟨by (with_reducible repeat (first | refine blk_drewN ?_ _ | refine blk_drew ?_ | refine blk_alloc ?_ _)); refine blk_far ?_ NB338_326.out _; (with_reducible repeat (first | refine blk_drewN ?_ _ | refine blk_drew ?_ | refine blk_alloc ?_ _)); refine blk_far ?_ NB338_326.out _; (with_reducible repeat (first | refine blk_drewN ?_ _ | refine blk_drew ?_ | refine blk_alloc ?_ _)); refine blk_far ?_ NB338_326.out _; (with_reducible repeat (first | refine blk_drewN ?_ _ | refine blk_drew ?_ | refine blk_alloc ?_ _)); refine blk_put (cs := #[.int .i64 t332, .bool t333, .slice none 0 0]) ?_ 2 _ rfl; (with_reducible repeat (first | refine blk_drewN ?_ _ | refine blk_drew ?_ | refine blk_alloc ?_ _)); refine blk_put (cs := #[.int .i64 t332, .bool false, .slice none 0 0]) ?_ 1 _ rfl; (with_reducible repeat (first | refine blk_drewN ?_ _ | refine blk_drew ?_ | refine blk_alloc ?_ _)); refine blk_put (cs := #[.int .i64 0, .bool false, .slice none 0 0]) ?_ 0 _ rfl; (with_reducible repeat (first | refine blk_drewN ?_ _ | refine blk_drew ?_ | refine blk_alloc ?_ _)); exact BK338.out⟩, ⟨by repeat (first | (with_reducible first | exact HB.out | apply below_alloc | apply pw_below_drewN | apply below_drew1 | refine below_set ?_ GE326.out | refine below_set ?_ GE331.out | refine below_set ?_ GE338.out) | exact HB.out)⟩⟩
                       case round =>
                        clear H'
                        try clear c1
                        try clear c2
                        try clear p2
                        try clear c3
                        try clear p3
                        try clear q3
                        try clear hx3
                        try clear c4
                        try clear c6
                        try clear p6
                        try clear c7
                        try clear c7b0
                        try clear c7b1
                        try clear c8
                        try clear c8b0
                        try clear c9
                        try clear c10
                        try clear c10b0
                        try clear c10b1
                        try clear c11
                        try clear c11b0
                        try clear c11b1
                        try clear c16
                        try clear c16b0
                        try clear c17
                        try clear c17b0
                        try clear c18
                        try clear c18b0
                        try clear c20
                        try clear c20b0
                        try clear c20b1
                        try clear c21
                        try clear c21b0
                        try clear c21b1
                        try clear c23
                        try clear c29
                        try clear c30
                        try clear p33
                        try clear q33
                        try clear hx33
                        try clear hcz13_0
                        try clear hcz13_1
                        try clear hcz13_2
                        try clear hcz24_0
                        try clear hcz24_1
                        try clear hcz24_2
                        try clear hcz24_3
                        try clear hcz25_0
                        try clear hcz25_1
                        try clear hcz25_2
                        try clear hcz31_0
                        try clear hcz31_1
                        try clear hcz31_2
                        try clear hcz33_0
                        try clear hcz33_1
                        try clear hcz33_2
                        try clear hcz34_0
                        try clear hcz34_1
                        try clear hcz34_2
                        try clear hcz34_3
                        try clear hfz13_0
                        try clear hfz13_1
                        try clear hfz13_2
                        try clear hfz24_0
                        try clear hfz24_1
                        try clear hfz24_2
                        try clear hfz24_3
                        try clear hfz25_0
                        try clear hfz25_1
                        try clear hfz25_2
                        try clear hfz31_0
                        try clear hfz31_1
                        try clear hfz31_2
                        try clear hfz33_0
                        try clear hfz33_1
                        try clear hfz33_2
                        try clear hfz34_0
                        try clear hfz34_1
                        try clear hfz34_2
                        try clear hfz34_3
                        try clear hx330_0
                        try clear hx330_1
                        try clear hx330_2
                        try clear hx330_3
                        try clear p2
                        try clear p330
                        try clear q330
                        obtain ⟨x6_3, x55_3, rfl, HA, HK3, HO_6, HO_327002, HO_339002, BK326, BK331, BK338, HB⟩ := hrel
                        cases gk with
                        | zero => exact absurd HA.out (by simp [masterdisclaw14_TocAppends.l1])
                        | succ k3 =>
                         have H := HA.out
                         clear HA
                         simp only [masterdisclaw14_TocAppends.l1] at H
                         by_cases c35 : x55_3 < ((rd_T26 l1 x36_2).f2)
                         · rw [if_pos c35] at H
                           have c35b0 : decide (x55_3 < ((rd_T26 l1 x36_2).f2)) = true := decide_eq_true c35
                           clear c35
                           have HC36 := Aside0.mk H
                           clear H
                           have hnb37 := NB331_326.out
                           have hnc37 := NB326_331.out
                           have hnb38 := NB331_338.out
                           have hnc38 := NB338_331.out
                           obtain ⟨hcz39_0, hcz39_1, hcz39_2, hcz39_3⟩ := cel4 BK331.out
                           obtain ⟨hfz39_0, hfz39_1, hfz39_2, hfz39_3⟩ := frz4 BK331.out
                           go_upto_region 18 with (fail)
                           go_cut [74] (fun v74 wc => ∃ (kq : Nat) (x74_35 : Bool), v74 = .bool x74_35 ∧ Aside0 (masterdisclaw14_TocAppends.j3 kq a0 x6_3 (wrap64 (((rd_T26 l1 x36_2).f1) + x55_3)) l1 (l1.length : Int) x36_2 ((rd_T26 l1 x36_2).f2) x55_3 x74_35 t332 t333 t334 ((rd_T26 l1 x36_2).f0) ((rd_T26 l1 x36_2).f1) ((rd_T26 l1 x36_2).f2) ((rd_T26 l1 x36_2).f3) = some r) ∧ Aside0 (kq ≤ k3) ∧ Aside0 (Kd.R Kd.bool 4 wc w.heap.size (fun _ => True) v328 x6_3) ∧ Aside0 (Kd.R k40 40 wc w.heap.size (fun _ => True) (.slice Ao32 t334.length co32) t334) ∧ Aside0 (Kd.R k40 40 wc w.heap.size (fun _ => True) (.slice Ao32 t334.length co32) t334) ∧ Aside0 (wc.heap[gb326]? = some (.cells #[.int .i64 t332, .bool t333, (.slice Ao32 t334.length co32)] 24 (0, 0))) ∧ Aside0 (wc.heap[gb331]? = some (.cells #[.int .i64 ((rd_T26 l1 x36_2).f0), .int .i64 ((rd_T26 l1 x36_2).f1), .int .i64 ((rd_T26 l1 x36_2).f2), .bool ((rd_T26 l1 x36_2).f3)] 26 (0, 0))) ∧ Aside0 (wc.heap[gb338]? = some (.cells #[.int .i64 t332, .bool t333, (.slice Ao32 t334.length co32)] 24 (0, 0))) ∧ Aside0 (Below w.heap.size w wc))
                           case first =>
                            have H := HC36.out
                            clear HC36
                            by_cases c40 : (wrap64 (((rd_T26 l1 x36_2).f1) + x55_3)) < 0
                            · rw [if_pos c40] at H
                              have c40b0 : decide ((wrap64 (((rd_T26 l1 x36_2).f1) + x55_3)) < 0) = true := decide_eq_true c40
                              clear c40
                              (first | rw [c40b0] | (simp only [i64_w, i32_w]; rw [c40b0]) | skip)
                              have H' := Aside0.mk H
                              clear H
                              go_wp2
                              go_meet
                              case rel => exact ⟨_, (true), (by first | rfl | (simp; done) | (simp [*]; done)), H', ⟨by have := HJ4.out; have := HK2.out; have := HK3.out; first | omega | exact Nat.le_refl _⟩, ⟨by (with_reducible repeat (first | apply Kd.R_alloc | apply Kd.R_drewN | apply Kd.R_drew)); exact HO_6.out⟩, ⟨by (with_reducible repeat (first | apply Kd.R_alloc | apply Kd.R_drewN | apply Kd.R_drew)); exact HO_327002.out⟩, ⟨by (with_reducible repeat (first | apply Kd.R_alloc | apply Kd.R_drewN | apply Kd.R_drew)); exact HO_339002.out⟩, ⟨by (with_reducible repeat (first | refine blk_drewN ?_ _ | refine blk_drew ?_ | refine blk_alloc ?_ _)); exact BK326.out⟩, ⟨by (with_reducible repeat (first | refine blk_drewN ?_ _ | refine blk_drew ?_ | refine blk_alloc ?_ _)); exact BK331.out⟩, ⟨by (with_reducible repeat (first | refine blk_drewN ?_ _ | refine blk_drew ?_ | refine blk_alloc ?_ _)); exact BK338.out⟩, ⟨by repeat (first | (with_reducible first | exact HB.out | apply below_alloc | apply pw_below_drewN | apply below_drew1 | refine below_set ?_ GE326.out | refine below_set ?_ GE331.out | refine below_set ?_ GE338.out) | exact HB.out)⟩⟩
                            · rw [if_neg c40] at H
                              have c40b0 : decide ((wrap64 (((rd_T26 l1 x36_2).f1) + x55_3)) < 0) = false := decide_eq_false c40
                              clear c40
                              (first | rw [c40b0] | (simp only [i64_w, i32_w]; rw [c40b0]) | skip)
                              by_cases c41 : (wrap64 (((rd_T26 l1 x36_2).f1) + x55_3)) ≥ a0
                              · rw [if_pos c41] at H
                                have c41b0 : decide (a0 ≤ (wrap64 (((rd_T26 l1 x36_2).f1) + x55_3))) = true := decide_eq_true c41
                                clear c41
                                have H' := Aside0.mk H
                                clear H
                                go_wp2
                                go_meet
                                case rel => exact ⟨_, (true), (by first | rfl | (simp; done) | (simp [*]; done)), H', ⟨by have := HJ4.out; have := HK2.out; have := HK3.out; first | omega | exact Nat.le_refl _⟩, ⟨by (with_reducible repeat (first | apply Kd.R_alloc | apply Kd.R_drewN | apply Kd.R_drew)); exact HO_6.out⟩, ⟨by (with_reducible repeat (first | apply Kd.R_alloc | apply Kd.R_drewN | apply Kd.R_drew)); exact HO_327002.out⟩, ⟨by (with_reducible repeat (first | apply Kd.R_alloc | apply Kd.R_drewN | apply Kd.R_drew)); exact HO_339002.out⟩, ⟨by (with_reducible repeat (first | refine blk_drewN ?_ _ | refine blk_drew ?_ | refine blk_alloc ?_ _)); exact BK326.out⟩, ⟨by (with_reducible repeat (first | refine blk_drewN ?_ _ | refine blk_drew ?_ | refine blk_alloc ?_ _)); exact BK331.out⟩, ⟨by (with_reducible repeat (first | refine blk_drewN ?_ _ | refine blk_drew ?_ | refine blk_alloc ?_ _)); exact BK338.out⟩, ⟨by repeat (first | (with_reducible first | exact HB.out | apply below_alloc | apply pw_below_drewN | apply below_drew1 | refine below_set ?_ GE326.out | refine below_set ?_ GE331.out | refine below_set ?_ GE338.out) | exact HB.out)⟩⟩
                              · rw [if_neg c41] at H
                                have c41b0 : decide (a0 ≤ (wrap64 (((rd_T26 l1 x36_2).f1) + x55_3))) = false := decide_eq_false c41
                                clear c41
                                obtain ⟨ji42, hji42⟩ : ∃ j_ : Int, (wrap64 (((rd_T26 l1 x36_2).f1) + x55_3)) = j_ := ⟨_, rfl⟩
                                replace H : (if 0 ≤ (ji42) then (if (ji42) < (x6_3.length : Int) then (masterdisclaw14_TocAppends.j3 k3 a0 x6_3 ji42 l1 (l1.length : Int) x36_2 ((rd_T26 l1 x36_2).f2) x55_3 (rdOf false x6_3 (ji42)) t332 t333 t334 ((rd_T26 l1 x36_2).f0) ((rd_T26 l1 x36_2).f1) ((rd_T26 l1 x36_2).f2) ((rd_T26 l1 x36_2).f3)) else (none)) else (none)) = some r := by first | (rw [hji42] at H; exact H) | (simp only [hji42] at H ⊢; exact H)
                                (try rw [hji42] at c40b0)
                                (try rw [hji42] at c41b0)
                                have hji42w : (IntKind.i64.wrap (((rd_T26 l1 x36_2).f1) + x55_3)) = ji42 := (i64_w _).trans hji42
                                by_cases c43 : 0 ≤ (ji42)
                                · rw [if_pos c43] at H
                                  have c43b0 : decide (0 ≤ (ji42)) = true := decide_eq_true c43
                                  clear c43
                                  by_cases c44 : (ji42) < (x6_3.length : Int)
                                  · rw [if_pos c44] at H
                                    have c44b0 : decide ((ji42) < (x6_3.length : Int)) = true := decide_eq_true c44
                                    clear c44
                                    have H' := Aside0.mk H
                                    clear H
                                    obtain ⟨Ao45, co45, eo45⟩ := Kd.R_slice HO_6.out
                                    subst eo45
                                    have p339 : 0 ≤ ((ji42) : Int) := of_decide_eq_true (by first | (with_reducible assumption) | assumption)
                                    have q339 : (ji42) < (x6_3.length : Int) := of_decide_eq_true (by first | (with_reducible assumption) | assumption)
                                    obtain ⟨ad339, e339, hx339_0⟩ := Kd.at_bool (Kd.R_reads' HO_6.out).2.2 (ji42) p339 q339
                                    cases e339
                                    replace p339 := eq_true p339
                                    replace q339 := eq_true q339
                                    go_wp2
                                    simp only [← hji42]
                                    go_meet
                                    case rel => exact ⟨_, (rdOf false x6_3 (ji42)), (by first | rfl | (simp; done) | (simp only [← hji42] <;> (first | rfl | simp)) | (simp [*]; done)), (by rw [hji42]; exact H'), ⟨by have := HJ4.out; have := HK2.out; have := HK3.out; first | omega | exact Nat.le_refl _⟩, ⟨by (with_reducible repeat (first | apply Kd.R_alloc | apply Kd.R_drewN | apply Kd.R_drew)); exact HO_6.out⟩, ⟨by (with_reducible repeat (first | apply Kd.R_alloc | apply Kd.R_drewN | apply Kd.R_drew)); exact HO_327002.out⟩, ⟨by (with_reducible repeat (first | apply Kd.R_alloc | apply Kd.R_drewN | apply Kd.R_drew)); exact HO_339002.out⟩, ⟨by (with_reducible repeat (first | refine blk_drewN ?_ _ | refine blk_drew ?_ | refine blk_alloc ?_ _)); exact BK326.out⟩, ⟨by (with_reducible repeat (first | refine blk_drewN ?_ _ | refine blk_drew ?_ | refine blk_alloc ?_ _)); exact BK331.out⟩, ⟨by (with_reducible repeat (first | refine blk_drewN ?_ _ | refine blk_drew ?_ | refine blk_alloc ?_ _)); exact BK338.out⟩, ⟨by repeat (first | (with_reducible first | exact HB.out | apply below_alloc | apply pw_below_drewN | apply below_drew1 | refine below_set ?_ GE326.out | refine below_set ?_ GE331.out | refine below_set ?_ GE338.out) | exact HB.out)⟩⟩
                                  · rw [if_neg c44] at H
                                    exact absurd H (by simp)
                                · rw [if_neg c43] at H
                                  exact absurd H (by simp)
                           case rest =>
                            clear HC36
                            try clear c1
                            try clear c2
                            try clear p2
                            try clear c3
                            try clear p3
                            try clear q3
                            try clear hx3
                            try clear c4
                            try clear c6
                            try clear p6
                            try clear c7
                            try clear c7b0
                            try clear c7b1
                            try clear c8
                            try clear c8b0
                            try clear c9
                            try clear c10
                            try clear c10b0
                            try clear c10b1
                            try clear c11
                            try clear c11b0
                            try clear c11b1
                            try clear c16
                            try clear c16b0
                            try clear c17
                            try clear c17b0
                            try clear c18
                            try clear c18b0
                            try clear c20
                            try clear c20b0
                            try clear c20b1
                            try clear c21
                            try clear c21b0
                            try clear c21b1
                            try clear c23
                            try clear c29
                            try clear c30
                            try clear p33
                            try clear q33
                            try clear hx33
                            try clear c35
                            try clear c35b0
                            try clear c37
                            try clear c38
                            try clear c40
                            try clear c40b0
                            try clear c41
                            try clear c41b0
                            try clear c43
                            try clear c43b0
                            try clear c44
                            try clear c44b0
                            try clear hcz13_0
                            try clear hcz13_1
                            try clear hcz13_2
                            try clear hcz24_0
                            try clear hcz24_1
                            try clear hcz24_2
                            try clear hcz24_3
                            try clear hcz25_0
                            try clear hcz25_1
                            try clear hcz25_2
                            try clear hcz31_0
                            try clear hcz31_1
                            try clear hcz31_2
                            try clear hcz33_0
                            try clear hcz33_1
                            try clear hcz33_2
                            try clear hcz34_0
                            try clear hcz34_1
                            try clear hcz34_2
                            try clear hcz34_3
                            try clear hcz39_0
                            try clear hcz39_1
                            try clear hcz39_2
                            try clear hcz39_3
                            try clear hfz13_0
                            try clear hfz13_1
                            try clear hfz13_2
                            try clear hfz24_0
                            try clear hfz24_1
                            try clear hfz24_2
                            try clear hfz24_3
                            try clear hfz25_0
                            try clear hfz25_1
                            try clear hfz25_2
                            try clear hfz31_0
                            try clear hfz31_1
                            try clear hfz31_2
                            try clear hfz33_0
                            try clear hfz33_1
                            try clear hfz33_2
                            try clear hfz34_0
                            try clear hfz34_1
                            try clear hfz34_2
                            try clear hfz34_3
                            try clear hfz39_0
                            try clear hfz39_1
                            try clear hfz39_2
                            try clear hfz39_3
                            try clear hx330_0
                            try clear hx330_1
                            try clear hx330_2
                            try clear hx330_3
                            try clear hx339_0
                            try clear p2
                            try clear p3
                            try clear p33
                            try clear p330
                            try clear p339
                            try clear p6
                            try clear q3
                            try clear q33
                            try clear q330
                            try clear q339
                            obtain ⟨kq, x74_35, rfl, HA, HJ35, HO_6, HO_327002, HO_339002, BK326, BK331, BK338, HB⟩ := hcut
                            cases kq with
                            | zero => exact absurd HA.out (by simp [masterdisclaw14_TocAppends.j3])
                            | succ kj35 =>
                             have H := HA.out
                             clear HA
                             simp only [masterdisclaw14_TocAppends.j3] at H
                             by_cases c46 : x74_35 = true
                             · subst c46
                               have H1 : (none) = some r := by rw [if_pos rfl] at H; exact H
                               clear H
                               have H := H1
                               clear H1
                               exact absurd H (by simp)
                             · replace c46 := Bool.eq_false_iff.mpr c46
                               subst c46
                               have H1 : (if 0 ≤ (wrap64 (((rd_T26 l1 x36_2).f1) + x55_3)) then (if (wrap64 (((rd_T26 l1 x36_2).f1) + x55_3)) < (x6_3.length : Int) then ((toc_Find.f kj35 t332 t333 t334 (wrap64 (((rd_T26 l1 x36_2).f1) + x55_3))).bind fun bt341 => (if bt341.2 = true then (if bt341.1 < 1 then (none) else (if bt341.1 > (t334.length : Int) then (none) else (if 0 ≤ (wrap64 (bt341.1 - 1)) then (if (wrap64 (bt341.1 - 1)) < (t334.length : Int) then (if (wrap64 (((rd_T26 l1 x36_2).f1) + x55_3)) ≥ ((rd_T40 t334 (wrap64 (bt341.1 - 1))).f4) then (none) else (masterdisclaw14_TocAppends.l1 kj35 a0 (x6_3.set ((wrap64 (((rd_T26 l1 x36_2).f1) + x55_3)) : Int).toNat true) l1 (l1.length : Int) x36_2 ((rd_T26 l1 x36_2).f2) (wrap64 (x55_3 + 1)) t332 t333 t334 ((rd_T26 l1 x36_2).f0) ((rd_T26 l1 x36_2).f1) ((rd_T26 l1 x36_2).f2) ((rd_T26 l1 x36_2).f3))) else (none)) else (none)))) else (none))) else (none)) else (none)) = some r := by rw [if_neg (show ¬ (false = true) by decide)] at H; exact H
                               clear H
                               have H := H1
                               clear H1
                               obtain ⟨ji47, hji47⟩ : ∃ j_ : Int, (wrap64 (((rd_T26 l1 x36_2).f1) + x55_3)) = j_ := ⟨_, rfl⟩
                               replace H : (if 0 ≤ (ji47) then (if (ji47) < (x6_3.length : Int) then ((toc_Find.f kj35 t332 t333 t334 (ji47)).bind fun bt341 => (if bt341.2 = true then (if bt341.1 < 1 then (none) else (if bt341.1 > (t334.length : Int) then (none) else (if 0 ≤ (wrap64 (bt341.1 - 1)) then (if (wrap64 (bt341.1 - 1)) < (t334.length : Int) then (if (ji47) ≥ ((rd_T40 t334 (wrap64 (bt341.1 - 1))).f4) then (none) else (masterdisclaw14_TocAppends.l1 kj35 a0 (x6_3.set ((ji47) : Int).toNat true) l1 (l1.length : Int) x36_2 ((rd_T26 l1 x36_2).f2) (wrap64 (x55_3 + 1)) t332 t333 t334 ((rd_T26 l1 x36_2).f0) ((rd_T26 l1 x36_2).f1) ((rd_T26 l1 x36_2).f2) ((rd_T26 l1 x36_2).f3))) else (none)) else (none)))) else (none))) else (none)) else (none)) = some r := by first | (rw [hji47] at H; exact H) | (simp only [hji47] at H ⊢; exact H)
                               have hji47w : (IntKind.i64.wrap (((rd_T26 l1 x36_2).f1) + x55_3)) = ji47 := (i64_w _).trans hji47
                               by_cases c48 : 0 ≤ (ji47)
                               · rw [if_pos c48] at H
                                 have c48b0 : decide (0 ≤ (ji47)) = true := decide_eq_true c48
                                 clear c48
                                 by_cases c49 : (ji47) < (x6_3.length : Int)
                                 · rw [if_pos c49] at H
                                   have c49b0 : decide ((ji47) < (x6_3.length : Int)) = true := decide_eq_true c49
                                   clear c49
                                   obtain ⟨y340, hy340⟩ : ∃ y_ : List Bool, y_ = (x6_3.set ((ji47) : Int).toNat true) := ⟨_, rfl⟩
                                   replace H : ((toc_Find.f kj35 t332 t333 t334 (ji47)).bind fun bt341 => (if bt341.2 = true then (if bt341.1 < 1 then (none) else (if bt341.1 > (t334.length : Int) then (none) else (if 0 ≤ (wrap64 (bt341.1 - 1)) then (if (wrap64 (bt341.1 - 1)) < (t334.length : Int) then (if (ji47) ≥ ((rd_T40 t334 (wrap64 (bt341.1 - 1))).f4) then (none) else (masterdisclaw14_TocAppends.l1 kj35 a0 y340 l1 (l1.length : Int) x36_2 ((rd_T26 l1 x36_2).f2) (wrap64 (x55_3 + 1)) t332 t333 t334 ((rd_T26 l1 x36_2).f0) ((rd_T26 l1 x36_2).f1) ((rd_T26 l1 x36_2).f2) ((rd_T26 l1 x36_2).f3))) else (none)) else (none)))) else (none))) = some r := by first | (rw [hy340]; with_reducible exact H) | (have H2_ := (Option.bind_some _ _).symm.trans H; rw [hy340]; with_reducible exact H2_) | (have H2_ := (Option.bind_some _ _).symm.trans H; with_reducible exact H2_) | with_reducible exact H | (rw [hy340]; exact H) | exact H
                                   have Ny340 := Aside0.mk hy340
                                   clear hy340
                                   replace H := Option.bind_eq_some_iff.mp H
                                   obtain ⟨⟨t341, t342⟩, A510, H⟩ := H
                                   replace H : (if t342 = true then (if t341 < 1 then (none) else (if t341 > (t334.length : Int) then (none) else (if 0 ≤ (wrap64 (t341 - 1)) then (if (wrap64 (t341 - 1)) < (t334.length : Int) then (if (ji47) ≥ ((rd_T40 t334 (wrap64 (t341 - 1))).f4) then (none) else (masterdisclaw14_TocAppends.l1 kj35 a0 y340 l1 (l1.length : Int) x36_2 ((rd_T26 l1 x36_2).f2) (wrap64 (x55_3 + 1)) t332 t333 t334 ((rd_T26 l1 x36_2).f0) ((rd_T26 l1 x36_2).f1) ((rd_T26 l1 x36_2).f2) ((rd_T26 l1 x36_2).f3))) else (none)) else (none)))) else (none)) = some r := H
                                   have A51 := Aside0.mk A510
                                   clear A510
                                   by_cases c52 : t342 = true
                                   · subst c52
                                     have H1 : (if t341 < 1 then (none) else (if t341 > (t334.length : Int) then (none) else (if 0 ≤ (wrap64 (t341 - 1)) then (if (wrap64 (t341 - 1)) < (t334.length : Int) then (if (ji47) ≥ ((rd_T40 t334 (wrap64 (t341 - 1))).f4) then (none) else (masterdisclaw14_TocAppends.l1 kj35 a0 y340 l1 (l1.length : Int) x36_2 ((rd_T26 l1 x36_2).f2) (wrap64 (x55_3 + 1)) t332 t333 t334 ((rd_T26 l1 x36_2).f0) ((rd_T26 l1 x36_2).f1) ((rd_T26 l1 x36_2).f2) ((rd_T26 l1 x36_2).f3))) else (none)) else (none)))) = some r := by rw [if_pos rfl] at H; exact H
                                     clear H
                                     have H := H1
                                     clear H1
                                     by_cases c53 : t341 < 1
                                     · rw [if_pos c53] at H
                                       exact absurd H (by simp)
                                     · rw [if_neg c53] at H
                                       have c53b0 : decide (t341 < 1) = false := decide_eq_false c53
                                       clear c53
                                       by_cases c54 : t341 > (t334.length : Int)
                                       · rw [if_pos c54] at H
                                         exact absurd H (by simp)
                                       · rw [if_neg c54] at H
                                         have c54b0 : decide ((t334.length : Int) < t341) = false := decide_eq_false c54
                                         clear c54
                                         obtain ⟨ji55, hji55⟩ : ∃ j_ : Int, (wrap64 (t341 - 1)) = j_ := ⟨_, rfl⟩
                                         replace H : (if 0 ≤ (ji55) then (if (ji55) < (t334.length : Int) then (if (ji47) ≥ ((rd_T40 t334 (ji55)).f4) then (none) else (masterdisclaw14_TocAppends.l1 kj35 a0 y340 l1 (l1.length : Int) x36_2 ((rd_T26 l1 x36_2).f2) (wrap64 (x55_3 + 1)) t332 t333 t334 ((rd_T26 l1 x36_2).f0) ((rd_T26 l1 x36_2).f1) ((rd_T26 l1 x36_2).f2) ((rd_T26 l1 x36_2).f3))) else (none)) else (none)) = some r := by first | (rw [hji55] at H; exact H) | (simp only [hji55] at H ⊢; exact H)
                                         (try rw [hji55] at A51)
                                         have hji55w : (IntKind.i64.wrap (t341 - 1)) = ji55 := (i64_w _).trans hji55
                                         by_cases c56 : 0 ≤ (ji55)
                                         · rw [if_pos c56] at H
                                           have c56b0 : decide (0 ≤ (ji55)) = true := decide_eq_true c56
                                           clear c56
                                           by_cases c57 : (ji55) < (t334.length : Int)
                                           · rw [if_pos c57] at H
                                             have c57b0 : decide ((ji55) < (t334.length : Int)) = true := decide_eq_true c57
                                             clear c57
                                             by_cases c58 : (ji47) ≥ ((rd_T40 t334 (ji55)).f4)
                                             · rw [if_pos c58] at H
                                               exact absurd H (by simp)
                                             · rw [if_neg c58] at H
                                               have c58b0 : decide (((rd_T40 t334 (ji55)).f4) ≤ (ji47)) = false := decide_eq_false c58
                                               clear c58
                                               have H' := Aside0.mk H
                                               clear H
                                               have p50 : 0 ≤ ((ji47) : Int) := of_decide_eq_true (by first | (with_reducible assumption) | assumption)
                                               have q50 : ((ji47) : Int) < ((x6_3.length : Int) : Int) := of_decide_eq_true (by first | (with_reducible assumption) | assumption)
                                               obtain ⟨go50, co50, eo50, gb50, gl50, cl50, HG50⟩ := Kd.R_form HO_6.out (by omega)
                                               (first | cases eo50 | (injection eo50 with ea_ en_ ec_; (first | subst ea_ | (injection ea_ with ea_; subst ea_)); subst ec_; clear en_))
                                               have GB50 := Aside0.mk gb50
                                               have GG50 := Aside0.mk HG50
                                               clear gb50 gl50 HG50
                                               obtain ⟨hx50_0, hf50_0⟩ := Kd.R_celln false HO_6.out ((ji47) : Int) p50 q50
                                               replace p50 := eq_true p50
                                               replace q50 := eq_true q50
                                               have HP59 := Kd.R_putg HO_6.out ((ji47) : Int) true
                                               go_wp2_with (first | ((with_reducible refine gate_store (t := 4) (p := 77) rfl ?_); refine store_event (t := 4) (p := 77) (v := ?vo_w60) (w1 := (wc.setCell ⟨go50, ((ji47) : Int).toNat, none⟩ (.bool true))) ?hg ?ho ?hn ?hr ?_; (case ho => rfl); (case hg => rfl); (case hn => rfl); (case hr => first | (go_simp; done) | (go_simp; rfl)); intro w60 hw; have hg : wc.grownBy w60 (some go50) := (by rw [hw]; exact HP59.2); have hp_ : Kd.R Kd.bool 4 w60 w.heap.size (fun _ => True) (.slice (some ⟨go50, 0, none⟩) x6_3.length co50) y340 := (by rw [hw, Ny340.out]; exact HP59.1); clear HP59; have n0_ := Aside0.mk (hp_); have n1_ := Aside0.mk (Kd.R_over' (v := (.slice (some ⟨go50, 0, none⟩) x6_3.length co50)) (by (with_reducible repeat (first | apply Kd.R_alloc | apply Kd.R_drewN | apply Kd.R_drew)); exact HO_327002.out) (Kd.R_typed HO_6.out) (by decide) hg); have n2_ := Aside0.mk (Kd.R_over' (v := (.slice (some ⟨go50, 0, none⟩) x6_3.length co50)) (by (with_reducible repeat (first | apply Kd.R_alloc | apply Kd.R_drewN | apply Kd.R_drew)); exact HO_339002.out) (Kd.R_typed HO_6.out) (by decide) hg); have n3_ := Aside0.mk (blk_grown (g := gb326) (o := .cells #[.int .i64 t332, .bool t333, .slice Ao32 t334.length co32] 24 (0, 0)) (by (with_reducible repeat (first | refine blk_drewN ?_ _ | refine blk_drew ?_ | refine blk_alloc ?_ _)); exact BK326.out) hg (Kd.R_ne HO_6.out BK326.out (by decide))); have n4_ := Aside0.mk (blk_grown (g := gb331) (o := .cells #[.int .i64 ((rd_T26 l1 x36_2).f0), .int .i64 ((rd_T26 l1 x36_2).f1), .int .i64 ((rd_T26 l1 x36_2).f2), .bool ((rd_T26 l1 x36_2).f3)] 26 (0, 0)) (by (with_reducible repeat (first | refine blk_drewN ?_ _ | refine blk_drew ?_ | refine blk_alloc ?_ _)); exact BK331.out) hg (Kd.R_ne HO_6.out BK331.out (by decide))); have n5_ := Aside0.mk (blk_grown (g := gb338) (o := .cells #[.int .i64 t332, .bool t333, .slice Ao32 t334.length co32] 24 (0, 0)) (by (with_reducible repeat (first | refine blk_drewN ?_ _ | refine blk_drew ?_ | refine blk_alloc ?_ _)); exact BK338.out) hg (Kd.R_ne HO_6.out BK338.out (by decide))); have n6_ := Aside0.mk ((by rw [hw]; exact below_set (HB.out) GB50.out : Below w.heap.size w w60)); clear HO_6; clear HO_327002; clear HO_339002; clear BK326; clear BK331; clear BK338; clear HB; have HO_6 := n0_; have HO_327002 := n1_; have HO_339002 := n2_; have BK326 := n3_; have BK331 := n4_; have BK338 := n5_; have HB := n6_; clear n0_ n1_ n2_ n3_ n4_ n5_ n6_; clear hg hw hp_; have hnb61 := NB326_331.out; have hnc61 := NB331_326.out; have hnb62 := NB326_338.out; have hnc62 := NB338_326.out; obtain ⟨hcz63_0, hcz63_1, hcz63_2⟩ := cel3 BK326.out; obtain ⟨hfz63_0, hfz63_1, hfz63_2⟩ := frz3 BK326.out) | ((with_reducible refine gate_callee (f := 13) rfl ?_); refine goesL_ (some 81) rfl rfl Try.func13 (by kernel_rfl) rfl #[.agg #[.int .i64 t332, .bool t333, .slice Ao32 t334.length co32], .int .i64 (ji47)] rfl (by (try simp only [List.map_toArray, List.map_cons, List.map_nil]); first | done | (simp only [hji47]; rfl) | rfl | (simp only [List.length_drop, List.length_take]; rfl)) ?_; (with_reducible refine (toc_Find.calls kj35 t332 t333 _ _ t334 (ji47) t341 true _ ?side1 ?side2 A51.out).mono ?_); (case side1 => repeat (first | exact (Kd.R_reads' HO_327002.out).2.2 | (with_reducible refine Kd.C_alloc ?_ _) | (with_reducible refine Kd.C_drewN ?_ _) | (with_reducible refine Kd.C_drew ?_))); (case side2 => exact (Kd.R_reads' HO_327002.out).2.1); rintro e w64 ⟨rfl, hb⟩; refine ⟨_, rfl, ?_⟩; have n0_ := Aside0.mk (Kd.R_below (by (with_reducible repeat (first | apply Kd.R_alloc | apply Kd.R_drewN | apply Kd.R_drew)); exact HO_6.out) hb); have n1_ := Aside0.mk (Kd.R_below (by (with_reducible repeat (first | apply Kd.R_alloc | apply Kd.R_drewN | apply Kd.R_drew)); exact HO_327002.out) hb); have n2_ := Aside0.mk (Kd.R_below (by (with_reducible repeat (first | apply Kd.R_alloc | apply Kd.R_drewN | apply Kd.R_drew)); exact HO_339002.out) hb); have n3_ := Aside0.mk (blk_below (g := gb326) (o := .cells #[.int .i64 t332, .bool t333, .slice Ao32 t334.length co32] 24 (0, 0)) (by (with_reducible repeat (first | refine blk_drewN ?_ _ | refine blk_drew ?_ | refine blk_alloc ?_ _)); exact BK326.out) hb); have n4_ := Aside0.mk (blk_below (g := gb331) (o := .cells #[.int .i64 ((rd_T26 l1 x36_2).f0), .int .i64 ((rd_T26 l1 x36_2).f1), .int .i64 ((rd_T26 l1 x36_2).f2), .bool ((rd_T26 l1 x36_2).f3)] 26 (0, 0)) (by (with_reducible repeat (first | refine blk_drewN ?_ _ | refine blk_drew ?_ | refine blk_alloc ?_ _)); exact BK331.out) hb); have n5_ := Aside0.mk (blk_below (g := gb338) (o := .cells #[.int .i64 t332, .bool t333, .slice Ao32 t334.length co32] 24 (0, 0)) (by (with_reducible repeat (first | refine blk_drewN ?_ _ | refine blk_drew ?_ | refine blk_alloc ?_ _)); exact BK338.out) hb); have n6_ := Aside0.mk (below_step (by repeat (first | (with_reducible first | exact HB.out | apply below_alloc | apply pw_below_drewN | apply below_drew1 | refine below_set ?_ GE326.out | refine below_set ?_ GE331.out | refine below_set ?_ GE338.out) | exact HB.out)) hb); clear HO_6; clear HO_327002; clear HO_339002; clear BK326; clear BK331; clear BK338; clear HB; have HO_6 := n0_; have HO_327002 := n1_; have HO_339002 := n2_; have BK326 := n3_; have BK331 := n4_; have BK338 := n5_; have HB := n6_; clear n0_ n1_ n2_ n3_ n4_ n5_ n6_; (try clear hb); (try clear hb2); (try clear hk); (try clear hi); obtain ⟨hcz65_0, hcz65_1, hcz65_2⟩ := cel3 BK326.out; obtain ⟨hfz65_0, hfz65_1, hfz65_2⟩ := frz3 BK326.out; have p343 : 0 ≤ ((ji55) : Int) := of_decide_eq_true (by first | (with_reducible assumption) | assumption); have q343 : (ji55) < (t334.length : Int) := of_decide_eq_true (by first | (with_reducible assumption) | assumption); obtain ⟨ad343, e343, hx343_0, hx343_1, hx343_2, hx343_3, hx343_4, hx343_5, hx343_6⟩ := at_T40 (Kd.R_reads' HO_327002.out).2.2 (ji55) p343 q343; cases e343; replace p343 := eq_true p343; replace q343 := eq_true q343))
                                               go_roundg kj35
                                               case measure => have := HJ4.out; have := HK2.out; have := HK3.out; have := HJ35.out; omega
                                               case rel => exact ⟨(y340), (wrap64 (x55_3 + 1)), (by first | rfl | (simp; done) | (simp [*]; done)), H', ⟨by have := HJ4.out; have := HK2.out; have := HK3.out; have := HJ35.out; omega⟩, ⟨by (with_reducible repeat (first | apply Kd.R_alloc | apply Kd.R_drewN | apply Kd.R_drew)); exact HO_6.out⟩, ⟨by (with_reducible repeat (first | apply Kd.R_alloc | apply Kd.R_drewN | apply Kd.R_drew)); exact HO_327002.out⟩, ⟨by (with_reducible repeat (first | apply Kd.R_alloc | apply Kd.R_drewN | apply Kd.R_drew)); exact HO_339002.out⟩, ⟨by (with_reducible repeat (first | refine blk_drewN ?_ _ | refine blk_drew ?_ | refine blk_alloc ?_ _)); exact BK326.out⟩, ⟨by (with_reducible repeat (first | refine blk_drewN ?_ _ | refine blk_drew ?_ | refine blk_alloc ?_ _)); exact BK331.out⟩, ⟨by (with_reducible repeat (first | refine blk_drewN ?_ _ | refine blk_drew ?_ | refine blk_alloc ?_ _)); exact BK338.out⟩, ⟨by repeat (first | (with_reducible first | exact HB.out | apply below_alloc | apply pw_below_drewN | apply below_drew1 | refine below_set ?_ GE326.out | refine below_set ?_ GE331.out | refine below_set ?_ GE338.out) | exact HB.out)⟩⟩
                                           · rw [if_neg c57] at H
                                             exact absurd H (by simp)
                                         · rw [if_neg c56] at H
                                           exact absurd H (by simp)
                                   · replace c52 := Bool.eq_false_iff.mpr c52
                                     subst c52
                                     have H1 : (none) = some r := by rw [if_neg (show ¬ (false = true) by decide)] at H; exact H
                                     clear H
                                     have H := H1
                                     clear H1
                                     exact absurd H (by simp)
                                 · rw [if_neg c49] at H
                                   exact absurd H (by simp)
                               · rw [if_neg c48] at H
                                 exact absurd H (by simp)
                         · rw [if_neg c35] at H
                           have c35b0 : decide (x55_3 < ((rd_T26 l1 x36_2).f2)) = false := decide_eq_false c35
                           clear c35
                           have H' := Aside0.mk H
                           clear H
                           go_wp2
                           go_roundg k3
                           case measure => have := HJ4.out; have := HK2.out; have := HK3.out; omega
                           case rel => exact ⟨(x6_3), (wrap64 (x36_2 + 1)), (t332), (t333), (t334), (.slice Ao32 t334.length co32), (by first | rfl | (simp; done) | (simp [*]; done)), H', ⟨by have := HJ4.out; have := HK2.out; have := HK3.out; omega⟩, ⟨by (with_reducible repeat (first | apply Kd.R_alloc | apply Kd.R_drewN | apply Kd.R_drew)); exact HO_6.out⟩, ⟨by (with_reducible repeat (first | apply Kd.R_alloc | apply Kd.R_drewN | apply Kd.R_drew)); exact HO_327002.out⟩, ⟨by (with_reducible repeat (first | refine blk_drewN ?_ _ | refine blk_drew ?_ | refine blk_alloc ?_ _)); exact BK326.out⟩, ⟨by repeat (first | (with_reducible first | exact HB.out | apply below_alloc | apply pw_below_drewN | apply below_drew1 | refine below_set ?_ GE326.out | refine below_set ?_ GE331.out | refine below_set ?_ GE338.out) | exact HB.out)⟩⟩
                     · rw [if_neg c21] at H
                       have c21b0 : (((rd_T26 l1 x36_2).f0) == 1) = false := beq_eq_false_iff_ne.mpr c21
                       have c21b1 : (((rd_T26 l1 x36_2).f0) != 1) = true := bne_iff_ne.mpr c21
                       have H' := Aside0.mk H
                       clear H
                       have p330 : 0 ≤ (x36_2 : Int) := of_decide_eq_true (by first | (with_reducible assumption) | assumption)
                       have q330 : x36_2 < (l1.length : Int) := of_decide_eq_true (by first | (with_reducible assumption) | assumption)
                       obtain ⟨ad330, e330, hx330_0, hx330_1, hx330_2, hx330_3⟩ := at_T26 HR1.out x36_2 p330 q330
                       cases e330
                       replace hx330_0 := upc HB.out hx330_0
                       replace hx330_1 := upc HB.out hx330_1
                       replace hx330_2 := upc HB.out hx330_2
                       replace hx330_3 := upc HB.out hx330_3
                       replace p330 := eq_true p330
                       replace q330 := eq_true q330
                       go_wp2_with (first | ((with_reducible refine gate_dst (N := 8) rfl ?_); (try (refine gate_guard (by rfl) ?_; dsimp only)); refine box_event ?hg (N := 8) ?hd (cs := #[.int .i64 0, .int .i64 0, .int .i64 0, .bool false]) (t := 26) ?hr ?_; (case hd => rfl); (case hg => rfl); (case hr => first | (go_simp; done) | (go_simp; rfl)); intro gb331 hg w66 hbox hb; have n0_ := Aside0.mk (Kd.R_below (by (with_reducible repeat (first | apply Kd.R_alloc | apply Kd.R_drewN | apply Kd.R_drew)); exact HO_6.out) hb); have n1_ := Aside0.mk (Kd.R_below (by (with_reducible repeat (first | apply Kd.R_alloc | apply Kd.R_drewN | apply Kd.R_drew)); exact HO_327002.out) hb); have n2_ := Aside0.mk (blk_below (g := gb326) (o := .cells #[.int .i64 x327000_2, .bool x327001_2, u327002] 24 (0, 0)) (by (with_reducible repeat (first | refine blk_drewN ?_ _ | refine blk_drew ?_ | refine blk_alloc ?_ _)); exact BK326.out) hb); have n3_ := Aside0.mk (below_step (by repeat (first | (with_reducible first | exact HB.out | apply below_alloc | apply pw_below_drewN | apply below_drew1 | refine below_set ?_ GE326.out) | exact HB.out)) hb); have n4_ := Aside0.mk (hbox); have n5_ := Aside0.mk ((by rw [hg]; exact (below_size (by repeat (first | (with_reducible first | exact HB.out | apply below_alloc | apply pw_below_drewN | apply below_drew1 | refine below_set ?_ GE326.out) | exact HB.out))) : w.heap.size ≤ gb331)); have n6_ := Aside0.mk ((by rw [hg]; exact (below_size (by repeat (first | (with_reducible first | exact HB.out | apply below_alloc | apply pw_below_drewN | apply below_drew1 | refine below_set ?_ GE326.out) | exact HB.out))) : w.heap.size ≤ gb331)); have n7_ := Aside0.mk ((by rw [hg]; exact Nat.ne_of_lt (blk_lt (g := gb326) (o := .cells #[.int .i64 x327000_2, .bool x327001_2, u327002] 24 (0, 0)) (by (with_reducible repeat (first | refine blk_drewN ?_ _ | refine blk_drew ?_ | refine blk_alloc ?_ _)); exact BK326.out)) : gb326 ≠ gb331)); have n8_ := Aside0.mk ((by rw [hg]; exact Nat.ne_of_gt (blk_lt (g := gb326) (o := .cells #[.int .i64 x327000_2, .bool x327001_2, u327002] 24 (0, 0)) (by (with_reducible repeat (first | refine blk_drewN ?_ _ | refine blk_drew ?_ | refine blk_alloc ?_ _)); exact BK326.out)) : gb331 ≠ gb326)); clear HO_6; clear HO_327002; clear BK326; clear HB; have HO_6 := n0_; have HO_327002 := n1_; have BK326 := n2_; have HB := n3_; have BK331 := n4_; have GW331 := n5_; have GE331 := n6_; have NB326_331 := n7_; have NB331_326 := n8_; clear n0_ n1_ n2_ n3_ n4_ n5_ n6_ n7_ n8_; clear hb hbox hg; have hnb67 := NB331_326.out; have hnc67 := NB326_331.out; obtain ⟨hcz68_0, hcz68_1, hcz68_2, hcz68_3⟩ := cel4 BK331.out; obtain ⟨hfz68_0, hfz68_1, hfz68_2, hfz68_3⟩ := frz4 BK331.out; obtain ⟨hcz69_0, hcz69_1, hcz69_2⟩ := cel3 BK326.out; obtain ⟨hfz69_0, hfz69_1, hfz69_2⟩ := frz3 BK326.out; obtain ⟨Ao70, co70, eo70⟩ := Kd.R_slice HO_327002.out; subst eo70) | ((with_reducible refine gate_callee (f := 8) rfl ?_); refine goesL_ (some 44) rfl rfl Try.func8 (by kernel_rfl) rfl #[.int .i64 a0, .agg #[.int .i64 x327000_2, .bool x327001_2, .slice Ao70 x327002_2.length co70], .agg #[.int .i64 ((rd_T26 l1 x36_2).f0), .int .i64 ((rd_T26 l1 x36_2).f1), .int .i64 ((rd_T26 l1 x36_2).f2), .bool ((rd_T26 l1 x36_2).f3)]] rfl (by (try simp only [List.map_toArray, List.map_cons, List.map_nil]); first | done | rfl | (simp only [List.length_drop, List.length_take]; rfl)) ?_; (with_reducible refine (masterdisclaw14_do.calls k2 a0 x327000_2 x327001_2 _ _ x327002_2 ((rd_T26 l1 x36_2).f0) ((rd_T26 l1 x36_2).f1) ((rd_T26 l1 x36_2).f2) ((rd_T26 l1 x36_2).f3) t332 t333 t334 t337 _ ?side1 ?side2 A19.out).mono ?_); (case side1 => refine (Kd.R_reads' (e := 40) (base := w.heap.size) (ok := fun k_ => True) (n := x327002_2.length) (c := co70) ?_).2.2; exact (by (with_reducible repeat (first | apply Kd.R_alloc | apply Kd.R_drewN | apply Kd.R_drew)); exact (Kd.R_mono (Kd.R_far (p := ⟨gb331, 3, none⟩) (Kd.R_far (p := ⟨gb331, 2, none⟩) (Kd.R_far (p := ⟨gb331, 1, none⟩) (Kd.R_far (p := ⟨gb331, 0, none⟩) (Kd.R_types HO_327002.out BK331.out (by decide)) (fun _ hk => hk.2) (.int .i64 ((rd_T26 l1 x36_2).f0))) (fun _ hk => hk.2) (.int .i64 ((rd_T26 l1 x36_2).f1))) (fun _ hk => hk.2) (.int .i64 ((rd_T26 l1 x36_2).f2))) (fun _ hk => hk.2) (.bool ((rd_T26 l1 x36_2).f3))) (fun _ h_ => h_.1)))); (case side2 => exact (Kd.R_reads' HO_327002.out).2.1); rintro e w71 ⟨v335, rfl, ho0, hb⟩; refine ⟨_, rfl, ?_⟩; have n0_ := Aside0.mk (Kd.R_below (by (with_reducible repeat (first | apply Kd.R_alloc | apply Kd.R_drewN | apply Kd.R_drew)); exact (Kd.R_mono (Kd.R_far (p := ⟨gb331, 3, none⟩) (Kd.R_far (p := ⟨gb331, 2, none⟩) (Kd.R_far (p := ⟨gb331, 1, none⟩) (Kd.R_far (p := ⟨gb331, 0, none⟩) (Kd.R_types HO_6.out BK331.out (by decide)) (fun _ hk => hk.2) (.int .i64 ((rd_T26 l1 x36_2).f0))) (fun _ hk => hk.2) (.int .i64 ((rd_T26 l1 x36_2).f1))) (fun _ hk => hk.2) (.int .i64 ((rd_T26 l1 x36_2).f2))) (fun _ hk => hk.2) (.bool ((rd_T26 l1 x36_2).f3))) (fun _ h_ => h_.1))) hb); have n1_ := Aside0.mk (Kd.R_elder' (by (with_reducible repeat (first | apply Kd.R_alloc | apply Kd.R_drewN | apply Kd.R_drew)); exact (Kd.R_mono (Kd.R_far (p := ⟨gb331, 3, none⟩) (Kd.R_far (p := ⟨gb331, 2, none⟩) (Kd.R_far (p := ⟨gb331, 1, none⟩) (Kd.R_far (p := ⟨gb331, 0, none⟩) (Kd.R_types HO_327002.out BK331.out (by decide)) (fun _ hk => hk.2) (.int .i64 ((rd_T26 l1 x36_2).f0))) (fun _ hk => hk.2) (.int .i64 ((rd_T26 l1 x36_2).f1))) (fun _ hk => hk.2) (.int .i64 ((rd_T26 l1 x36_2).f2))) (fun _ hk => hk.2) (.bool ((rd_T26 l1 x36_2).f3))) (fun _ h_ => h_.1))) (Kd.R_base ho0) hb); have n2_ := Aside0.mk (Kd.R_lower (Kd.R_new' ho0 (Kd.R_lt (by (with_reducible repeat (first | apply Kd.R_alloc | apply Kd.R_drewN | apply Kd.R_drew)); exact (Kd.R_mono (Kd.R_far (p := ⟨gb331, 3, none⟩) (Kd.R_far (p := ⟨gb331, 2, none⟩) (Kd.R_far (p := ⟨gb331, 1, none⟩) (Kd.R_far (p := ⟨gb331, 0, none⟩) (Kd.R_types HO_327002.out BK331.out (by decide)) (fun _ hk => hk.2) (.int .i64 ((rd_T26 l1 x36_2).f0))) (fun _ hk => hk.2) (.int .i64 ((rd_T26 l1 x36_2).f1))) (fun _ hk => hk.2) (.int .i64 ((rd_T26 l1 x36_2).f2))) (fun _ hk => hk.2) (.bool ((rd_T26 l1 x36_2).f3))) (fun _ h_ => h_.1))))) (below_size (by repeat (first | (with_reducible first | exact HB.out | apply below_alloc | apply pw_below_drewN | apply below_drew1 | refine below_set ?_ GE326.out | refine below_set ?_ GE331.out) | exact HB.out)))); have n3_ := Aside0.mk (blk_below (g := gb326) (o := .cells #[.int .i64 x327000_2, .bool x327001_2, .slice Ao70 x327002_2.length co70] 24 (0, 0)) (by (with_reducible repeat (first | refine blk_drewN ?_ _ | refine blk_drew ?_ | refine blk_alloc ?_ _)); refine blk_far ?_ NB326_331.out _; (with_reducible repeat (first | refine blk_drewN ?_ _ | refine blk_drew ?_ | refine blk_alloc ?_ _)); refine blk_far ?_ NB326_331.out _; (with_reducible repeat (first | refine blk_drewN ?_ _ | refine blk_drew ?_ | refine blk_alloc ?_ _)); refine blk_far ?_ NB326_331.out _; (with_reducible repeat (first | refine blk_drewN ?_ _ | refine blk_drew ?_ | refine blk_alloc ?_ _)); refine blk_far ?_ NB326_331.out _; (with_reducible repeat (first | refine blk_drewN ?_ _ | refine blk_drew ?_ | refine blk_alloc ?_ _)); exact BK326.out) hb); have n4_ := Aside0.mk (blk_below (g := gb331) (o := .cells #[.int .i64 ((rd_T26 l1 x36_2).f0), .int .i64 ((rd_T26 l1 x36_2).f1), .int .i64 ((rd_T26 l1 x36_2).f2), .bool ((rd_T26 l1 x36_2).f3)] 26 (0, 0)) (by (with_reducible repeat (first | refine blk_drewN ?_ _ | refine blk_drew ?_ | refine blk_alloc ?_ _)); refine blk_put (cs := #[.int .i64 ((rd_T26 l1 x36_2).f0), .int .i64 ((rd_T26 l1 x36_2).f1), .int .i64 ((rd_T26 l1 x36_2).f2), .bool false]) ?_ 3 _ rfl; (with_reducible repeat (first | refine blk_drewN ?_ _ | refine blk_drew ?_ | refine blk_alloc ?_ _)); refine blk_put (cs := #[.int .i64 ((rd_T26 l1 x36_2).f0), .int .i64 ((rd_T26 l1 x36_2).f1), .int .i64 0, .bool false]) ?_ 2 _ rfl; (with_reducible repeat (first | refine blk_drewN ?_ _ | refine blk_drew ?_ | refine blk_alloc ?_ _)); refine blk_put (cs := #[.int .i64 ((rd_T26 l1 x36_2).f0), .int .i64 0, .int .i64 0, .bool false]) ?_ 1 _ rfl; (with_reducible repeat (first | refine blk_drewN ?_ _ | refine blk_drew ?_ | refine blk_alloc ?_ _)); refine blk_put (cs := #[.int .i64 0, .int .i64 0, .int .i64 0, .bool false]) ?_ 0 _ rfl; (with_reducible repeat (first | refine blk_drewN ?_ _ | refine blk_drew ?_ | refine blk_alloc ?_ _)); exact BK331.out) hb); have n5_ := Aside0.mk (below_step (by repeat (first | (with_reducible first | exact HB.out | apply below_alloc | apply pw_below_drewN | apply below_drew1 | refine below_set ?_ GE326.out | refine below_set ?_ GE331.out) | exact HB.out)) hb); clear HO_6; clear HO_327002; clear BK326; clear BK331; clear HB; have HO_6 := n0_; have HO_327002 := n1_; have HO336 := n2_; have BK326 := n3_; have BK331 := n4_; have HB := n5_; clear n0_ n1_ n2_ n3_ n4_ n5_; (try clear hb); (try clear hb2); (try clear hk); (try clear hi); (try clear ho0)) | ((with_reducible refine gate_dst (N := 9) rfl ?_); (try (refine gate_guard (by rfl) ?_; dsimp only)); refine box_event ?hg (N := 9) ?hd (cs := #[.int .i64 0, .bool false, .slice none 0 0]) (t := 24) ?hr ?_; (case hd => rfl); (case hg => rfl); (case hr => first | (go_simp; done) | (go_simp; rfl)); intro gb338 hg w72 hbox hb; have n0_ := Aside0.mk (Kd.R_below (by (with_reducible repeat (first | apply Kd.R_alloc | apply Kd.R_drewN | apply Kd.R_drew)); exact HO_6.out) hb); have n1_ := Aside0.mk (Kd.R_below (by (with_reducible repeat (first | apply Kd.R_alloc | apply Kd.R_drewN | apply Kd.R_drew)); exact HO_327002.out) hb); have n2_ := Aside0.mk (Kd.R_below (by (with_reducible repeat (first | apply Kd.R_alloc | apply Kd.R_drewN | apply Kd.R_drew)); exact HO336.out) hb); have n3_ := Aside0.mk (blk_below (g := gb326) (o := .cells #[.int .i64 x327000_2, .bool x327001_2, .slice Ao70 x327002_2.length co70] 24 (0, 0)) (by (with_reducible repeat (first | refine blk_drewN ?_ _ | refine blk_drew ?_ | refine blk_alloc ?_ _)); exact BK326.out) hb); have n4_ := Aside0.mk (blk_below (g := gb331) (o := .cells #[.int .i64 ((rd_T26 l1 x36_2).f0), .int .i64 ((rd_T26 l1 x36_2).f1), .int .i64 ((rd_T26 l1 x36_2).f2), .bool ((rd_T26 l1 x36_2).f3)] 26 (0, 0)) (by (with_reducible repeat (first | refine blk_drewN ?_ _ | refine blk_drew ?_ | refine blk_alloc ?_ _)); exact BK331.out) hb); have n5_ := Aside0.mk (below_step (by repeat (first | (with_reducible first | exact HB.out | apply below_alloc | apply pw_below_drewN | apply below_drew1 | refine below_set ?_ GE326.out | refine below_set ?_ GE331.out) | exact HB.out)) hb); have n6_ := Aside0.mk (hbox); have n7_ := Aside0.mk ((by rw [hg]; exact (below_size (by repeat (first | (with_reducible first | exact HB.out | apply below_alloc | apply pw_below_drewN | apply below_drew1 | refine below_set ?_ GE326.out | refine below_set ?_ GE331.out) | exact HB.out))) : w.heap.size ≤ gb338)); have n8_ := Aside0.mk ((by rw [hg]; exact (below_size (by repeat (first | (with_reducible first | exact HB.out | apply below_alloc | apply pw_below_drewN | apply below_drew1 | refine below_set ?_ GE326.out | refine below_set ?_ GE331.out) | exact HB.out))) : w.heap.size ≤ gb338)); have n9_ := Aside0.mk ((by rw [hg]; exact Nat.ne_of_lt (blk_lt (g := gb326) (o := .cells #[.int .i64 x327000_2, .bool x327001_2, .slice Ao70 x327002_2.length co70] 24 (0, 0)) (by (with_reducible repeat (first | refine blk_drewN ?_ _ | refine blk_drew ?_ | refine blk_alloc ?_ _)); exact BK326.out)) : gb326 ≠ gb338)); have n10_ := Aside0.mk ((by rw [hg]; exact Nat.ne_of_gt (blk_lt (g := gb326) (o := .cells #[.int .i64 x327000_2, .bool x327001_2, .slice Ao70 x327002_2.length co70] 24 (0, 0)) (by (with_reducible repeat (first | refine blk_drewN ?_ _ | refine blk_drew ?_ | refine blk_alloc ?_ _)); exact BK326.out)) : gb338 ≠ gb326)); have n11_ := Aside0.mk ((by rw [hg]; exact Nat.ne_of_lt (blk_lt (g := gb331) (o := .cells #[.int .i64 ((rd_T26 l1 x36_2).f0), .int .i64 ((rd_T26 l1 x36_2).f1), .int .i64 ((rd_T26 l1 x36_2).f2), .bool ((rd_T26 l1 x36_2).f3)] 26 (0, 0)) (by (with_reducible repeat (first | refine blk_drewN ?_ _ | refine blk_drew ?_ | refine blk_alloc ?_ _)); exact BK331.out)) : gb331 ≠ gb338)); have n12_ := Aside0.mk ((by rw [hg]; exact Nat.ne_of_gt (blk_lt (g := gb331) (o := .cells #[.int .i64 ((rd_T26 l1 x36_2).f0), .int .i64 ((rd_T26 l1 x36_2).f1), .int .i64 ((rd_T26 l1 x36_2).f2), .bool ((rd_T26 l1 x36_2).f3)] 26 (0, 0)) (by (with_reducible repeat (first | refine blk_drewN ?_ _ | refine blk_drew ?_ | refine blk_alloc ?_ _)); exact BK331.out)) : gb338 ≠ gb331)); clear HO_6; clear HO_327002; clear HO336; clear BK326; clear BK331; clear HB; have HO_6 := n0_; have HO_327002 := n1_; have HO336 := n2_; have BK326 := n3_; have BK331 := n4_; have HB := n5_; have BK338 := n6_; have GW338 := n7_; have GE338 := n8_; have NB326_338 := n9_; have NB338_326 := n10_; have NB331_338 := n11_; have NB338_331 := n12_; clear n0_ n1_ n2_ n3_ n4_ n5_ n6_ n7_ n8_ n9_ n10_ n11_ n12_; clear hb hbox hg; have hnb73 := NB338_326.out; have hnc73 := NB326_338.out; have hnb74 := NB338_331.out; have hnc74 := NB331_338.out; obtain ⟨hcz75_0, hcz75_1, hcz75_2⟩ := cel3 BK338.out; obtain ⟨hfz75_0, hfz75_1, hfz75_2⟩ := frz3 BK338.out; obtain ⟨Ao76, co76, eo76⟩ := Kd.R_slice HO336.out; subst eo76; obtain ⟨hcz77_0, hcz77_1, hcz77_2⟩ := cel3 BK326.out; obtain ⟨hfz77_0, hfz77_1, hfz77_2⟩ := frz3 BK326.out; obtain ⟨hcz78_0, hcz78_1, hcz78_2, hcz78_3⟩ := cel4 BK331.out; obtain ⟨hfz78_0, hfz78_1, hfz78_2, hfz78_3⟩ := frz4 BK331.out))
                       go_roundg k2
                       case measure => have := HJ4.out; have := HK2.out; omega
                       case rel => exact ⟨(x6_2), (wrap64 (x36_2 + 1)), (t332), (t333), (t334), (.slice Ao76 t334.length co76), (by first | rfl | (simp; done) | (simp [*]; done)), H', ⟨by have := HJ4.out; have := HK2.out; omega⟩, ⟨by (with_reducible repeat (first | apply Kd.R_alloc | apply Kd.R_drewN | apply Kd.R_drew)); exact Kd.R_mono (Kd.R_far (p := ⟨gb326, 2, none⟩) (Kd.R_far (p := ⟨gb326, 1, none⟩) (Kd.R_far (p := ⟨gb326, 0, none⟩) (Kd.R_far (p := ⟨gb338, 2, none⟩) (Kd.R_far (p := ⟨gb338, 1, none⟩) (Kd.R_far (p := ⟨gb338, 0, none⟩) (Kd.R_types (Kd.R_types HO_6.out BK338.out (by decide)) BK326.out (by decide)) (fun _ hk => hk.1.2) (.int .i64 t332)) (fun _ hk => hk.1.2) (.bool t333)) (fun _ hk => hk.1.2) (.slice Ao76 t334.length co76)) (fun _ hk => hk.2) (.int .i64 t332)) (fun _ hk => hk.2) (.bool t333)) (fun _ hk => hk.2) (.slice Ao76 t334.length co76)) (fun _ hk => trivial)⟩, ⟨by (with_reducible repeat (first | apply Kd.R_alloc | apply Kd.R_drewN | apply Kd.R_drew)); exact Kd.R_mono (Kd.R_far (p := ⟨gb326, 2, none⟩) (Kd.R_far (p := ⟨gb326, 1, none⟩) (Kd.R_far (p := ⟨gb326, 0, none⟩) (Kd.R_far (p := ⟨gb338, 2, none⟩) (Kd.R_far (p := ⟨gb338, 1, none⟩) (Kd.R_far (p := ⟨gb338, 0, none⟩) (Kd.R_types (Kd.R_types HO336.out BK338.out (by decide)) BK326.out (by decide)) (fun _ hk => hk.1.2) (.int .i64 t332)) (fun _ hk => hk.1.2) (.bool t333)) (fun _ hk => hk.1.2) (.slice Ao76 t334.length co76)) (fun _ hk => hk.2) (.int .i64 t332)) (fun _ hk => hk.2) (.bool t333)) (fun _ hk => hk.2) (.slice Ao76 t334.length co76)) (fun _ hk => trivial)⟩, ⟨by (with_reducible repeat (first | refine blk_drewN ?_ _ | refine blk_drew ?_ | refine blk_alloc ?_ _)); refine blk_put (cs := #[.int .i64 t332, .bool t333, .slice Ao70 x327002_2.length co70]) ?_ 2 _ rfl; (with_reducible repeat (first | refine blk_drewN ?_ _ | refine blk_drew ?_ | refine blk_alloc ?_ _)); refine blk_put (cs := #[.int .i64 t332, .bool x327001_2, .slice Ao70 x327002_2.length co70]) ?_ 1 _ rfl; (with_reducible repeat (first | refine blk_drewN ?_ _ | refine blk_drew ?_ | refine blk_alloc ?_ _)); refine blk_put (cs := #[.int .i64 x327000_2, .bool x327001_2, .slice Ao70 x327002_2.length co70]) ?_ 0 _ rfl; (with_reducible repeat (first | refine blk_drewN ?_ _ | refine blk_drew ?_ | refine blk_alloc ?_ _)); refine blk_far ?_ NB326_338.out _; (with_reducible repeat (first | refine blk_drewN ?_ _ | refine blk_drew ?_ | refine blk_alloc ?_ _)); refine blk_far ?_ NB326_338.out _; (with_reducible repeat (first | refine blk_drewN ?_ _ | refine blk_drew ?_ | refine blk_alloc ?_ _)); refine blk_far ?_ NB326_338.out _; (with_reducible repeat (first | refine blk_drewN ?_ _ | refine blk_drew ?_ | refine blk_alloc ?_ _)); exact BK326.out⟩, ⟨by repeat (first | (with_reducible first | exact HB.out | apply below_alloc | apply pw_below_drewN | apply below_drew1 | refine below_set ?_ GE326.out | refine below_set ?_ GE331.out | refine below_set ?_ GE338.out) | exact HB.out)⟩⟩
                   · rw [if_neg c20] at H
                     have c20b0 : (t337 == 0) = false := beq_eq_false_iff_ne.mpr c20
                     have c20b1 : (t337 != 0) = true := bne_iff_ne.mpr c20
                     have H' := Aside0.mk H
                     clear H
                     have p330 : 0 ≤ (x36_2 : Int) := of_decide_eq_true (by first | (with_reducible assumption) | assumption)
                     have q330 : x36_2 < (l1.length : Int) := of_decide_eq_true (by first | (with_reducible assumption) | assumption)
                     obtain ⟨ad330, e330, hx330_0, hx330_1, hx330_2, hx330_3⟩ := at_T26 HR1.out x36_2 p330 q330
                     cases e330
                     replace hx330_0 := upc HB.out hx330_0
                     replace hx330_1 := upc HB.out hx330_1
                     replace hx330_2 := upc HB.out hx330_2
                     replace hx330_3 := upc HB.out hx330_3
                     replace p330 := eq_true p330
                     replace q330 := eq_true q330
                     go_wp2_with (first | ((with_reducible refine gate_dst (N := 8) rfl ?_); (try (refine gate_guard (by rfl) ?_; dsimp only)); refine box_event ?hg (N := 8) ?hd (cs := #[.int .i64 0, .int .i64 0, .int .i64 0, .bool false]) (t := 26) ?hr ?_; (case hd => rfl); (case hg => rfl); (case hr => first | (go_simp; done) | (go_simp; rfl)); intro gb331 hg w79 hbox hb; have n0_ := Aside0.mk (Kd.R_below (by (with_reducible repeat (first | apply Kd.R_alloc | apply Kd.R_drewN | apply Kd.R_drew)); exact HO_6.out) hb); have n1_ := Aside0.mk (Kd.R_below (by (with_reducible repeat (first | apply Kd.R_alloc | apply Kd.R_drewN | apply Kd.R_drew)); exact HO_327002.out) hb); have n2_ := Aside0.mk (blk_below (g := gb326) (o := .cells #[.int .i64 x327000_2, .bool x327001_2, u327002] 24 (0, 0)) (by (with_reducible repeat (first | refine blk_drewN ?_ _ | refine blk_drew ?_ | refine blk_alloc ?_ _)); exact BK326.out) hb); have n3_ := Aside0.mk (below_step (by repeat (first | (with_reducible first | exact HB.out | apply below_alloc | apply pw_below_drewN | apply below_drew1 | refine below_set ?_ GE326.out) | exact HB.out)) hb); have n4_ := Aside0.mk (hbox); have n5_ := Aside0.mk ((by rw [hg]; exact (below_size (by repeat (first | (with_reducible first | exact HB.out | apply below_alloc | apply pw_below_drewN | apply below_drew1 | refine below_set ?_ GE326.out) | exact HB.out))) : w.heap.size ≤ gb331)); have n6_ := Aside0.mk ((by rw [hg]; exact (below_size (by repeat (first | (with_reducible first | exact HB.out | apply below_alloc | apply pw_below_drewN | apply below_drew1 | refine below_set ?_ GE326.out) | exact HB.out))) : w.heap.size ≤ gb331)); have n7_ := Aside0.mk ((by rw [hg]; exact Nat.ne_of_lt (blk_lt (g := gb326) (o := .cells #[.int .i64 x327000_2, .bool x327001_2, u327002] 24 (0, 0)) (by (with_reducible repeat (first | refine blk_drewN ?_ _ | refine blk_drew ?_ | refine blk_alloc ?_ _)); exact BK326.out)) : gb326 ≠ gb331)); have n8_ := Aside0.mk ((by rw [hg]; exact Nat.ne_of_gt (blk_lt (g := gb326) (o := .cells #[.int .i64 x327000_2, .bool x327001_2, u327002] 24 (0, 0)) (by (with_reducible repeat (first | refine blk_drewN ?_ _ | refine blk_drew ?_ | refine blk_alloc ?_ _)); exact BK326.out)) : gb331 ≠ gb326)); clear HO_6; clear HO_327002; clear BK326; clear HB; have HO_6 := n0_; have HO_327002 := n1_; have BK326 := n2_; have HB := n3_; have BK331 := n4_; have GW331 := n5_; have GE331 := n6_; have NB326_331 := n7_; have NB331_326 := n8_; clear n0_ n1_ n2_ n3_ n4_ n5_ n6_ n7_ n8_; clear hb hbox hg; have hnb80 := NB331_326.out; have hnc80 := NB326_331.out; obtain ⟨hcz81_0, hcz81_1, hcz81_2, hcz81_3⟩ := cel4 BK331.out; obtain ⟨hfz81_0, hfz81_1, hfz81_2, hfz81_3⟩ := frz4 BK331.out; obtain ⟨hcz82_0, hcz82_1, hcz82_2⟩ := cel3 BK326.out; obtain ⟨hfz82_0, hfz82_1, hfz82_2⟩ := frz3 BK326.out; obtain ⟨Ao83, co83, eo83⟩ := Kd.R_slice HO_327002.out; subst eo83) | ((with_reducible refine gate_callee (f := 8) rfl ?_); refine goesL_ (some 44) rfl rfl Try.func8 (by kernel_rfl) rfl #[.int .i64 a0, .agg #[.int .i64 x327000_2, .bool x327001_2, .slice Ao83 x327002_2.length co83], .agg #[.int .i64 ((rd_T26 l1 x36_2).f0), .int .i64 ((rd_T26 l1 x36_2).f1), .int .i64 ((rd_T26 l1 x36_2).f2), .bool ((rd_T26 l1 x36_2).f3)]] rfl (by (try simp only [List.map_toArray, List.map_cons, List.map_nil]); first | done | rfl | (simp only [List.length_drop, List.length_take]; rfl)) ?_; (with_reducible refine (masterdisclaw14_do.calls k2 a0 x327000_2 x327001_2 _ _ x327002_2 ((rd_T26 l1 x36_2).f0) ((rd_T26 l1 x36_2).f1) ((rd_T26 l1 x36_2).f2) ((rd_T26 l1 x36_2).f3) t332 t333 t334 t337 _ ?side1 ?side2 A19.out).mono ?_); (case side1 => refine (Kd.R_reads' (e := 40) (base := w.heap.size) (ok := fun k_ => True) (n := x327002_2.length) (c := co83) ?_).2.2; exact (by (with_reducible repeat (first | apply Kd.R_alloc | apply Kd.R_drewN | apply Kd.R_drew)); exact (Kd.R_mono (Kd.R_far (p := ⟨gb331, 3, none⟩) (Kd.R_far (p := ⟨gb331, 2, none⟩) (Kd.R_far (p := ⟨gb331, 1, none⟩) (Kd.R_far (p := ⟨gb331, 0, none⟩) (Kd.R_types HO_327002.out BK331.out (by decide)) (fun _ hk => hk.2) (.int .i64 ((rd_T26 l1 x36_2).f0))) (fun _ hk => hk.2) (.int .i64 ((rd_T26 l1 x36_2).f1))) (fun _ hk => hk.2) (.int .i64 ((rd_T26 l1 x36_2).f2))) (fun _ hk => hk.2) (.bool ((rd_T26 l1 x36_2).f3))) (fun _ h_ => h_.1)))); (case side2 => exact (Kd.R_reads' HO_327002.out).2.1); rintro e w84 ⟨v335, rfl, ho0, hb⟩; refine ⟨_, rfl, ?_⟩; have n0_ := Aside0.mk (Kd.R_below (by (with_reducible repeat (first | apply Kd.R_alloc | apply Kd.R_drewN | apply Kd.R_drew)); exact (Kd.R_mono (Kd.R_far (p := ⟨gb331, 3, none⟩) (Kd.R_far (p := ⟨gb331, 2, none⟩) (Kd.R_far (p := ⟨gb331, 1, none⟩) (Kd.R_far (p := ⟨gb331, 0, none⟩) (Kd.R_types HO_6.out BK331.out (by decide)) (fun _ hk => hk.2) (.int .i64 ((rd_T26 l1 x36_2).f0))) (fun _ hk => hk.2) (.int .i64 ((rd_T26 l1 x36_2).f1))) (fun _ hk => hk.2) (.int .i64 ((rd_T26 l1 x36_2).f2))) (fun _ hk => hk.2) (.bool ((rd_T26 l1 x36_2).f3))) (fun _ h_ => h_.1))) hb); have n1_ := Aside0.mk (Kd.R_elder' (by (with_reducible repeat (first | apply Kd.R_alloc | apply Kd.R_drewN | apply Kd.R_drew)); exact (Kd.R_mono (Kd.R_far (p := ⟨gb331, 3, none⟩) (Kd.R_far (p := ⟨gb331, 2, none⟩) (Kd.R_far (p := ⟨gb331, 1, none⟩) (Kd.R_far (p := ⟨gb331, 0, none⟩) (Kd.R_types HO_327002.out BK331.out (by decide)) (fun _ hk => hk.2) (.int .i64 ((rd_T26 l1 x36_2).f0))) (fun _ hk => hk.2) (.int .i64 ((rd_T26 l1 x36_2).f1))) (fun _ hk => hk.2) (.int .i64 ((rd_T26 l1 x36_2).f2))) (fun _ hk => hk.2) (.bool ((rd_T26 l1 x36_2).f3))) (fun _ h_ => h_.1))) (Kd.R_base ho0) hb); have n2_ := Aside0.mk (Kd.R_lower (Kd.R_new' ho0 (Kd.R_lt (by (with_reducible repeat (first | apply Kd.R_alloc | apply Kd.R_drewN | apply Kd.R_drew)); exact (Kd.R_mono (Kd.R_far (p := ⟨gb331, 3, none⟩) (Kd.R_far (p := ⟨gb331, 2, none⟩) (Kd.R_far (p := ⟨gb331, 1, none⟩) (Kd.R_far (p := ⟨gb331, 0, none⟩) (Kd.R_types HO_327002.out BK331.out (by decide)) (fun _ hk => hk.2) (.int .i64 ((rd_T26 l1 x36_2).f0))) (fun _ hk => hk.2) (.int .i64 ((rd_T26 l1 x36_2).f1))) (fun _ hk => hk.2) (.int .i64 ((rd_T26 l1 x36_2).f2))) (fun _ hk => hk.2) (.bool ((rd_T26 l1 x36_2).f3))) (fun _ h_ => h_.1))))) (below_size (by repeat (first | (with_reducible first | exact HB.out | apply below_alloc | apply pw_below_drewN | apply below_drew1 | refine below_set ?_ GE326.out | refine below_set ?_ GE331.out) | exact HB.out)))); have n3_ := Aside0.mk (blk_below (g := gb326) (o := .cells #[.int .i64 x327000_2, .bool x327001_2, .slice Ao83 x327002_2.length co83] 24 (0, 0)) (by (with_reducible repeat (first | refine blk_drewN ?_ _ | refine blk_drew ?_ | refine blk_alloc ?_ _)); refine blk_far ?_ NB326_331.out _; (with_reducible repeat (first | refine blk_drewN ?_ _ | refine blk_drew ?_ | refine blk_alloc ?_ _)); refine blk_far ?_ NB326_331.out _; (with_reducible repeat (first | refine blk_drewN ?_ _ | refine blk_drew ?_ | refine blk_alloc ?_ _)); refine blk_far ?_ NB326_331.out _; (with_reducible repeat (first | refine blk_drewN ?_ _ | refine blk_drew ?_ | refine blk_alloc ?_ _)); refine blk_far ?_ NB326_331.out _; (with_reducible repeat (first | refine blk_drewN ?_ _ | refine blk_drew ?_ | refine blk_alloc ?_ _)); exact BK326.out) hb); have n4_ := Aside0.mk (blk_below (g := gb331) (o := .cells #[.int .i64 ((rd_T26 l1 x36_2).f0), .int .i64 ((rd_T26 l1 x36_2).f1), .int .i64 ((rd_T26 l1 x36_2).f2), .bool ((rd_T26 l1 x36_2).f3)] 26 (0, 0)) (by (with_reducible repeat (first | refine blk_drewN ?_ _ | refine blk_drew ?_ | refine blk_alloc ?_ _)); refine blk_put (cs := #[.int .i64 ((rd_T26 l1 x36_2).f0), .int .i64 ((rd_T26 l1 x36_2).f1), .int .i64 ((rd_T26 l1 x36_2).f2), .bool false]) ?_ 3 _ rfl; (with_reducible repeat (first | refine blk_drewN ?_ _ | refine blk_drew ?_ | refine blk_alloc ?_ _)); refine blk_put (cs := #[.int .i64 ((rd_T26 l1 x36_2).f0), .int .i64 ((rd_T26 l1 x36_2).f1), .int .i64 0, .bool false]) ?_ 2 _ rfl; (with_reducible repeat (first | refine blk_drewN ?_ _ | refine blk_drew ?_ | refine blk_alloc ?_ _)); refine blk_put (cs := #[.int .i64 ((rd_T26 l1 x36_2).f0), .int .i64 0, .int .i64 0, .bool false]) ?_ 1 _ rfl; (with_reducible repeat (first | refine blk_drewN ?_ _ | refine blk_drew ?_ | refine blk_alloc ?_ _)); refine blk_put (cs := #[.int .i64 0, .int .i64 0, .int .i64 0, .bool false]) ?_ 0 _ rfl; (with_reducible repeat (first | refine blk_drewN ?_ _ | refine blk_drew ?_ | refine blk_alloc ?_ _)); exact BK331.out) hb); have n5_ := Aside0.mk (below_step (by repeat (first | (with_reducible first | exact HB.out | apply below_alloc | apply pw_below_drewN | apply below_drew1 | refine below_set ?_ GE326.out | refine below_set ?_ GE331.out) | exact HB.out)) hb); clear HO_6; clear HO_327002; clear BK326; clear BK331; clear HB; have HO_6 := n0_; have HO_327002 := n1_; have HO336 := n2_; have BK326 := n3_; have BK331 := n4_; have HB := n5_; clear n0_ n1_ n2_ n3_ n4_ n5_; (try clear hb); (try clear hb2); (try clear hk); (try clear hi); (try clear ho0)) | ((with_reducible refine gate_dst (N := 9) rfl ?_); (try (refine gate_guard (by rfl) ?_; dsimp only)); refine box_event ?hg (N := 9) ?hd (cs := #[.int .i64 0, .bool false, .slice none 0 0]) (t := 24) ?hr ?_; (case hd => rfl); (case hg => rfl); (case hr => first | (go_simp; done) | (go_simp; rfl)); intro gb338 hg w85 hbox hb; have n0_ := Aside0.mk (Kd.R_below (by (with_reducible repeat (first | apply Kd.R_alloc | apply Kd.R_drewN | apply Kd.R_drew)); exact HO_6.out) hb); have n1_ := Aside0.mk (Kd.R_below (by (with_reducible repeat (first | apply Kd.R_alloc | apply Kd.R_drewN | apply Kd.R_drew)); exact HO_327002.out) hb); have n2_ := Aside0.mk (Kd.R_below (by (with_reducible repeat (first | apply Kd.R_alloc | apply Kd.R_drewN | apply Kd.R_drew)); exact HO336.out) hb); have n3_ := Aside0.mk (blk_below (g := gb326) (o := .cells #[.int .i64 x327000_2, .bool x327001_2, .slice Ao83 x327002_2.length co83] 24 (0, 0)) (by (with_reducible repeat (first | refine blk_drewN ?_ _ | refine blk_drew ?_ | refine blk_alloc ?_ _)); exact BK326.out) hb); have n4_ := Aside0.mk (blk_below (g := gb331) (o := .cells #[.int .i64 ((rd_T26 l1 x36_2).f0), .int .i64 ((rd_T26 l1 x36_2).f1), .int .i64 ((rd_T26 l1 x36_2).f2), .bool ((rd_T26 l1 x36_2).f3)] 26 (0, 0)) (by (with_reducible repeat (first | refine blk_drewN ?_ _ | refine blk_drew ?_ | refine blk_alloc ?_ _)); exact BK331.out) hb); have n5_ := Aside0.mk (below_step (by repeat (first | (with_reducible first | exact HB.out | apply below_alloc | apply pw_below_drewN | apply below_drew1 | refine below_set ?_ GE326.out | refine below_set ?_ GE331.out) | exact HB.out)) hb); have n6_ := Aside0.mk (hbox); have n7_ := Aside0.mk ((by rw [hg]; exact (below_size (by repeat (first | (with_reducible first | exact HB.out | apply below_alloc | apply pw_below_drewN | apply below_drew1 | refine below_set ?_ GE326.out | refine below_set ?_ GE331.out) | exact HB.out))) : w.heap.size ≤ gb338)); have n8_ := Aside0.mk ((by rw [hg]; exact (below_size (by repeat (first | (with_reducible first | exact HB.out | apply below_alloc | apply pw_below_drewN | apply below_drew1 | refine below_set ?_ GE326.out | refine below_set ?_ GE331.out) | exact HB.out))) : w.heap.size ≤ gb338)); have n9_ := Aside0.mk ((by rw [hg]; exact Nat.ne_of_lt (blk_lt (g := gb326) (o := .cells #[.int .i64 x327000_2, .bool x327001_2, .slice Ao83 x327002_2.length co83] 24 (0, 0)) (by (with_reducible repeat (first | refine blk_drewN ?_ _ | refine blk_drew ?_ | refine blk_alloc ?_ _)); exact BK326.out)) : gb326 ≠ gb338)); have n10_ := Aside0.mk ((by rw [hg]; exact Nat.ne_of_gt (blk_lt (g := gb326) (o := .cells #[.int .i64 x327000_2, .bool x327001_2, .slice Ao83 x327002_2.length co83] 24 (0, 0)) (by (with_reducible repeat (first | refine blk_drewN ?_ _ | refine blk_drew ?_ | refine blk_alloc ?_ _)); exact BK326.out)) : gb338 ≠ gb326)); have n11_ := Aside0.mk ((by rw [hg]; exact Nat.ne_of_lt (blk_lt (g := gb331) (o := .cells #[.int .i64 ((rd_T26 l1 x36_2).f0), .int .i64 ((rd_T26 l1 x36_2).f1), .int .i64 ((rd_T26 l1 x36_2).f2), .bool ((rd_T26 l1 x36_2).f3)] 26 (0, 0)) (by (with_reducible repeat (first | refine blk_drewN ?_ _ | refine blk_drew ?_ | refine blk_alloc ?_ _)); exact BK331.out)) : gb331 ≠ gb338)); have n12_ := Aside0.mk ((by rw [hg]; exact Nat.ne_of_gt (blk_lt (g := gb331) (o := .cells #[.int .i64 ((rd_T26 l1 x36_2).f0), .int .i64 ((rd_T26 l1 x36_2).f1), .int .i64 ((rd_T26 l1 x36_2).f2), .bool ((rd_T26 l1 x36_2).f3)] 26 (0, 0)) (by (with_reducible repeat (first | refine blk_drewN ?_ _ | refine blk_drew ?_ | refine blk_alloc ?_ _)); exact BK331.out)) : gb338 ≠ gb331)); clear HO_6; clear HO_327002; clear HO336; clear BK326; clear BK331; clear HB; have HO_6 := n0_; have HO_327002 := n1_; have HO336 := n2_; have BK326 := n3_; have BK331 := n4_; have HB := n5_; have BK338 := n6_; have GW338 := n7_; have GE338 := n8_; have NB326_338 := n9_; have NB338_326 := n10_; have NB331_338 := n11_; have NB338_331 := n12_; clear n0_ n1_ n2_ n3_ n4_ n5_ n6_ n7_ n8_ n9_ n10_ n11_ n12_; clear hb hbox hg; have hnb86 := NB338_326.out; have hnc86 := NB326_338.out; have hnb87 := NB338_331.out; have hnc87 := NB331_338.out; obtain ⟨hcz88_0, hcz88_1, hcz88_2⟩ := cel3 BK338.out; obtain ⟨hfz88_0, hfz88_1, hfz88_2⟩ := frz3 BK338.out; obtain ⟨Ao89, co89, eo89⟩ := Kd.R_slice HO336.out; subst eo89))
                     go_roundg k2
                     case measure => have := HJ4.out; have := HK2.out; omega
                     case rel => exact ⟨(x6_2), (wrap64 (x36_2 + 1)), (x327000_2), (x327001_2), (x327002_2), (.slice Ao83 x327002_2.length co83), (by first | rfl | (simp; done) | (simp [*]; done)), H', ⟨by have := HJ4.out; have := HK2.out; omega⟩, ⟨by (with_reducible repeat (first | apply Kd.R_alloc | apply Kd.R_drewN | apply Kd.R_drew)); exact Kd.R_mono (Kd.R_far (p := ⟨gb338, 2, none⟩) (Kd.R_far (p := ⟨gb338, 1, none⟩) (Kd.R_far (p := ⟨gb338, 0, none⟩) (Kd.R_types HO_6.out BK338.out (by decide)) (fun _ hk => hk.2) (.int .i64 t332)) (fun _ hk => hk.2) (.bool t333)) (fun _ hk => hk.2) (.slice Ao89 t334.length co89)) (fun _ hk => trivial)⟩, ⟨by (with_reducible repeat (first | apply Kd.R_alloc | apply Kd.R_drewN | apply Kd.R_drew)); exact Kd.R_mono (Kd.R_far (p := ⟨gb338, 2, none⟩) (Kd.R_far (p := ⟨gb338, 1, none⟩) (Kd.R_far (p := ⟨gb338, 0, none⟩) (Kd.R_types HO_327002.out BK338.out (by decide)) (fun _ hk => hk.2) (.int .i64 t332)) (fun _ hk => hk.2) (.bool t333)) (fun _ hk => hk.2) (.slice Ao89 t334.length co89)) (fun _ hk => trivial)⟩, ⟨by (with_reducible repeat (first | refine blk_drewN ?_ _ | refine blk_drew ?_ | refine blk_alloc ?_ _)); refine blk_far ?_ NB326_338.out _; (with_reducible repeat (first | refine blk_drewN ?_ _ | refine blk_drew ?_ | refine blk_alloc ?_ _)); refine blk_far ?_ NB326_338.out _; (with_reducible repeat (first | refine blk_drewN ?_ _ | refine blk_drew ?_ | refine blk_alloc ?_ _)); refine blk_far ?_ NB326_338.out _; (with_reducible repeat (first | refine blk_drewN ?_ _ | refine blk_drew ?_ | refine blk_alloc ?_ _)); exact BK326.out⟩, ⟨by repeat (first | (with_reducible first | exact HB.out | apply below_alloc | apply pw_below_drewN | apply below_drew1 | refine below_set ?_ GE326.out | refine below_set ?_ GE331.out | refine below_set ?_ GE338.out) | exact HB.out)⟩⟩
                 · rw [if_neg c18] at H
                   exact absurd H (by simp)
               · rw [if_neg c17] at H
                 exact absurd H (by simp)
             · rw [if_neg c16] at H
               have c16b0 : decide (x36_2 < (l1.length : Int)) = false := decide_eq_false c16
               clear c16
               have H' := Aside0.mk H
               clear H
               obtain ⟨hcz90_0, hcz90_1, hcz90_2⟩ := cel3 BK326.out
               obtain ⟨hfz90_0, hfz90_1, hfz90_2⟩ := frz3 BK326.out
               obtain ⟨Ao91, co91, eo91⟩ := Kd.R_slice HO_327002.out
               subst eo91
               go_wp2
               go_loopg [113] k2 (fun kq v113 w' => ∃ (x113_3 : Int), v113 = .int .i64 x113_3 ∧ Aside0 (masterdisclaw14_TocAppends.l2 kq a0 x6_2 x327002_2 (x327002_2.length : Int) x113_3 = some r) ∧ Aside0 (kq ≤ k2) ∧ Aside0 (Kd.R Kd.bool 4 w' w.heap.size (fun _ => True) v328 x6_2) ∧ Aside0 (Kd.R k40 40 w' w.heap.size (fun _ => True) (.slice Ao91 x327002_2.length co91) x327002_2) ∧ Aside0 (Kd.R k40 40 w' w.heap.size (fun _ => True) (.slice Ao91 x327002_2.length co91) x327002_2) ∧ Aside0 (w'.heap[gb326]? = some (.cells #[.int .i64 x327000_2, .bool x327001_2, (.slice Ao91 x327002_2.length co91)] 24 (0, 0))) ∧ Aside0 (Below w.heap.size w w'))
               case atStart => exact ⟨(0), (by first | rfl | (simp; done) | (simp [*]; done)), H', ⟨Nat.le_refl _⟩, ⟨by (with_reducible repeat (first | apply Kd.R_alloc | apply Kd.R_drewN | apply Kd.R_drew)); exact HO_6.out⟩, ⟨by (with_reducible repeat (first | apply Kd.R_alloc | apply Kd.R_drewN | apply Kd.R_drew)); exact HO_327002.out⟩, ⟨by (with_reducible repeat (first | apply Kd.R_alloc | apply Kd.R_drewN | apply Kd.R_drew)); exact HO_327002.out⟩, ⟨by (with_reducible repeat (first | refine blk_drewN ?_ _ | refine blk_drew ?_ | refine blk_alloc ?_ _)); exact BK326.out⟩, ⟨by repeat (first | (with_reducible first | exact HB.out | apply below_alloc | apply pw_below_drewN | apply below_drew1 | refine below_set ?_ GE326.out) | exact HB.out)⟩⟩
               case round =>
                clear H'
                try clear c1
                try clear c2
                try clear p2
                try clear c3
                try clear p3
                try clear q3
                try clear hx3
                try clear c4
                try clear c5
                try clear p5
                try clear q5
                try clear hx5
                try clear hf5
                try clear c6
                try clear p6
                try clear c7
                try clear c7b0
                try clear c7b1
                try clear c8
                try clear c8b0
                try clear c9
                try clear c10
                try clear c10b0
                try clear c10b1
                try clear c11
                try clear c11b0
                try clear c11b1
                try clear c13
                try clear c16
                try clear c16b0
                try clear c17
                try clear c17b0
                try clear c18
                try clear c18b0
                try clear c20
                try clear c20b0
                try clear c20b1
                try clear c21
                try clear c21b0
                try clear c21b1
                try clear c23
                try clear c29
                try clear c30
                try clear p33
                try clear q33
                try clear hx33
                try clear p34
                try clear q34
                try clear hx34
                try clear c35
                try clear c35b0
                try clear c37
                try clear c38
                try clear c40
                try clear c40b0
                try clear c41
                try clear c41b0
                try clear c43
                try clear c43b0
                try clear c44
                try clear c44b0
                try clear c46
                try clear c48
                try clear c48b0
                try clear c49
                try clear c49b0
                try clear p50
                try clear q50
                try clear hx50
                try clear hf50
                try clear c52
                try clear c53
                try clear c53b0
                try clear c54
                try clear c54b0
                try clear c56
                try clear c56b0
                try clear c57
                try clear c57b0
                try clear c58
                try clear c58b0
                try clear c61
                try clear c62
                try clear p64
                try clear c67
                try clear c73
                try clear c74
                try clear c80
                try clear c86
                try clear c87
                try clear hcz13_0
                try clear hcz13_1
                try clear hcz13_2
                try clear hcz24_0
                try clear hcz24_1
                try clear hcz24_2
                try clear hcz24_3
                try clear hcz25_0
                try clear hcz25_1
                try clear hcz25_2
                try clear hcz31_0
                try clear hcz31_1
                try clear hcz31_2
                try clear hcz33_0
                try clear hcz33_1
                try clear hcz33_2
                try clear hcz34_0
                try clear hcz34_1
                try clear hcz34_2
                try clear hcz34_3
                try clear hcz39_0
                try clear hcz39_1
                try clear hcz39_2
                try clear hcz39_3
                try clear hcz63_0
                try clear hcz63_1
                try clear hcz63_2
                try clear hcz65_0
                try clear hcz65_1
                try clear hcz65_2
                try clear hcz68_0
                try clear hcz68_1
                try clear hcz68_2
                try clear hcz68_3
                try clear hcz69_0
                try clear hcz69_1
                try clear hcz69_2
                try clear hcz75_0
                try clear hcz75_1
                try clear hcz75_2
                try clear hcz77_0
                try clear hcz77_1
                try clear hcz77_2
                try clear hcz78_0
                try clear hcz78_1
                try clear hcz78_2
                try clear hcz78_3
                try clear hcz81_0
                try clear hcz81_1
                try clear hcz81_2
                try clear hcz81_3
                try clear hcz82_0
                try clear hcz82_1
                try clear hcz82_2
                try clear hcz88_0
                try clear hcz88_1
                try clear hcz88_2
                try clear hcz90_0
                try clear hcz90_1
                try clear hcz90_2
                try clear hfz13_0
                try clear hfz13_1
                try clear hfz13_2
                try clear hfz24_0
                try clear hfz24_1
                try clear hfz24_2
                try clear hfz24_3
                try clear hfz25_0
                try clear hfz25_1
                try clear hfz25_2
                try clear hfz31_0
                try clear hfz31_1
                try clear hfz31_2
                try clear hfz33_0
                try clear hfz33_1
                try clear hfz33_2
                try clear hfz34_0
                try clear hfz34_1
                try clear hfz34_2
                try clear hfz34_3
                try clear hfz39_0
                try clear hfz39_1
                try clear hfz39_2
                try clear hfz39_3
                try clear hfz63_0
                try clear hfz63_1
                try clear hfz63_2
                try clear hfz65_0
                try clear hfz65_1
                try clear hfz65_2
                try clear hfz68_0
                try clear hfz68_1
                try clear hfz68_2
                try clear hfz68_3
                try clear hfz69_0
                try clear hfz69_1
                try clear hfz69_2
                try clear hfz75_0
                try clear hfz75_1
                try clear hfz75_2
                try clear hfz77_0
                try clear hfz77_1
                try clear hfz77_2
                try clear hfz78_0
                try clear hfz78_1
                try clear hfz78_2
                try clear hfz78_3
                try clear hfz81_0
                try clear hfz81_1
                try clear hfz81_2
                try clear hfz81_3
                try clear hfz82_0
                try clear hfz82_1
                try clear hfz82_2
                try clear hfz88_0
                try clear hfz88_1
                try clear hfz88_2
                try clear hfz90_0
                try clear hfz90_1
                try clear hfz90_2
                try clear hx330_0
                try clear hx330_1
                try clear hx330_2
                try clear hx330_3
                try clear hx339_0
                try clear hx343_0
                try clear hx343_1
                try clear hx343_2
                try clear hx343_3
                try clear hx343_4
                try clear hx343_5
                try clear hx343_6
                try clear hx50_0
                try clear p2
                try clear p3
                try clear p33
                try clear p330
                try clear p339
                try clear p343
                try clear p50
                try clear p6
                try clear q3
                try clear q33
                try clear q330
                try clear q339
                try clear q343
                try clear q50
                obtain ⟨x113_3, rfl, HA, HK3, HO_6, HO_111, HO_327002, BK326, HB⟩ := hrel
                cases gk with
                | zero => exact absurd HA.out (by simp [masterdisclaw14_TocAppends.l2])
                | succ k3 =>
                 have H := HA.out
                 clear HA
                 simp only [masterdisclaw14_TocAppends.l2] at H
                 by_cases c92 : x113_3 < (x327002_2.length : Int)
                 · rw [if_pos c92] at H
                   have c92b0 : decide (x113_3 < (x327002_2.length : Int)) = true := decide_eq_true c92
                   clear c92
                   by_cases c93 : 0 ≤ x113_3
                   · rw [if_pos c93] at H
                     have c93b0 : decide (0 ≤ x113_3) = true := decide_eq_true c93
                     clear c93
                     by_cases c94 : x113_3 < (x327002_2.length : Int)
                     · rw [if_pos c94] at H
                       have c94b0 : decide (x113_3 < (x327002_2.length : Int)) = true := decide_eq_true c94
                       clear c94
                       have HC95 := Aside0.mk H
                       clear H
                       have p344 : 0 ≤ (x113_3 : Int) := of_decide_eq_true (by first | (with_reducible assumption) | assumption)
                       have q344 : x113_3 < (x327002_2.length : Int) := of_decide_eq_true (by first | (with_reducible assumption) | assumption)
                       obtain ⟨ad344, e344, hx344_0, hx344_1, hx344_2, hx344_3, hx344_4, hx344_5, hx344_6⟩ := at_T40 (Kd.R_reads' HO_111.out).2.2 x113_3 p344 q344
                       cases e344
                       replace p344 := eq_true p344
                       replace q344 := eq_true q344
                       go_upto_region 29 with (first | ((with_reducible refine gate_dst (N := 16) rfl ?_); (try (refine gate_guard (by rfl) ?_; dsimp only)); refine box_event ?hg (N := 16) ?hd (cs := #[.int .i64 0, .int .i64 0, .int .i64 0, .int .i64 0, .int .i64 0, .int .i64 0, .int .i64 0]) (t := 40) ?hr ?_; (case hd => rfl); (case hg => rfl); (case hr => first | (go_simp; done) | (go_simp; rfl)); intro gb345 hg w96 hbox hb; have n0_ := Aside0.mk (Kd.R_below (by (with_reducible repeat (first | apply Kd.R_alloc | apply Kd.R_drewN | apply Kd.R_drew)); exact HO_6.out) hb); have n1_ := Aside0.mk (Kd.R_below (Kd.R_elderB (by (with_reducible repeat (first | apply Kd.R_alloc | apply Kd.R_drewN | apply Kd.R_drew)); exact HO_111.out) gb345 (Nat.le_of_eq hg.symm)) hb); have n2_ := Aside0.mk (Kd.R_below (Kd.R_elderB (by (with_reducible repeat (first | apply Kd.R_alloc | apply Kd.R_drewN | apply Kd.R_drew)); exact HO_327002.out) gb345 (Nat.le_of_eq hg.symm)) hb); have n3_ := Aside0.mk (blk_below (g := gb326) (o := .cells #[.int .i64 x327000_2, .bool x327001_2, .slice (some ad344) x327002_2.length co91] 24 (0, 0)) (by (with_reducible repeat (first | refine blk_drewN ?_ _ | refine blk_drew ?_ | refine blk_alloc ?_ _)); exact BK326.out) hb); have n4_ := Aside0.mk (below_step (by repeat (first | (with_reducible first | exact HB.out | apply below_alloc | apply pw_below_drewN | apply below_drew1 | refine below_set ?_ GE326.out) | exact HB.out)) hb); have n5_ := Aside0.mk (hbox); have n6_ := Aside0.mk ((by rw [hg]; exact (below_size (by repeat (first | (with_reducible first | exact HB.out | apply below_alloc | apply pw_below_drewN | apply below_drew1 | refine below_set ?_ GE326.out) | exact HB.out))) : w.heap.size ≤ gb345)); have n7_ := Aside0.mk ((by rw [hg]; exact (below_size (by repeat (first | (with_reducible first | exact HB.out | apply below_alloc | apply pw_below_drewN | apply below_drew1 | refine below_set ?_ GE326.out) | exact HB.out))) : w.heap.size ≤ gb345)); have n8_ := Aside0.mk ((by rw [hg]; exact Nat.ne_of_lt (blk_lt (g := gb326) (o := .cells #[.int .i64 x327000_2, .bool x327001_2, .slice (some ad344) x327002_2.length co91] 24 (0, 0)) (by (with_reducible repeat (first | refine blk_drewN ?_ _ | refine blk_drew ?_ | refine blk_alloc ?_ _)); exact BK326.out)) : gb326 ≠ gb345)); have n9_ := Aside0.mk ((by rw [hg]; exact Nat.ne_of_gt (blk_lt (g := gb326) (o := .cells #[.int .i64 x327000_2, .bool x327001_2, .slice (some ad344) x327002_2.length co91] 24 (0, 0)) (by (with_reducible repeat (first | refine blk_drewN ?_ _ | refine blk_drew ?_ | refine blk_alloc ?_ _)); exact BK326.out)) : gb345 ≠ gb326)); clear HO_6; clear HO_111; clear HO_327002; clear BK326; clear HB; have HO_6 := n0_; have HO_111 := n1_; have HO_327002 := n2_; have BK326 := n3_; have HB := n4_; have BK345 := n5_; have GW345 := n6_; have GE345 := n7_; have NB326_345 := n8_; have NB345_326 := n9_; clear n0_ n1_ n2_ n3_ n4_ n5_ n6_ n7_ n8_ n9_; clear hb hbox hg; have hnb97 := NB345_326.out; have hnc97 := NB326_345.out; obtain ⟨hcz98_0, hcz98_1, hcz98_2, hcz98_3, hcz98_4, hcz98_5, hcz98_6⟩ := cel7 BK345.out; obtain ⟨hfz98_0, hfz98_1, hfz98_2, hfz98_3, hfz98_4, hfz98_5, hfz98_6⟩ := frz7 BK345.out))
                       (try simp only [Act.put, List.setIfInBounds_toArray, List.set_cons_zero, List.set_cons_succ])
                       go_cut [125] (fun v125 wc => ∃ (kq : Nat) (x125_94 : Bool), v125 = .bool x125_94 ∧ Aside0 (masterdisclaw14_TocAppends.j5 kq a0 x6_2 x327002_2 (x327002_2.length : Int) x113_3 x125_94 ((rd_T40 x327002_2 x113_3).f0) ((rd_T40 x327002_2 x113_3).f1) ((rd_T40 x327002_2 x113_3).f2) ((rd_T40 x327002_2 x113_3).f3) ((rd_T40 x327002_2 x113_3).f4) ((rd_T40 x327002_2 x113_3).f5) ((rd_T40 x327002_2 x113_3).f6) = some r) ∧ Aside0 (kq ≤ k3) ∧ Aside0 (Kd.R Kd.bool 4 wc w.heap.size (fun _ => True) v328 x6_2) ∧ Aside0 (Kd.R k40 40 wc w.heap.size (fun k_ => k_ ≠ gb345) (.slice (some ad344) x327002_2.length co91) x327002_2) ∧ Aside0 (Kd.R k40 40 wc w.heap.size (fun k_ => k_ ≠ gb345) (.slice (some ad344) x327002_2.length co91) x327002_2) ∧ Aside0 (wc.heap[gb326]? = some (.cells #[.int .i64 x327000_2, .bool x327001_2, (.slice (some ad344) x327002_2.length co91)] 24 (0, 0))) ∧ Aside0 (wc.heap[gb345]? = some (.cells #[.int .i64 ((rd_T40 x327002_2 x113_3).f0), .int .i64 ((rd_T40 x327002_2 x113_3).f1), .int .i64 ((rd_T40 x327002_2 x113_3).f2), .int .i64 ((rd_T40 x327002_2 x113_3).f3), .int .i64 ((rd_T40 x327002_2 x113_3).f4), .int .i64 ((rd_T40 x327002_2 x113_3).f5), .int .i64 ((rd_T40 x327002_2 x113_3).f6)] 40 (0, 0))) ∧ Aside0 (Below w.heap.size w wc))
                       case first =>
                        have H := HC95.out
                        clear HC95
                        by_cases c99 : ((rd_T40 x327002_2 x113_3).f2) < 0
                        · rw [if_pos c99] at H
                          have c99b0 : decide (((rd_T40 x327002_2 x113_3).f2) < 0) = true := decide_eq_true c99
                          clear c99
                          (first | rw [c99b0] | (simp only [i64_w, i32_w]; rw [c99b0]) | skip)
                          have H' := Aside0.mk H
                          clear H
                          have hnb100 := NB345_326.out
                          have hnc100 := NB326_345.out
                          obtain ⟨hcz101_0, hcz101_1, hcz101_2, hcz101_3, hcz101_4, hcz101_5, hcz101_6⟩ := cel7 BK345.out
                          obtain ⟨hfz101_0, hfz101_1, hfz101_2, hfz101_3, hfz101_4, hfz101_5, hfz101_6⟩ := frz7 BK345.out
                          go_wp2
                          go_meet
                          case rel => exact ⟨_, (true), (by first | rfl | (simp; done) | (simp [*]; done)), H', ⟨by have := HJ4.out; have := HK2.out; have := HK3.out; first | omega | exact Nat.le_refl _⟩, ⟨by (with_reducible repeat (first | apply Kd.R_alloc | apply Kd.R_drewN | apply Kd.R_drew)); exact Kd.R_mono (Kd.R_far (p := ⟨gb345, 6, none⟩) (Kd.R_far (p := ⟨gb345, 5, none⟩) (Kd.R_far (p := ⟨gb345, 4, none⟩) (Kd.R_far (p := ⟨gb345, 3, none⟩) (Kd.R_far (p := ⟨gb345, 2, none⟩) (Kd.R_far (p := ⟨gb345, 1, none⟩) (Kd.R_far (p := ⟨gb345, 0, none⟩) (Kd.R_types HO_6.out BK345.out (by decide)) (fun _ hk => hk.2) (.int .i64 ((rd_T40 x327002_2 x113_3).f0))) (fun _ hk => hk.2) (.int .i64 ((rd_T40 x327002_2 x113_3).f1))) (fun _ hk => hk.2) (.int .i64 ((rd_T40 x327002_2 x113_3).f2))) (fun _ hk => hk.2) (.int .i64 ((rd_T40 x327002_2 x113_3).f3))) (fun _ hk => hk.2) (.int .i64 ((rd_T40 x327002_2 x113_3).f4))) (fun _ hk => hk.2) (.int .i64 ((rd_T40 x327002_2 x113_3).f5))) (fun _ hk => hk.2) (.int .i64 ((rd_T40 x327002_2 x113_3).f6))) (fun _ hk => trivial)⟩, ⟨by (with_reducible repeat (first | apply Kd.R_alloc | apply Kd.R_drewN | apply Kd.R_drew)); exact Kd.R_mono (Kd.R_far (p := ⟨gb345, 6, none⟩) (Kd.R_far (p := ⟨gb345, 5, none⟩) (Kd.R_far (p := ⟨gb345, 4, none⟩) (Kd.R_far (p := ⟨gb345, 3, none⟩) (Kd.R_far (p := ⟨gb345, 2, none⟩) (Kd.R_far (p := ⟨gb345, 1, none⟩) (Kd.R_far (p := ⟨gb345, 0, none⟩) (Kd.R_mono HO_111.out (fun k_ hk => (⟨hk, hk.2⟩ : _ ∧ k_ ≠ gb345))) (fun _ hk => hk.2) (.int .i64 ((rd_T40 x327002_2 x113_3).f0))) (fun _ hk => hk.2) (.int .i64 ((rd_T40 x327002_2 x113_3).f1))) (fun _ hk => hk.2) (.int .i64 ((rd_T40 x327002_2 x113_3).f2))) (fun _ hk => hk.2) (.int .i64 ((rd_T40 x327002_2 x113_3).f3))) (fun _ hk => hk.2) (.int .i64 ((rd_T40 x327002_2 x113_3).f4))) (fun _ hk => hk.2) (.int .i64 ((rd_T40 x327002_2 x113_3).f5))) (fun _ hk => hk.2) (.int .i64 ((rd_T40 x327002_2 x113_3).f6))) (fun _ hk => hk.1.2)⟩, ⟨by (with_reducible repeat (first | apply Kd.R_alloc | apply Kd.R_drewN | apply Kd.R_drew)); exact Kd.R_mono (Kd.R_far (p := ⟨gb345, 6, none⟩) (Kd.R_far (p := ⟨gb345, 5, none⟩) (Kd.R_far (p := ⟨gb345, 4, none⟩) (Kd.R_far (p := ⟨gb345, 3, none⟩) (Kd.R_far (p := ⟨gb345, 2, none⟩) (Kd.R_far (p := ⟨gb345, 1, none⟩) (Kd.R_far (p := ⟨gb345, 0, none⟩) (Kd.R_mono HO_327002.out (fun k_ hk => (⟨hk, hk.2⟩ : _ ∧ k_ ≠ gb345))) (fun _ hk => hk.2) (.int .i64 ((rd_T40 x327002_2 x113_3).f0))) (fun _ hk => hk.2) (.int .i64 ((rd_T40 x327002_2 x113_3).f1))) (fun _ hk => hk.2) (.int .i64 ((rd_T40 x327002_2 x113_3).f2))) (fun _ hk => hk.2) (.int .i64 ((rd_T40 x327002_2 x113_3).f3))) (fun _ hk => hk.2) (.int .i64 ((rd_T40 x327002_2 x113_3).f4))) (fun _ hk => hk.2) (.int .i64 ((rd_T40 x327002_2 x113_3).f5))) (fun _ hk => hk.2) (.int .i64 ((rd_T40 x327002_2 x113_3).f6))) (fun _ hk => hk.1.2)⟩, ⟨by (with_reducible repeat (first | refine blk_drewN ?_ _ | refine blk_drew ?_ | refine blk_alloc ?_ _)); refine blk_far ?_ NB326_345.out _; (with_reducible repeat (first | refine blk_drewN ?_ _ | refine blk_drew ?_ | refine blk_alloc ?_ _)); refine blk_far ?_ NB326_345.out _; (with_reducible repeat (first | refine blk_drewN ?_ _ | refine blk_drew ?_ | refine blk_alloc ?_ _)); refine blk_far ?_ NB326_345.out _; (with_reducible repeat (first | refine blk_drewN ?_ _ | refine blk_drew ?_ | refine blk_alloc ?_ _)); refine blk_far ?_ NB326_345.out _; (with_reducible repeat (first | refine blk_drewN ?_ _ | refine blk_drew ?_ | refine blk_alloc ?_ _)); refine blk_far ?_ NB326_345.out _; (with_reducible repeat (first | refine blk_drewN ?_ _ | refine blk_drew ?_ | refine blk_alloc ?_ _)); refine blk_far ?_ NB326_345.out _; (with_reducible repeat (first | refine blk_drewN ?_ _ | refine blk_drew ?_ | refine blk_alloc ?_ _)); refine blk_far ?_ NB326_345.out _; (with_reducible repeat (first | refine blk_drewN ?_ _ | refine blk_drew ?_ | refine blk_alloc ?_ _)); exact BK326.out⟩, ⟨by (with_reducible repeat (first | refine blk_drewN ?_ _ | refine blk_drew ?_ | refine blk_alloc ?_ _)); refine blk_put (cs := #[.int .i64 ((rd_T40 x327002_2 x113_3).f0), .int .i64 ((rd_T40 x327002_2 x113_3).f1), .int .i64 ((rd_T40 x327002_2 x113_3).f2), .int .i64 ((rd_T40 x327002_2 x113_3).f3), .int .i64 ((rd_T40 x327002_2 x113_3).f4), .int .i64 ((rd_T40 x327002_2 x113_3).f5), .int .i64 0]) ?_ 6 _ rfl; (with_reducible repeat (first | refine blk_drewN ?_ _ | refine blk_drew ?_ | refine blk_alloc ?_ _)); refine blk_put (cs := #[.int .i64 ((rd_T40 x327002_2 x113_3).f0), .int .i64 ((rd_T40 x327002_2 x113_3).f1), .int .i64 ((rd_T40 x327002_2 x113_3).f2), .int .i64 ((rd_T40 x327002_2 x113_3).f3), .int .i64 ((rd_T40 x327002_2 x113_3).f4), .int .i64 0, .int .i64 0]) ?_ 5 _ rfl; (with_reducible repeat (first | refine blk_drewN ?_ _ | refine blk_drew ?_ | refine blk_alloc ?_ _)); refine blk_put (cs := #[.int .i64 ((rd_T40 x327002_2 x113_3).f0), .int .i64 ((rd_T40 x327002_2 x113_3).f1), .int .i64 ((rd_T40 x327002_2 x113_3).f2), .int .i64 ((rd_T40 x327002_2 x113_3).f3), .int .i64 0, .int .i64 0, .int .i64 0]) ?_ 4 _ rfl; (with_reducible repeat (first | refine blk_drewN ?_ _ | refine blk_drew ?_ | refine blk_alloc ?_ _)); refine blk_put (cs := #[.int .i64 ((rd_T40 x327002_2 x113_3).f0), .int .i64 ((rd_T40 x327002_2 x113_3).f1), .int .i64 ((rd_T40 x327002_2 x113_3).f2), .int .i64 0, .int .i64 0, .int .i64 0, .int .i64 0]) ?_ 3 _ rfl; (with_reducible repeat (first | refine blk_drewN ?_ _ | refine blk_drew ?_ | refine blk_alloc ?_ _)); refine blk_put (cs := #[.int .i64 ((rd_T40 x327002_2 x113_3).f0), .int .i64 ((rd_T40 x327002_2 x113_3).f1), .int .i64 0, .int .i64 0, .int .i64 0, .int .i64 0, .int .i64 0]) ?_ 2 _ rfl; (with_reducible repeat (first | refine blk_drewN ?_ _ | refine blk_drew ?_ | refine blk_alloc ?_ _)); refine blk_put (cs := #[.int .i64 ((rd_T40 x327002_2 x113_3).f0), .int .i64 0, .int .i64 0, .int .i64 0, .int .i64 0, .int .i64 0, .int .i64 0]) ?_ 1 _ rfl; (with_reducible repeat (first | refine blk_drewN ?_ _ | refine blk_drew ?_ | refine blk_alloc ?_ _)); refine blk_put (cs := #[.int .i64 0, .int .i64 0, .int .i64 0, .int .i64 0, .int .i64 0, .int .i64 0, .int .i64 0]) ?_ 0 _ rfl; (with_reducible repeat (first | refine blk_drewN ?_ _ | refine blk_drew ?_ | refine blk_alloc ?_ _)); exact BK345.out⟩, ⟨by repeat (first | (with_reducible first | exact HB.out | apply below_alloc | apply pw_below_drewN | apply below_drew1 | refine below_set ?_ GE326.out | refine below_set ?_ GE345.out) | exact HB.out)⟩⟩
                        · rw [if_neg c99] at H
                          have c99b0 : decide (((rd_T40 x327002_2 x113_3).f2) < 0) = false := decide_eq_false c99
                          clear c99
                          (first | rw [c99b0] | (simp only [i64_w, i32_w]; rw [c99b0]) | skip)
                          have H' := Aside0.mk H
                          clear H
                          have hnb102 := NB345_326.out
                          have hnc102 := NB326_345.out
                          obtain ⟨hcz103_0, hcz103_1, hcz103_2, hcz103_3, hcz103_4, hcz103_5, hcz103_6⟩ := cel7 BK345.out
                          obtain ⟨hfz103_0, hfz103_1, hfz103_2, hfz103_3, hfz103_4, hfz103_5, hfz103_6⟩ := frz7 BK345.out
                          go_wp2
                          go_meet
                          case rel => exact ⟨_, (decide (((rd_T40 x327002_2 x113_3).f4) > a0)), (by first | rfl | (simp; done) | (simp [*]; done)), H', ⟨by have := HJ4.out; have := HK2.out; have := HK3.out; first | omega | exact Nat.le_refl _⟩, ⟨by (with_reducible repeat (first | apply Kd.R_alloc | apply Kd.R_drewN | apply Kd.R_drew)); exact Kd.R_mono (Kd.R_far (p := ⟨gb345, 6, none⟩) (Kd.R_far (p := ⟨gb345, 5, none⟩) (Kd.R_far (p := ⟨gb345, 4, none⟩) (Kd.R_far (p := ⟨gb345, 3, none⟩) (Kd.R_far (p := ⟨gb345, 2, none⟩) (Kd.R_far (p := ⟨gb345, 1, none⟩) (Kd.R_far (p := ⟨gb345, 0, none⟩) (Kd.R_types HO_6.out BK345.out (by decide)) (fun _ hk => hk.2) (.int .i64 ((rd_T40 x327002_2 x113_3).f0))) (fun _ hk => hk.2) (.int .i64 ((rd_T40 x327002_2 x113_3).f1))) (fun _ hk => hk.2) (.int .i64 ((rd_T40 x327002_2 x113_3).f2))) (fun _ hk => hk.2) (.int .i64 ((rd_T40 x327002_2 x113_3).f3))) (fun _ hk => hk.2) (.int .i64 ((rd_T40 x327002_2 x113_3).f4))) (fun _ hk => hk.2) (.int .i64 ((rd_T40 x327002_2 x113_3).f5))) (fun _ hk => hk.2) (.int .i64 ((rd_T40 x327002_2 x113_3).f6))) (fun _ hk => trivial)⟩, ⟨by (with_reducible repeat (first | apply Kd.R_alloc | apply Kd.R_drewN | apply Kd.R_drew)); exact Kd.R_mono (Kd.R_far (p := ⟨gb345, 6, none⟩) (Kd.R_far (p := ⟨gb345, 5, none⟩) (Kd.R_far (p := ⟨gb345, 4, none⟩) (Kd.R_far (p := ⟨gb345, 3, none⟩) (Kd.R_far (p := ⟨gb345, 2, none⟩) (Kd.R_far (p := ⟨gb345, 1, none⟩) (Kd.R_far (p := ⟨gb345, 0, none⟩) (Kd.R_mono HO_111.out (fun k_ hk => (⟨hk, hk.2⟩ : _ ∧ k_ ≠ gb345))) (fun _ hk => hk.2) (.int .i64 ((rd_T40 x327002_2 x113_3).f0))) (fun _ hk => hk.2) (.int .i64 ((rd_T40 x327002_2 x113_3).f1))) (fun _ hk => hk.2) (.int .i64 ((rd_T40 x327002_2 x113_3).f2))) (fun _ hk => hk.2) (.int .i64 ((rd_T40 x327002_2 x113_3).f3))) (fun _ hk => hk.2) (.int .i64 ((rd_T40 x327002_2 x113_3).f4))) (fun _ hk => hk.2) (.int .i64 ((rd_T40 x327002_2 x113_3).f5))) (fun _ hk => hk.2) (.int .i64 ((rd_T40 x327002_2 x113_3).f6))) (fun _ hk => hk.1.2)⟩, ⟨by (with_reducible repeat (first | apply Kd.R_alloc | apply Kd.R_drewN | apply Kd.R_drew)); exact Kd.R_mono (Kd.R_far (p := ⟨gb345, 6, none⟩) (Kd.R_far (p := ⟨gb345, 5, none⟩) (Kd.R_far (p := ⟨gb345, 4, none⟩) (Kd.R_far (p := ⟨gb345, 3, none⟩) (Kd.R_far (p := ⟨gb345, 2, none⟩) (Kd.R_far (p := ⟨gb345, 1, none⟩) (Kd.R_far (p := ⟨gb345, 0, none⟩) (Kd.R_mono HO_327002.out (fun k_ hk => (⟨hk, hk.2⟩ : _ ∧ k_ ≠ gb345))) (fun _ hk => hk.2) (.int .i64 ((rd_T40 x327002_2 x113_3).f0))) (fun _ hk => hk.2) (.int .i64 ((rd_T40 x327002_2 x113_3).f1))) (fun _ hk => hk.2) (.int .i64 ((rd_T40 x327002_2 x113_3).f2))) (fun _ hk => hk.2) (.int .i64 ((rd_T40 x327002_2 x113_3).f3))) (fun _ hk => hk.2) (.int .i64 ((rd_T40 x327002_2 x113_3).f4))) (fun _ hk => hk.2) (.int .i64 ((rd_T40 x327002_2 x113_3).f5))) (fun _ hk => hk.2) (.int .i64 ((rd_T40 x327002_2 x113_3).f6))) (fun _ hk => hk.1.2)⟩, ⟨by (with_reducible repeat (first | refine blk_drewN ?_ _ | refine blk_drew ?_ | refine blk_alloc ?_ _)); refine blk_far ?_ NB326_345.out _; (with_reducible repeat (first | refine blk_drewN ?_ _ | refine blk_drew ?_ | refine blk_alloc ?_ _)); refine blk_far ?_ NB326_345.out _; (with_reducible repeat (first | refine blk_drewN ?_ _ | refine blk_drew ?_ | refine blk_alloc ?_ _)); refine blk_far ?_ NB326_345.out _; (with_reducible repeat (first | refine blk_drewN ?_ _ | refine blk_drew ?_ | refine blk_alloc ?_ _)); refine blk_far ?_ NB326_345.out _; (with_reducible repeat (first | refine blk_drewN ?_ _ | refine blk_drew ?_ | refine blk_alloc ?_ _)); refine blk_far ?_ NB326_345.out _; (with_reducible repeat (first | refine blk_drewN ?_ _ | refine blk_drew ?_ | refine blk_alloc ?_ _)); refine blk_far ?_ NB326_345.out _; (with_reducible repeat (first | refine blk_drewN ?_ _ | refine blk_drew ?_ | refine blk_alloc ?_ _)); refine blk_far ?_ NB326_345.out _; (with_reducible repeat (first | refine blk_drewN ?_ _ | refine blk_drew ?_ | refine blk_alloc ?_ _)); exact BK326.out⟩, ⟨by (with_reducible repeat (first | refine blk_drewN ?_ _ | refine blk_drew ?_ | refine blk_alloc ?_ _)); refine blk_put (cs := #[.int .i64 ((rd_T40 x327002_2 x113_3).f0), .int .i64 ((rd_T40 x327002_2 x113_3).f1), .int .i64 ((rd_T40 x327002_2 x113_3).f2), .int .i64 ((rd_T40 x327002_2 x113_3).f3), .int .i64 ((rd_T40 x327002_2 x113_3).f4), .int .i64 ((rd_T40 x327002_2 x113_3).f5), .int .i64 0]) ?_ 6 _ rfl; (with_reducible repeat (first | refine blk_drewN ?_ _ | refine blk_drew ?_ | refine blk_alloc ?_ _)); refine blk_put (cs := #[.int .i64 ((rd_T40 x327002_2 x113_3).f0), .int .i64 ((rd_T40 x327002_2 x113_3).f1), .int .i64 ((rd_T40 x327002_2 x113_3).f2), .int .i64 ((rd_T40 x327002_2 x113_3).f3), .int .i64 ((rd_T40 x327002_2 x113_3).f4), .int .i64 0, .int .i64 0]) ?_ 5 _ rfl; (with_reducible repeat (first | refine blk_drewN ?_ _ | refine blk_drew ?_ | refine blk_alloc ?_ _)); refine blk_put (cs := #[.int .i64 ((rd_T40 x327002_2 x113_3).f0), .int .i64 ((rd_T40 x327002_2 x113_3).f1), .int .i64 ((rd_T40 x327002_2 x113_3).f2), .int .i64 ((rd_T40 x327002_2 x113_3).f3), .int .i64 0, .int .i64 0, .int .i64 0]) ?_ 4 _ rfl; (with_reducible repeat (first | refine blk_drewN ?_ _ | refine blk_drew ?_ | refine blk_alloc ?_ _)); refine blk_put (cs := #[.int .i64 ((rd_T40 x327002_2 x113_3).f0), .int .i64 ((rd_T40 x327002_2 x113_3).f1), .int .i64 ((rd_T40 x327002_2 x113_3).f2), .int .i64 0, .int .i64 0, .int .i64 0, .int .i64 0]) ?_ 3 _ rfl; (with_reducible repeat (first | refine blk_drewN ?_ _ | refine blk_drew ?_ | refine blk_alloc ?_ _)); refine blk_put (cs := #[.int .i64 ((rd_T40 x327002_2 x113_3).f0), .int .i64 ((rd_T40 x327002_2 x113_3).f1), .int .i64 0, .int .i64 0, .int .i64 0, .int .i64 0, .int .i64 0]) ?_ 2 _ rfl; (with_reducible repeat (first | refine blk_drewN ?_ _ | refine blk_drew ?_ | refine blk_alloc ?_ _)); refine blk_put (cs := #[.int .i64 ((rd_T40 x327002_2 x113_3).f0), .int .i64 0, .int .i64 0, .int .i64 0, .int .i64 0, .int .i64 0, .int .i64 0]) ?_ 1 _ rfl; (with_reducible repeat (first | refine blk_drewN ?_ _ | refine blk_drew ?_ | refine blk_alloc ?_ _)); refine blk_put (cs := #[.int .i64 0, .int .i64 0, .int .i64 0, .int .i64 0, .int .i64 0, .int .i64 0, .int .i64 0]) ?_ 0 _ rfl; (with_reducible repeat (first | refine blk_drewN ?_ _ | refine blk_drew ?_ | refine blk_alloc ?_ _)); exact BK345.out⟩, ⟨by repeat (first | (with_reducible first | exact HB.out | apply below_alloc | apply pw_below_drewN | apply below_drew1 | refine below_set ?_ GE326.out | refine below_set ?_ GE345.out) | exact HB.out)⟩⟩
                       case rest =>
                        clear HC95
                        try clear c1
                        try clear c2
                        try clear p2
                        try clear c3
                        try clear p3
                        try clear q3
                        try clear hx3
                        try clear c4
                        try clear c5
                        try clear p5
                        try clear q5
                        try clear hx5
                        try clear hf5
                        try clear c6
                        try clear p6
                        try clear c7
                        try clear c7b0
                        try clear c7b1
                        try clear c8
                        try clear c8b0
                        try clear c9
                        try clear c10
                        try clear c10b0
                        try clear c10b1
                        try clear c11
                        try clear c11b0
                        try clear c11b1
                        try clear c13
                        try clear c16
                        try clear c16b0
                        try clear c17
                        try clear c17b0
                        try clear c18
                        try clear c18b0
                        try clear c20
                        try clear c20b0
                        try clear c20b1
                        try clear c21
                        try clear c21b0
                        try clear c21b1
                        try clear c23
                        try clear c29
                        try clear c30
                        try clear p33
                        try clear q33
                        try clear hx33
                        try clear p34
                        try clear q34
                        try clear hx34
                        try clear c35
                        try clear c35b0
                        try clear c37
                        try clear c38
                        try clear c40
                        try clear c40b0
                        try clear c41
                        try clear c41b0
                        try clear c43
                        try clear c43b0
                        try clear c44
                        try clear c44b0
                        try clear c46
                        try clear c48
                        try clear c48b0
                        try clear c49
                        try clear c49b0
                        try clear p50
                        try clear q50
                        try clear hx50
                        try clear hf50
                        try clear c52
                        try clear c53
                        try clear c53b0
                        try clear c54
                        try clear c54b0
                        try clear c56
                        try clear c56b0
                        try clear c57
                        try clear c57b0
                        try clear c58
                        try clear c58b0
                        try clear c61
                        try clear c62
                        try clear p64
                        try clear c67
                        try clear c73
                        try clear c74
                        try clear c80
                        try clear c86
                        try clear c87
                        try clear c92
                        try clear c92b0
                        try clear c93
                        try clear c93b0
                        try clear c94
                        try clear c94b0
                        try clear c97
                        try clear c99
                        try clear c99b0
                        try clear c100
                        try clear c102
                        try clear hcz101_0
                        try clear hcz101_1
                        try clear hcz101_2
                        try clear hcz101_3
                        try clear hcz101_4
                        try clear hcz101_5
                        try clear hcz101_6
                        try clear hcz103_0
                        try clear hcz103_1
                        try clear hcz103_2
                        try clear hcz103_3
                        try clear hcz103_4
                        try clear hcz103_5
                        try clear hcz103_6
                        try clear hcz13_0
                        try clear hcz13_1
                        try clear hcz13_2
                        try clear hcz24_0
                        try clear hcz24_1
                        try clear hcz24_2
                        try clear hcz24_3
                        try clear hcz25_0
                        try clear hcz25_1
                        try clear hcz25_2
                        try clear hcz31_0
                        try clear hcz31_1
                        try clear hcz31_2
                        try clear hcz33_0
                        try clear hcz33_1
                        try clear hcz33_2
                        try clear hcz34_0
                        try clear hcz34_1
                        try clear hcz34_2
                        try clear hcz34_3
                        try clear hcz39_0
                        try clear hcz39_1
                        try clear hcz39_2
                        try clear hcz39_3
                        try clear hcz63_0
                        try clear hcz63_1
                        try clear hcz63_2
                        try clear hcz65_0
                        try clear hcz65_1
                        try clear hcz65_2
                        try clear hcz68_0
                        try clear hcz68_1
                        try clear hcz68_2
                        try clear hcz68_3
                        try clear hcz69_0
                        try clear hcz69_1
                        try clear hcz69_2
                        try clear hcz75_0
                        try clear hcz75_1
                        try clear hcz75_2
                        try clear hcz77_0
                        try clear hcz77_1
                        try clear hcz77_2
                        try clear hcz78_0
                        try clear hcz78_1
                        try clear hcz78_2
                        try clear hcz78_3
                        try clear hcz81_0
                        try clear hcz81_1
                        try clear hcz81_2
                        try clear hcz81_3
                        try clear hcz82_0
                        try clear hcz82_1
                        try clear hcz82_2
                        try clear hcz88_0
                        try clear hcz88_1
                        try clear hcz88_2
                        try clear hcz90_0
                        try clear hcz90_1
                        try clear hcz90_2
                        try clear hcz98_0
                        try clear hcz98_1
                        try clear hcz98_2
                        try clear hcz98_3
                        try clear hcz98_4
                        try clear hcz98_5
                        try clear hcz98_6
                        try clear hfz101_0
                        try clear hfz101_1
                        try clear hfz101_2
                        try clear hfz101_3
                        try clear hfz101_4
                        try clear hfz101_5
                        try clear hfz101_6
                        try clear hfz103_0
                        try clear hfz103_1
                        try clear hfz103_2
                        try clear hfz103_3
                        try clear hfz103_4
                        try clear hfz103_5
                        try clear hfz103_6
                        try clear hfz13_0
                        try clear hfz13_1
                        try clear hfz13_2
                        try clear hfz24_0
                        try clear hfz24_1
                        try clear hfz24_2
                        try clear hfz24_3
                        try clear hfz25_0
                        try clear hfz25_1
                        try clear hfz25_2
                        try clear hfz31_0
                        try clear hfz31_1
                        try clear hfz31_2
                        try clear hfz33_0
                        try clear hfz33_1
                        try clear hfz33_2
                        try clear hfz34_0
                        try clear hfz34_1
                        try clear hfz34_2
                        try clear hfz34_3
                        try clear hfz39_0
                        try clear hfz39_1
                        try clear hfz39_2
                        try clear hfz39_3
                        try clear hfz63_0
                        try clear hfz63_1
                        try clear hfz63_2
                        try clear hfz65_0
                        try clear hfz65_1
                        try clear hfz65_2
                        try clear hfz68_0
                        try clear hfz68_1
                        try clear hfz68_2
                        try clear hfz68_3
                        try clear hfz69_0
                        try clear hfz69_1
                        try clear hfz69_2
                        try clear hfz75_0
                        try clear hfz75_1
                        try clear hfz75_2
                        try clear hfz77_0
                        try clear hfz77_1
                        try clear hfz77_2
                        try clear hfz78_0
                        try clear hfz78_1
                        try clear hfz78_2
                        try clear hfz78_3
                        try clear hfz81_0
                        try clear hfz81_1
                        try clear hfz81_2
                        try clear hfz81_3
                        try clear hfz82_0
                        try clear hfz82_1
                        try clear hfz82_2
                        try clear hfz88_0
                        try clear hfz88_1
                        try clear hfz88_2
                        try clear hfz90_0
                        try clear hfz90_1
                        try clear hfz90_2
                        try clear hfz98_0
                        try clear hfz98_1
                        try clear hfz98_2
                        try clear hfz98_3
                        try clear hfz98_4
                        try clear hfz98_5
                        try clear hfz98_6
                        try clear hx330_0
                        try clear hx330_1
                        try clear hx330_2
                        try clear hx330_3
                        try clear hx339_0
                        try clear hx343_0
                        try clear hx343_1
                        try clear hx343_2
                        try clear hx343_3
                        try clear hx343_4
                        try clear hx343_5
                        try clear hx343_6
                        try clear hx344_0
                        try clear hx344_1
                        try clear hx344_2
                        try clear hx344_3
                        try clear hx344_4
                        try clear hx344_5
                        try clear hx344_6
                        try clear hx50_0
                        try clear p2
                        try clear p3
                        try clear p33
                        try clear p330
                        try clear p339
                        try clear p34
                        try clear p343
                        try clear p344
                        try clear p5
                        try clear p50
                        try clear p6
                        try clear p64
                        try clear q3
                        try clear q33
                        try clear q330
                        try clear q339
                        try clear q34
                        try clear q343
                        try clear q344
                        try clear q5
                        try clear q50
                        obtain ⟨kq, x125_94, rfl, HA, HJ94, HO_6, HO_111, HO_327002, BK326, BK345, HB⟩ := hcut
                        cases kq with
                        | zero => exact absurd HA.out (by simp [masterdisclaw14_TocAppends.j5])
                        | succ kj94 =>
                         have H := HA.out
                         clear HA
                         simp only [masterdisclaw14_TocAppends.j5] at H
                         by_cases c104 : x125_94 = true
                         · subst c104
                           have H1 : (none) = some r := by rw [if_pos rfl] at H; exact H
                           clear H
                           have H := H1
                           clear H1
                           exact absurd H (by simp)
                         · replace c104 := Bool.eq_false_iff.mpr c104
                           subst c104
                           have H1 : (masterdisclaw14_TocAppends.l3 kj94 a0 x6_2 ((rd_T40 x327002_2 x113_3).f2) x327002_2 (x327002_2.length : Int) x113_3 ((rd_T40 x327002_2 x113_3).f0) ((rd_T40 x327002_2 x113_3).f1) ((rd_T40 x327002_2 x113_3).f2) ((rd_T40 x327002_2 x113_3).f3) ((rd_T40 x327002_2 x113_3).f4) ((rd_T40 x327002_2 x113_3).f5) ((rd_T40 x327002_2 x113_3).f6)) = some r := by rw [if_neg (show ¬ (false = true) by decide)] at H; exact H
                           clear H
                           have H := H1
                           clear H1
                           have H' := Aside0.mk H
                           clear H
                           have hnb105 := NB345_326.out
                           have hnc105 := NB326_345.out
                           obtain ⟨hcz106_0, hcz106_1, hcz106_2, hcz106_3, hcz106_4, hcz106_5, hcz106_6⟩ := cel7 BK345.out
                           obtain ⟨hfz106_0, hfz106_1, hfz106_2, hfz106_3, hfz106_4, hfz106_5, hfz106_6⟩ := frz7 BK345.out
                           go_wp2
                           go_loopg [17] kj94 (fun kq v17 w' => ∃ (x17_5 : Int), v17 = .int .i64 x17_5 ∧ Aside0 (masterdisclaw14_TocAppends.l3 kq a0 x6_2 x17_5 x327002_2 (x327002_2.length : Int) x113_3 ((rd_T40 x327002_2 x113_3).f0) ((rd_T40 x327002_2 x113_3).f1) ((rd_T40 x327002_2 x113_3).f2) ((rd_T40 x327002_2 x113_3).f3) ((rd_T40 x327002_2 x113_3).f4) ((rd_T40 x327002_2 x113_3).f5) ((rd_T40 x327002_2 x113_3).f6) = some r) ∧ Aside0 (kq ≤ kj94) ∧ Aside0 (Kd.R Kd.bool 4 w' w.heap.size (fun _ => True) v328 x6_2) ∧ Aside0 (Kd.R k40 40 w' w.heap.size (fun k_ => k_ ≠ gb345) (.slice (some ad344) x327002_2.length co91) x327002_2) ∧ Aside0 (Kd.R k40 40 w' w.heap.size (fun k_ => k_ ≠ gb345) (.slice (some ad344) x327002_2.length co91) x327002_2) ∧ Aside0 (w'.heap[gb326]? = some (.cells #[.int .i64 x327000_2, .bool x327001_2, (.slice (some ad344) x327002_2.length co91)] 24 (0, 0))) ∧ Aside0 (w'.heap[gb345]? = some (.cells #[.int .i64 ((rd_T40 x327002_2 x113_3).f0), .int .i64 ((rd_T40 x327002_2 x113_3).f1), .int .i64 ((rd_T40 x327002_2 x113_3).f2), .int .i64 ((rd_T40 x327002_2 x113_3).f3), .int .i64 ((rd_T40 x327002_2 x113_3).f4), .int .i64 ((rd_T40 x327002_2 x113_3).f5), .int .i64 ((rd_T40 x327002_2 x113_3).f6)] 40 (0, 0))) ∧ Aside0 (Below w.heap.size w w'))
                           case atStart => exact ⟨(((rd_T40 x327002_2 x113_3).f2)), (by first | rfl | (simp; done) | (simp [*]; done)), H', ⟨Nat.le_refl _⟩, ⟨by (with_reducible repeat (first | apply Kd.R_alloc | apply Kd.R_drewN | apply Kd.R_drew)); exact HO_6.out⟩, ⟨by (with_reducible repeat (first | apply Kd.R_alloc | apply Kd.R_drewN | apply Kd.R_drew)); exact HO_111.out⟩, ⟨by (with_reducible repeat (first | apply Kd.R_alloc | apply Kd.R_drewN | apply Kd.R_drew)); exact HO_327002.out⟩, ⟨by (with_reducible repeat (first | refine blk_drewN ?_ _ | refine blk_drew ?_ | refine blk_alloc ?_ _)); exact BK326.out⟩, ⟨by (with_reducible repeat (first | refine blk_drewN ?_ _ | refine blk_drew ?_ | refine blk_alloc ?_ _)); exact BK345.out⟩, ⟨by repeat (first | (with_reducible first | exact HB.out | apply below_alloc | apply pw_below_drewN | apply below_drew1 | refine below_set ?_ GE326.out | refine below_set ?_ GE345.out) | exact HB.out)⟩⟩
                           case round =>
                            clear H'
                            try clear c1
                            try clear c2
                            try clear p2
                            try clear c3
                            try clear p3
                            try clear q3
                            try clear hx3
                            try clear c4
                            try clear c5
                            try clear p5
                            try clear q5
                            try clear hx5
                            try clear hf5
                            try clear c6
                            try clear p6
                            try clear c7
                            try clear c7b0
                            try clear c7b1
                            try clear c8
                            try clear c8b0
                            try clear c9
                            try clear c10
                            try clear c10b0
                            try clear c10b1
                            try clear c11
                            try clear c11b0
                            try clear c11b1
                            try clear c13
                            try clear c16
                            try clear c16b0
                            try clear c17
                            try clear c17b0
                            try clear c18
                            try clear c18b0
                            try clear c20
                            try clear c20b0
                            try clear c20b1
                            try clear c21
                            try clear c21b0
                            try clear c21b1
                            try clear c23
                            try clear c29
                            try clear c30
                            try clear p33
                            try clear q33
                            try clear hx33
                            try clear p34
                            try clear q34
                            try clear hx34
                            try clear c35
                            try clear c35b0
                            try clear c37
                            try clear c38
                            try clear c40
                            try clear c40b0
                            try clear c41
                            try clear c41b0
                            try clear c43
                            try clear c43b0
                            try clear c44
                            try clear c44b0
                            try clear c46
                            try clear c48
                            try clear c48b0
                            try clear c49
                            try clear c49b0
                            try clear p50
                            try clear q50
                            try clear hx50
                            try clear hf50
                            try clear c52
                            try clear c53
                            try clear c53b0
                            try clear c54
                            try clear c54b0
                            try clear c56
                            try clear c56b0
                            try clear c57
                            try clear c57b0
                            try clear c58
                            try clear c58b0
                            try clear c61
                            try clear c62
                            try clear p64
                            try clear c67
                            try clear c73
                            try clear c74
                            try clear c80
                            try clear c86
                            try clear c87
                            try clear c92
                            try clear c92b0
                            try clear c93
                            try clear c93b0
                            try clear c94
                            try clear c94b0
                            try clear c97
                            try clear c99
                            try clear c99b0
                            try clear c100
                            try clear c102
                            try clear c104
                            try clear c105
                            try clear hcz101_0
                            try clear hcz101_1
                            try clear hcz101_2
                            try clear hcz101_3
                            try clear hcz101_4
                            try clear hcz101_5
                            try clear hcz101_6
                            try clear hcz103_0
                            try clear hcz103_1
                            try clear hcz103_2
                            try clear hcz103_3
                            try clear hcz103_4
                            try clear hcz103_5
                            try clear hcz103_6
                            try clear hcz106_0
                            try clear hcz106_1
                            try clear hcz106_2
                            try clear hcz106_3
                            try clear hcz106_4
                            try clear hcz106_5
                            try clear hcz106_6
                            try clear hcz13_0
                            try clear hcz13_1
                            try clear hcz13_2
                            try clear hcz24_0
                            try clear hcz24_1
                            try clear hcz24_2
                            try clear hcz24_3
                            try clear hcz25_0
                            try clear hcz25_1
                            try clear hcz25_2
                            try clear hcz31_0
                            try clear hcz31_1
                            try clear hcz31_2
                            try clear hcz33_0
                            try clear hcz33_1
                            try clear hcz33_2
                            try clear hcz34_0
                            try clear hcz34_1
                            try clear hcz34_2
                            try clear hcz34_3
                            try clear hcz39_0
                            try clear hcz39_1
                            try clear hcz39_2
                            try clear hcz39_3
                            try clear hcz63_0
                            try clear hcz63_1
                            try clear hcz63_2
                            try clear hcz65_0
                            try clear hcz65_1
                            try clear hcz65_2
                            try clear hcz68_0
                            try clear hcz68_1
                            try clear hcz68_2
                            try clear hcz68_3
                            try clear hcz69_0
                            try clear hcz69_1
                            try clear hcz69_2
                            try clear hcz75_0
                            try clear hcz75_1
                            try clear hcz75_2
                            try clear hcz77_0
                            try clear hcz77_1
                            try clear hcz77_2
                            try clear hcz78_0
                            try clear hcz78_1
                            try clear hcz78_2
                            try clear hcz78_3
                            try clear hcz81_0
                            try clear hcz81_1
                            try clear hcz81_2
                            try clear hcz81_3
                            try clear hcz82_0
                            try clear hcz82_1
                            try clear hcz82_2
                            try clear hcz88_0
                            try clear hcz88_1
                            try clear hcz88_2
                            try clear hcz90_0
                            try clear hcz90_1
                            try clear hcz90_2
                            try clear hcz98_0
                            try clear hcz98_1
                            try clear hcz98_2
                            try clear hcz98_3
                            try clear hcz98_4
                            try clear hcz98_5
                            try clear hcz98_6
                            try clear hfz101_0
                            try clear hfz101_1
                            try clear hfz101_2
                            try clear hfz101_3
                            try clear hfz101_4
                            try clear hfz101_5
                            try clear hfz101_6
                            try clear hfz103_0
                            try clear hfz103_1
                            try clear hfz103_2
                            try clear hfz103_3
                            try clear hfz103_4
                            try clear hfz103_5
                            try clear hfz103_6
                            try clear hfz106_0
                            try clear hfz106_1
                            try clear hfz106_2
                            try clear hfz106_3
                            try clear hfz106_4
                            try clear hfz106_5
                            try clear hfz106_6
                            try clear hfz13_0
                            try clear hfz13_1
                            try clear hfz13_2
                            try clear hfz24_0
                            try clear hfz24_1
                            try clear hfz24_2
                            try clear hfz24_3
                            try clear hfz25_0
                            try clear hfz25_1
                            try clear hfz25_2
                            try clear hfz31_0
                            try clear hfz31_1
                            try clear hfz31_2
                            try clear hfz33_0
                            try clear hfz33_1
                            try clear hfz33_2
                            try clear hfz34_0
                            try clear hfz34_1
                            try clear hfz34_2
                            try clear hfz34_3
                            try clear hfz39_0
                            try clear hfz39_1
                            try clear hfz39_2
                            try clear hfz39_3
                            try clear hfz63_0
                            try clear hfz63_1
                            try clear hfz63_2
                            try clear hfz65_0
                            try clear hfz65_1
                            try clear hfz65_2
                            try clear hfz68_0
                            try clear hfz68_1
                            try clear hfz68_2
                            try clear hfz68_3
                            try clear hfz69_0
                            try clear hfz69_1
                            try clear hfz69_2
                            try clear hfz75_0
                            try clear hfz75_1
                            try clear hfz75_2
                            try clear hfz77_0
                            try clear hfz77_1
                            try clear hfz77_2
                            try clear hfz78_0
                            try clear hfz78_1
                            try clear hfz78_2
                            try clear hfz78_3
                            try clear hfz81_0
                            try clear hfz81_1
                            try clear hfz81_2
                            try clear hfz81_3
                            try clear hfz82_0
                            try clear hfz82_1
                            try clear hfz82_2
                            try clear hfz88_0
                            try clear hfz88_1
                            try clear hfz88_2
                            try clear hfz90_0
                            try clear hfz90_1
                            try clear hfz90_2
                            try clear hfz98_0
                            try clear hfz98_1
                            try clear hfz98_2
                            try clear hfz98_3
                            try clear hfz98_4
                            try clear hfz98_5
                            try clear hfz98_6
                            try clear hx330_0
                            try clear hx330_1
                            try clear hx330_2
                            try clear hx330_3
                            try clear hx339_0
                            try clear hx343_0
                            try clear hx343_1
                            try clear hx343_2
                            try clear hx343_3
                            try clear hx343_4
                            try clear hx343_5
                            try clear hx343_6
                            try clear hx344_0
                            try clear hx344_1
                            try clear hx344_2
                            try clear hx344_3
                            try clear hx344_4
                            try clear hx344_5
                            try clear hx344_6
                            try clear hx50_0
                            try clear p2
                            try clear p3
                            try clear p33
                            try clear p330
                            try clear p339
                            try clear p34
                            try clear p343
                            try clear p344
                            try clear p5
                            try clear p50
                            try clear p6
                            try clear p64
                            try clear q3
                            try clear q33
                            try clear q330
                            try clear q339
                            try clear q34
                            try clear q343
                            try clear q344
                            try clear q5
                            try clear q50
                            obtain ⟨x17_5, rfl, HA, HK5, HO_6, HO_111, HO_327002, BK326, BK345, HB⟩ := hrel
                            cases gk with
                            | zero => exact absurd HA.out (by simp [masterdisclaw14_TocAppends.l3])
                            | succ k5 =>
                             have H := HA.out
                             clear HA
                             simp only [masterdisclaw14_TocAppends.l3] at H
                             by_cases c107 : x17_5 < ((rd_T40 x327002_2 x113_3).f4)
                             · rw [if_pos c107] at H
                               have c107b0 : decide (x17_5 < ((rd_T40 x327002_2 x113_3).f4)) = true := decide_eq_true c107
                               clear c107
                               by_cases c108 : 0 ≤ x17_5
                               · rw [if_pos c108] at H
                                 have c108b0 : decide (0 ≤ x17_5) = true := decide_eq_true c108
                                 clear c108
                                 by_cases c109 : x17_5 < (x6_2.length : Int)
                                 · rw [if_pos c109] at H
                                   have c109b0 : decide (x17_5 < (x6_2.length : Int)) = true := decide_eq_true c109
                                   clear c109
                                   obtain ⟨bq110, hbq110⟩ : ∃ b_ : Bool, b_ = (rdOf false x6_2 x17_5) := ⟨_, rfl⟩
                                   replace H : (if bq110 = true then (masterdisclaw14_TocAppends.l3 k5 a0 x6_2 (wrap64 (x17_5 + 1)) x327002_2 (x327002_2.length : Int) x113_3 ((rd_T40 x327002_2 x113_3).f0) ((rd_T40 x327002_2 x113_3).f1) ((rd_T40 x327002_2 x113_3).f2) ((rd_T40 x327002_2 x113_3).f3) ((rd_T40 x327002_2 x113_3).f4) ((rd_T40 x327002_2 x113_3).f5) ((rd_T40 x327002_2 x113_3).f6)) else (none)) = some r := by rw [← hbq110] at H; exact H
                                   have Nbq110 := Aside0.mk hbq110
                                   clear hbq110
                                   by_cases c111 : bq110 = true
                                   · subst c111
                                     have H1 : (masterdisclaw14_TocAppends.l3 k5 a0 x6_2 (wrap64 (x17_5 + 1)) x327002_2 (x327002_2.length : Int) x113_3 ((rd_T40 x327002_2 x113_3).f0) ((rd_T40 x327002_2 x113_3).f1) ((rd_T40 x327002_2 x113_3).f2) ((rd_T40 x327002_2 x113_3).f3) ((rd_T40 x327002_2 x113_3).f4) ((rd_T40 x327002_2 x113_3).f5) ((rd_T40 x327002_2 x113_3).f6)) = some r := by rw [if_pos rfl] at H; exact H
                                     clear H
                                     have H := H1
                                     clear H1
                                     have H' := Aside0.mk H
                                     clear H
                                     have hnb112 := NB345_326.out
                                     have hnc112 := NB326_345.out
                                     obtain ⟨hcz113_0, hcz113_1, hcz113_2, hcz113_3, hcz113_4, hcz113_5, hcz113_6⟩ := cel7 BK345.out
                                     obtain ⟨hfz113_0, hfz113_1, hfz113_2, hfz113_3, hfz113_4, hfz113_5, hfz113_6⟩ := frz7 BK345.out
                                     obtain ⟨Ao114, co114, eo114⟩ := Kd.R_slice HO_6.out
                                     subst eo114
                                     have p346 : 0 ≤ (x17_5 : Int) := of_decide_eq_true (by first | (with_reducible assumption) | assumption)
                                     have q346 : x17_5 < (x6_2.length : Int) := of_decide_eq_true (by first | (with_reducible assumption) | assumption)
                                     obtain ⟨ad346, e346, hx346_0⟩ := Kd.at_bool (Kd.R_reads' HO_6.out).2.2 x17_5 p346 q346
                                     (try rw [← Nbq110.out] at hx346_0)
                                     cases e346
                                     replace p346 := eq_true p346
                                     replace q346 := eq_true q346
                                     go_wp2
                                     go_roundg k5
                                     case measure => have := HJ4.out; have := HK2.out; have := HK3.out; have := HJ94.out; have := HK5.out; omega
                                     case rel => exact ⟨(wrap64 (x17_5 + 1)), (by first | rfl | (simp; done) | (simp [*]; done)), H', ⟨by have := HJ4.out; have := HK2.out; have := HK3.out; have := HJ94.out; have := HK5.out; omega⟩, ⟨by (with_reducible repeat (first | apply Kd.R_alloc | apply Kd.R_drewN | apply Kd.R_drew)); exact HO_6.out⟩, ⟨by (with_reducible repeat (first | apply Kd.R_alloc | apply Kd.R_drewN | apply Kd.R_drew)); exact HO_111.out⟩, ⟨by (with_reducible repeat (first | apply Kd.R_alloc | apply Kd.R_drewN | apply Kd.R_drew)); exact HO_327002.out⟩, ⟨by (with_reducible repeat (first | refine blk_drewN ?_ _ | refine blk_drew ?_ | refine blk_alloc ?_ _)); exact BK326.out⟩, ⟨by (with_reducible repeat (first | refine blk_drewN ?_ _ | refine blk_drew ?_ | refine blk_alloc ?_ _)); exact BK345.out⟩, ⟨by repeat (first | (with_reducible first | exact HB.out | apply below_alloc | apply pw_below_drewN | apply below_drew1 | refine below_set ?_ GE326.out | refine below_set ?_ GE345.out) | exact HB.out)⟩⟩
                                   · replace c111 := Bool.eq_false_iff.mpr c111
                                     subst c111
                                     have H1 : (none) = some r := by rw [if_neg (show ¬ (false = true) by decide)] at H; exact H
                                     clear H
                                     have H := H1
                                     clear H1
                                     exact absurd H (by simp)
                                 · rw [if_neg c109] at H
                                   exact absurd H (by simp)
                               · rw [if_neg c108] at H
                                 exact absurd H (by simp)
                             · rw [if_neg c107] at H
                               have c107b0 : decide (x17_5 < ((rd_T40 x327002_2 x113_3).f4)) = false := decide_eq_false c107
                               clear c107
                               have H' := Aside0.mk H
                               clear H
                               have hnb115 := NB345_326.out
                               have hnc115 := NB326_345.out
                               obtain ⟨hcz116_0, hcz116_1, hcz116_2, hcz116_3, hcz116_4, hcz116_5, hcz116_6⟩ := cel7 BK345.out
                               obtain ⟨hfz116_0, hfz116_1, hfz116_2, hfz116_3, hfz116_4, hfz116_5, hfz116_6⟩ := frz7 BK345.out
                               go_wp2
                               go_roundg k5
                               case measure => have := HJ4.out; have := HK2.out; have := HK3.out; have := HJ94.out; have := HK5.out; omega
                               case rel => exact ⟨(wrap64 (x113_3 + 1)), (by first | rfl | (simp; done) | (simp [*]; done)), H', ⟨by have := HJ4.out; have := HK2.out; have := HK3.out; have := HJ94.out; have := HK5.out; omega⟩, ⟨by (with_reducible repeat (first | apply Kd.R_alloc | apply Kd.R_drewN | apply Kd.R_drew)); exact HO_6.out⟩, ⟨by (with_reducible repeat (first | apply Kd.R_alloc | apply Kd.R_drewN | apply Kd.R_drew)); exact Kd.R_mono HO_111.out (fun _ hk => trivial)⟩, ⟨by (with_reducible repeat (first | apply Kd.R_alloc | apply Kd.R_drewN | apply Kd.R_drew)); exact Kd.R_mono HO_327002.out (fun _ hk => trivial)⟩, ⟨by (with_reducible repeat (first | refine blk_drewN ?_ _ | refine blk_drew ?_ | refine blk_alloc ?_ _)); exact BK326.out⟩, ⟨by repeat (first | (with_reducible first | exact HB.out | apply below_alloc | apply pw_below_drewN | apply below_drew1 | refine below_set ?_ GE326.out | refine below_set ?_ GE345.out) | exact HB.out)⟩⟩
                     · rw [if_neg c94] at H
                       exact absurd H (by simp)
                   · rw [if_neg c93] at H
                     exact absurd H (by simp)
                 · rw [if_neg c92] at H
                   have c92b0 : decide (x113_3 < (x327002_2.length : Int)) = false := decide_eq_false c92
                   clear c92
                   obtain rfl := Option.some.inj H
                   go_wp2
                   go_ret
                   exact ⟨by first | rfl | (simp [errW_none, errW_some] <;> rfl) | (simp [*, errW_none, errW_some] <;> rfl), by repeat (first | (with_reducible first | exact HB.out | apply below_alloc | apply pw_below_drewN | apply below_drew1 | refine below_set ?_ GE326.out) | exact HB.out)⟩
         · rw [if_neg c11] at H
           exact absurd H (by simp)
       · rw [if_neg c10] at H
         exact absurd H (by simp)
 · replace c4 := Bool.eq_false_iff.mpr c4
   subst c4
   have H1 : (none) = some r := by rw [if_neg (show ¬ (false = true) by decide)] at H; exact H
   clear H
   have H := H1
   clear H1
   exact absurd H (by simp)
end Go.Proofs.Ytjhepdcdhabcjaa.G
namespace Go.Proofs.Ytjhepdcdhabcjaa.G
open Go.RowKit Go.Proofs.YtjhepdcdhabcjaaW.PrintWords Go.Proofs.YtjhepdcdhabcjaaW.PrintLast Go.Proofs.YtjhepdcdhabcjaaW.PrintMore
set_option linter.unusedVariables false
set_option linter.unusedSimpArgs false
theorem find_l0 {cap cl : Int} {fin : Bool} {l : List S40} (h : VALID cap cl fin l) {i : Nat} (hi : i < l.length) {p : Int} (h1 : (rd_T40 l (i : Int)).f2 ≤ p) (h2 : p < (rd_T40 l (i : Int)).f2 + (rd_T40 l (i : Int)).f3) :
 ∀ (d j k : Nat), j + d = i → toc_Find.l0 (k + 2 * d + 2) p l (l.length : Int) (j : Int) = some ((i : Int) + 1, true)
 | 0, j, k, hj => by
  obtain rfl : j = i := by omega
  obtain ⟨ht, b0, b1⟩ := v_tk h hi
  have hc := h.cap0
  have hw : wrap64 ((rd_T40 l (j : Int)).f2 + (rd_T40 l (j : Int)).f3) = (rd_T40 l (j : Int)).f2 + (rd_T40 l (j : Int)).f3 := w64 (by have := ht.len; omega)
  rw [toc_Find.l0, if_pos (by omega), if_pos (by omega), if_pos (by omega), if_pos h1]
  unfold toc_end.f
  simp only [Option.bind]
  rw [hw, decide_eq_true h2, toc_Find.j1, if_pos rfl, ht.num]
 | d + 1, j, k, hj => by
  have hjl : j < l.length := by omega
  obtain ⟨ht, b0, b1⟩ := v_tk h hjl
  have hc := h.cap0
  have ho := (v_order (i := j) h i (by omega) hi).1
  have hcn := h.cnt
  have hl := ht.len
  have g1 : (j : Int) < (l.length : Int) := by omega
  have g0 : 0 ≤ (j : Int) := by omega
  have g3 : p ≥ (rd_T40 l (j : Int)).f2 := by omega
  have g4 : ¬ p < (rd_T40 l (j : Int)).f2 + (rd_T40 l (j : Int)).f3 := by omega
  have g5 : j + 1 + d = i := by omega
  have ek : k + 2 * (d + 1) + 1 = k + 2 * d + 2 + 1 := by omega
  have hw2 : wrap64 ((j : Int) + 1) = ((j + 1 : Nat) : Int) := (w64 (by omega)).trans (by omega)
  have hw : wrap64 ((rd_T40 l (j : Int)).f2 + (rd_T40 l (j : Int)).f3) = (rd_T40 l (j : Int)).f2 + (rd_T40 l (j : Int)).f3 := by clear hw2; exact w64 (by omega)
  rw [toc_Find.l0, if_pos g1, if_pos g0, if_pos g1, if_pos g3]
  unfold toc_end.f
  simp only [Option.bind]
  rw [hw, decide_eq_false g4, ek, toc_Find.j1, if_neg (by decide), hw2]
  exact find_l0 h hi h1 h2 d (j + 1) k g5
theorem find_at {cap cl : Int} {fin : Bool} {l : List S40} (h : VALID cap cl fin l) {i : Nat} (hi : i < l.length) {p : Int} (h1 : (rd_T40 l (i : Int)).f2 ≤ p) (h2 : p < (rd_T40 l (i : Int)).f2 + (rd_T40 l (i : Int)).f3) (k : Nat) :
 toc_Find.f (k + 202) cl fin l p = some ((i : Int) + 1, true) := by
 have hcn := h.cnt
 have := find_l0 h hi h1 h2 i 0 (k + 200 - 2 * i) (by omega)
 rw [show k + 200 - 2 * i + 2 * i + 2 = k + 202 by omega] at this
 exact this
def recd (l : List S40) (p : Int) : Prop := ∃ j : Nat, j < l.length ∧ (rd_T40 l (j : Int)).f2 ≤ p ∧ p < (rd_T40 l (j : Int)).f4
structure DN (cap : Int) (done : List Bool) (Q : Int → Prop) : Prop where
 len : (done.length : Int) = cap
 ok : ∀ p : Nat, (p : Int) < cap → (rdOf false done (p : Int) = true ↔ Q (p : Int))
theorem dn_set {cap : Int} {done : List Bool} {Q : Int → Prop} (h : DN cap done Q) {p : Int} (h0 : 0 ≤ p) (h1 : p < cap) : DN cap (done.set p.toNat true) (fun q => Q q ∨ q = p) := by
 have hl := h.len
 refine ⟨by rw [List.length_set]; exact hl, fun q hq => ?_⟩
 have hq' := h.ok q hq
 unfold rdOf at hq' ⊢
 rw [Int.toNat_natCast, List.getD_eq_getElem?_getD] at hq' ⊢
 by_cases hpq : p.toNat = q
 · subst hpq
   rw [List.getElem?_set_self (by omega)]
   exact ⟨fun _ => .inr (by omega), fun _ => rfl⟩
 · rw [List.getElem?_set_ne hpq, hq']
   exact ⟨.inl, fun hh => hh.resolve_right (by omega)⟩
theorem l3_true {cap : Int} {done : List Bool} {Q : Int → Prop} (h : DN cap done Q) (ls : List S40) (n i : Int) (f0 f1 f2 f3 f4 f5 f6 : Int) (hc : f4 ≤ cap) (hc0 : cap ≤ 2000) (hQ : ∀ p, f2 ≤ p → p < f4 → Q p) (h2 : 0 ≤ f2) {K : Nat}
 (hK : masterdisclaw14_TocAppends.l2 K cap done ls n (wrap64 (i + 1)) = some true) : ∀ (d : Nat) (at_ : Int), f2 ≤ at_ → at_ + d = f4 → masterdisclaw14_TocAppends.l3 (K + d + 1) cap done at_ ls n i f0 f1 f2 f3 f4 f5 f6 = some true
 | 0, at_, h3, h4 => by
  rw [masterdisclaw14_TocAppends.l3, if_neg (by omega)]
  exact hK
 | d + 1, at_, h3, h4 => by
  have hr : rdOf false done at_ = true := by
   have := (h.ok at_.toNat (by omega)).2
   rw [show ((at_.toNat : Nat) : Int) = at_ by omega] at this
   exact this (hQ _ h3 (by omega))
  have hl := h.len
  have hw : wrap64 (at_ + 1) = at_ + 1 := w64 (by omega)
  rw [masterdisclaw14_TocAppends.l3, if_pos (by omega), if_pos (by omega), if_pos (by omega), if_pos hr, hw]
  exact l3_true h ls n i f0 f1 f2 f3 f4 f5 f6 hc hc0 hQ h2 hK d (at_ + 1) (by omega) (by omega)
theorem l2_true {cap cl : Int} {fin : Bool} {l : List S40} {done : List Bool} (hv : VALID cap cl fin l) (hc0 : cap ≤ 2000) (h : DN cap done (recd l)) : ∀ (d j : Nat), j + d = l.length → ∃ K, masterdisclaw14_TocAppends.l2 K cap done l (l.length : Int) (j : Int) = some true
 | 0, j, hj => ⟨1, by rw [masterdisclaw14_TocAppends.l2, if_neg (by omega)]⟩
 | d + 1, j, hj => by
  have hjl : j < l.length := by omega
  have hcn := hv.cnt
  obtain ⟨K, hK⟩ := l2_true hv hc0 h d (j + 1) (by omega)
  have hw : wrap64 ((j : Int) + 1) = ((j + 1 : Nat) : Int) := (w64 (by omega)).trans (by omega)
  obtain ⟨ht, b0, b1⟩ := v_tk hv hjl
  have hn := ht.nxt
  have h3 := l3_true h l (l.length : Int) (j : Int) (rd_T40 l (j : Int)).f0 (rd_T40 l (j : Int)).f1 (rd_T40 l (j : Int)).f2 (rd_T40 l (j : Int)).f3 (rd_T40 l (j : Int)).f4 (rd_T40 l (j : Int)).f5 (rd_T40 l (j : Int)).f6 (by omega) hc0
   (fun p h1 h2 => ⟨j, hjl, h1, h2⟩) b0 (K := K) (by rw [hw]; exact hK) ((rd_T40 l (j : Int)).f4 - (rd_T40 l (j : Int)).f2).toNat (rd_T40 l (j : Int)).f2 (Int.le_refl _) (by omega)
  refine ⟨K + ((rd_T40 l (j : Int)).f4 - (rd_T40 l (j : Int)).f2).toNat + 1 + 1 + 1, ?_⟩
  rw [masterdisclaw14_TocAppends.l2, if_pos (by omega), if_pos (by omega), if_pos (by omega), if_neg (by omega), decide_eq_false (by omega), masterdisclaw14_TocAppends.j5, if_neg (by decide)]
  exact h3
theorem dn_congr {cap : Int} {done : List Bool} {Q Q' : Int → Prop} (h : DN cap done Q) (hq : ∀ p, Q p ↔ Q' p) : DN cap done Q' := ⟨h.len, fun p hp => (h.ok p hp).trans (hq p)⟩
theorem l1_lift {K : Nat} {c : Int} {dn : List Bool} {ac : List S26} {n ix b q cl : Int} {fin : Bool} {l : List S40} {g0 g1 g2 : Int} {g3 r : Bool} (h : masterdisclaw14_TocAppends.l1 K c dn ac n ix b q cl fin l g0 g1 g2 g3 = some r) {K' : Nat} (hK : K ≤ K') : masterdisclaw14_TocAppends.l1 K' c dn ac n ix b q cl fin l g0 g1 g2 g3 = some r :=
 lift_le (f := fun k => masterdisclaw14_TocAppends.l1 k c dn ac n ix b q cl fin l g0 g1 g2 g3) (fun k => (masterdisclaw14_TocAppends.mono_l k).2.2.1 c dn ac n ix b q cl fin l g0 g1 g2 g3) h hK
theorem l0_lift {K : Nat} {c : Int} {dn : List Bool} {ac : List S26} {n ix cl : Int} {fin : Bool} {l : List S40} {r : Bool} (h : masterdisclaw14_TocAppends.l0 K c dn ac n ix cl fin l = some r) {K' : Nat} (hK : K ≤ K') : masterdisclaw14_TocAppends.l0 K' c dn ac n ix cl fin l = some r :=
 lift_le (f := fun k => masterdisclaw14_TocAppends.l0 k c dn ac n ix cl fin l) (fun k => (masterdisclaw14_TocAppends.mono_l k).2.1 c dn ac n ix cl fin l) h hK
theorem l1_true {cap cl : Int} {fin : Bool} {l : List S40} (hv : VALID cap cl fin l) (hc0 : cap ≤ 2000) {i : Nat} (hi : i < l.length) {a b : Int} (ha : (rd_T40 l (i : Int)).f2 ≤ a) (hb : (rd_T40 l (i : Int)).f4 = a + b) (Q0 : Int → Prop) (hQ : ∀ q, 0 ≤ q → q < b → ¬ Q0 (a + q))
 (ac : List S26) (n ix g0 g2 : Int) (g3 : Bool) (hend : ∀ done, DN cap done (fun p => Q0 p ∨ (a ≤ p ∧ p < a + b)) → ∃ K, masterdisclaw14_TocAppends.l0 K cap done ac n (wrap64 (ix + 1)) cl fin l = some true) :
 ∀ (d : Nat) (q : Int) (done : List Bool), 0 ≤ q → q + d = b → DN cap done (fun p => Q0 p ∨ (a ≤ p ∧ p < a + q)) → ∃ K, masterdisclaw14_TocAppends.l1 K cap done ac n ix b q cl fin l g0 a g2 g3 = some true
 | 0, q, done, h0, hq, hd => by
  obtain rfl : q = b := by omega
  obtain ⟨K, hK⟩ := hend done hd
  exact ⟨K + 1, by rw [masterdisclaw14_TocAppends.l1, if_neg (by omega)]; exact hK⟩
 | d + 1, q, done, h0, hq, hd => by
  obtain ⟨ht, b0, b1⟩ := v_tk hv hi
  have hn := ht.nxt
  have hnot : ¬ (Q0 (a + q) ∨ (a ≤ a + q ∧ a + q < a + q)) := fun hh => hh.elim (hQ q h0 (by omega)) (fun hh => by omega)
  have hat : 0 ≤ a + q ∧ a + q < cap := ⟨by omega, by omega⟩
  have hf : rdOf false done (a + q) = false := by
   have := hd.ok (a + q).toNat (by omega)
   rw [show (((a + q).toNat : Nat) : Int) = a + q by omega] at this
   exact Bool.eq_false_iff.mpr (fun hh => hnot (this.1 hh))
  have hset := dn_congr (dn_set hd hat.1 hat.2) (Q' := fun p => Q0 p ∨ (a ≤ p ∧ p < a + (q + 1))) (fun p => by
   constructor
   · rintro ((h | h) | h)
     · exact .inl h
     · exact .inr ⟨by omega, by omega⟩
     · exact .inr ⟨by omega, by omega⟩
   · rintro (h | h)
     · exact .inl (.inl h)
     · by_cases hp : p = a + q
       · exact .inr hp
       · exact .inl (.inr ⟨by omega, by omega⟩))
  obtain ⟨K, hK⟩ := l1_true hv hc0 hi ha hb Q0 hQ ac n ix g0 g2 g3 hend d (q + 1) _ (by omega) (by omega) hset
  have hfind := find_at hv hi (p := a + q) (by omega) (by omega) K
  have hlen := hd.len
  have hcn := hv.cnt
  have hw : wrap64 (a + q) = a + q ∧ wrap64 (q + 1) = q + 1 ∧ wrap64 ((i : Int) + 1 - 1) = (i : Int) := ⟨w64 (by omega), w64 (by omega), (w64 (by omega)).trans (by omega)⟩
  have c1 : q < b := by omega
  have c2 : ¬ a + q < 0 := by omega
  have c3 : ¬ a + q ≥ cap := by omega
  have c4 : a + q < (done.length : Int) := by omega
  have c5 : ¬ (i : Int) + 1 < 1 := by omega
  have c6 : ¬ (i : Int) + 1 > (l.length : Int) := by omega
  have c7 : (i : Int) < (l.length : Int) := by omega
  have c8 : ¬ a + q ≥ (rd_T40 l (i : Int)).f4 := by omega
  have c9 : (0 : Int) ≤ (i : Int) := by omega
  refine ⟨K + 202 + 1 + 1, ?_⟩
  rw [masterdisclaw14_TocAppends.l1, if_pos c1, hw.1, if_neg c2, if_neg c3, if_pos hat.1, if_pos c4, hf, masterdisclaw14_TocAppends.j3, if_neg (by decide), if_pos hat.1, if_pos c4, hfind]
  simp only [Option.bind, if_true]
  rw [if_neg c5, if_neg c6, hw.2.2, if_pos c9, if_pos c7, if_neg c8, hw.2.1]
  exact l1_lift hK (by omega)
theorem l0_true {cap : Int} (hc0 : cap ≤ 2000) (ac : List S26) (hac : ac.length ≤ 40) : ∀ (d ix : Nat) (cl : Int) (fin : Bool) (l : List S40) (done : List Bool), ix + d = ac.length → VALID cap cl fin l → DN cap done (recd l) →
 ∃ K, masterdisclaw14_TocAppends.l0 K cap done ac (ac.length : Int) (ix : Int) cl fin l = some true
 | 0, ix, cl, fin, l, done, hd, hv, hdn => by
  obtain ⟨K, hK⟩ := l2_true hv hc0 hdn l.length 0 (by omega)
  exact ⟨K + 1, by rw [masterdisclaw14_TocAppends.l0, if_neg (by omega)]; exact hK⟩
 | d + 1, ix, cl, fin, l, done, hd, hv, hdn => by
  have hw : wrap64 ((ix : Int) + 1) = ((ix + 1 : Nat) : Int) := (w64 (by omega)).trans (by omega)
  have g0 : (ix : Int) < (ac.length : Int) := by omega
  have g1 : (0 : Int) ≤ (ix : Int) := by omega
  have hd1 : ix + 1 + d = ac.length := by omega
  have hdo := fun K => do_toc K cap cl fin l (rd_T26 ac (ix : Int)).f0 (rd_T26 ac (ix : Int)).f1 (rd_T26 ac (ix : Int)).f2 (rd_T26 ac (ix : Int)).f3 (v_bdT hv)
  have hst := step_of (kind := (rd_T26 ac (ix : Int)).f0) (a := (rd_T26 ac (ix : Int)).f1) (b := (rd_T26 ac (ix : Int)).f2) (fz := (rd_T26 ac (ix : Int)).f3) hv (fun hf => (hv.en.2 hf).2)
  generalize hr : opDo cap cl fin l (rd_T26 ac (ix : Int)).f0 (rd_T26 ac (ix : Int)).f1 (rd_T26 ac (ix : Int)).f2 (rd_T26 ac (ix : Int)).f3 = r at hdo hst
  obtain ⟨cl', fin', l', e⟩ := r
  by_cases he : e = 0
  · subst he
    have hst := hst rfl
    dsimp only at hst
    have hv' := step_valid hv hst
    -- what is left of the acts, at a state with the same blocks recorded
    have hgo : ∀ (hq : ∀ p, recd l p ↔ recd l' p), ¬ (rd_T26 ac (ix : Int)).f0 = 1 → ∃ K, masterdisclaw14_TocAppends.l0 K cap done ac (ac.length : Int) (ix : Int) cl fin l = some true := by
     intro hq hk1
     obtain ⟨K, hK⟩ := l0_true hc0 ac hac d (ix + 1) cl' fin' l' done hd1 hv' (dn_congr hdn hq)
     refine ⟨K + l.length + 4 + 1, ?_⟩
     rw [masterdisclaw14_TocAppends.l0, if_pos g0, if_pos g1, if_pos g0, hdo K]
     simp only [Option.bind, if_true]
     rw [if_neg hk1, hw]
     exact l0_lift hK (by omega)
    cases hst with
    | reserve h0 =>
     refine hgo (fun p => ?_) (by omega)
     constructor
     · rintro ⟨j, hj, h1, h2⟩
       exact ⟨j, by rw [List.length_append]; omega, by rw [rd_app_lt _ hj]; exact h1, by rw [rd_app_lt _ hj]; exact h2⟩
     · rintro ⟨j, hj, h1, h2⟩
       rw [List.length_append] at hj
       by_cases hjl : j < l.length
       · rw [rd_app_lt _ hjl] at h1 h2; exact ⟨j, hjl, h1, h2⟩
       · obtain rfl : j = l.length := by have : j < l.length + 1 := hj; omega
         rw [rd_app_eq] at h1 h2
         exact absurd h2 (by show ¬ p < newStart cl l; have h1 : newStart cl l ≤ p := h1; omega)
    | closeT i hk1 hi =>
     refine hgo (fun p => ?_) hk1
     unfold recd
     rw [List.length_set]
     have hsame : ∀ j : Nat, (rd_T40 (l.set i ⟨(rd_T40 l (i : Int)).f0, (rd_T40 l (i : Int)).f1, (rd_T40 l (i : Int)).f2, (rd_T40 l (i : Int)).f4 - (rd_T40 l (i : Int)).f2, (rd_T40 l (i : Int)).f4, 2, (rd_T40 l (i : Int)).f6⟩) (j : Int)).f2 = (rd_T40 l (j : Int)).f2 ∧ (rd_T40 (l.set i ⟨(rd_T40 l (i : Int)).f0, (rd_T40 l (i : Int)).f1, (rd_T40 l (i : Int)).f2, (rd_T40 l (i : Int)).f4 - (rd_T40 l (i : Int)).f2, (rd_T40 l (i : Int)).f4, 2, (rd_T40 l (i : Int)).f6⟩) (j : Int)).f4 = (rd_T40 l (j : Int)).f4 := by
      intro j
      by_cases hij : i = j
      · subst hij; rw [rd_set_eq _ hi]; exact ⟨rfl, rfl⟩
      · rw [rd_set_ne _ hij]; exact ⟨rfl, rfl⟩
     constructor
     · rintro ⟨j, hj, h1, h2⟩
       exact ⟨j, hj, by rw [(hsame j).1]; exact h1, by rw [(hsame j).2]; exact h2⟩
     · rintro ⟨j, hj, h1, h2⟩
       exact ⟨j, hj, by rw [(hsame j).1] at h1; exact h1, by rw [(hsame j).2] at h2; exact h2⟩
    | closeS1 _ hk1 => exact hgo (fun p => Iff.rfl) hk1
    | closeS2 hk1 => exact hgo (fun p => Iff.rfl) hk1
    | append i hk1 hi h5 h4 hp hf =>
     obtain ⟨ht, b0, b1⟩ := v_tk hv hi
     have hn := ht.nxt
     have hpb := hp.1
     have hrec : ∀ p, recd (l.set i (apNew (rd_T40 l (i : Int)) (rd_T26 ac (ix : Int)).f2)) p ↔ (recd l p ∨ ((rd_T26 ac (ix : Int)).f1 ≤ p ∧ p < (rd_T26 ac (ix : Int)).f1 + (rd_T26 ac (ix : Int)).f2)) := by
      intro p
      unfold recd
      rw [List.length_set]
      constructor
      · rintro ⟨j, hj, h1, h2⟩
        by_cases hij : i = j
        · subst hij
          rw [rd_set_eq _ hi] at h1 h2
          have h1 : (rd_T40 l (i : Int)).f2 ≤ p := h1
          have h2 : p < (rd_T40 l (i : Int)).f4 + (rd_T26 ac (ix : Int)).f2 := h2
          by_cases h3 : p < (rd_T40 l (i : Int)).f4
          · exact .inl ⟨i, hj, h1, h3⟩
          · exact .inr ⟨by omega, by omega⟩
        · rw [rd_set_ne _ hij] at h1 h2
          exact .inl ⟨j, hj, h1, h2⟩
      · rintro (⟨j, hj, h1, h2⟩ | ⟨h1, h2⟩)
        · by_cases hij : i = j
          · subst hij
            refine ⟨i, hj, ?_, ?_⟩
            · rw [rd_set_eq _ hi]; exact h1
            · rw [rd_set_eq _ hi]
              show p < (rd_T40 l (i : Int)).f4 + (rd_T26 ac (ix : Int)).f2
              omega
          · exact ⟨j, hj, by rw [rd_set_ne _ hij]; exact h1, by rw [rd_set_ne _ hij]; exact h2⟩
        · refine ⟨i, hi, ?_, ?_⟩
          · rw [rd_set_eq _ hi]
            show (rd_T40 l (i : Int)).f2 ≤ p
            omega
          · rw [rd_set_eq _ hi]
            show p < (rd_T40 l (i : Int)).f4 + (rd_T26 ac (ix : Int)).f2
            omega
     have hnew : ∀ q, 0 ≤ q → q < (rd_T26 ac (ix : Int)).f2 → ¬ recd l ((rd_T26 ac (ix : Int)).f1 + q) := by
      rintro q h0 h1 ⟨j, hj, h2, h3⟩
      obtain ⟨htj, -, -⟩ := v_tk hv hj
      have hnj := htj.nxt
      rcases Nat.lt_trichotomy j i with hji | hji | hji
      · have := (v_order (i := j) hv i hji hi).1
        omega
      · subst hji; omega
      · have := (v_order (i := i) hv j hji hj).1
        omega
     have hi' : i < (l.set i (apNew (rd_T40 l (i : Int)) (rd_T26 ac (ix : Int)).f2)).length := by rw [List.length_set]; exact hi
     have hx := rd_set_eq (apNew (rd_T40 l (i : Int)) (rd_T26 ac (ix : Int)).f2) hi
     obtain ⟨K, hK⟩ := l1_true hv' hc0 hi' (a := (rd_T26 ac (ix : Int)).f1) (b := (rd_T26 ac (ix : Int)).f2) (by rw [hx]; show (rd_T40 l (i : Int)).f2 ≤ _; omega) (by rw [hx, ← h4]; rfl) (recd l) hnew ac (ac.length : Int) (ix : Int)
      (rd_T26 ac (ix : Int)).f0 (rd_T26 ac (ix : Int)).f2 (rd_T26 ac (ix : Int)).f3 (fun done' hd' => by
       rw [hw]
       exact l0_true hc0 ac hac d (ix + 1) _ _ _ done' hd1 hv' (dn_congr hd' (fun p => (hrec p).symm)))
      (rd_T26 ac (ix : Int)).f2.toNat 0 done (Int.le_refl _) (by omega) (dn_congr hdn (fun p => ⟨.inl, fun hh => hh.elim id (fun hh => by omega)⟩))
     refine ⟨K + l.length + 4 + 1, ?_⟩
     rw [masterdisclaw14_TocAppends.l0, if_pos g0, if_pos g1, if_pos g0, hdo K]
     simp only [Option.bind, if_true]
     rw [if_pos hk1]
     exact l1_lift hK (by omega)
  · obtain ⟨K, hK⟩ := l0_true hc0 ac hac d (ix + 1) cl fin l done hd1 hv hdn
    refine ⟨K + l.length + 4 + 1, ?_⟩
    rw [masterdisclaw14_TocAppends.l0, if_pos g0, if_pos g1, if_pos g0, hdo K]
    simp only [Option.bind]
    rw [if_neg he, hw]
    exact l0_lift hK (by omega)
theorem pure_TocAppends (cap : Int) (ac : List S26) : ∃ k, masterdisclaw14_TocAppends.f k cap ac = some true := by
 have hj : ∀ k b, masterdisclaw14_TocAppends.j0 (k + 1) cap ac b = if b = true then some true else (if 0 ≤ cap then (if cap.toNat ≤ 281474976710656 then masterdisclaw14_TocAppends.l0 k cap (List.replicate cap.toNat false) ac (ac.length : Int) 0 0 false [] else none) else none) := fun k b => by rw [masterdisclaw14_TocAppends.j0]
 have haw : ∀ k, masterdisclaw14_awake.f (k + 10) = some true := fun k => lift_le masterdisclaw14_awake.mono awake_true (by omega)
 by_cases h1 : (ac.length : Int) > 40
 · refine ⟨10, ?_⟩
   unfold masterdisclaw14_TocAppends.f
   rw [haw 0, if_pos h1, hj 9]
   rfl
 · by_cases h2 : cap < 1
   · refine ⟨10, ?_⟩
     unfold masterdisclaw14_TocAppends.f
     rw [haw 0, if_neg h1, if_pos h2, hj 9]
     rfl
   · by_cases h3 : cap > 2000
     · refine ⟨10, ?_⟩
       unfold masterdisclaw14_TocAppends.f
       rw [haw 0, if_neg h1, if_neg h2, decide_eq_true h3, hj 9]
       rfl
     · obtain ⟨K, hK⟩ := l0_true (cap := cap) (by omega) ac (by omega) ac.length 0 0 false [] (List.replicate cap.toNat false) (by omega) (v_nil ⟨by omega, by omega⟩) ⟨by rw [List.length_replicate]; omega, fun p hp => by
        unfold rdOf
        rw [Int.toNat_natCast, List.getD_eq_getElem?_getD, List.getElem?_replicate]
        constructor
        · intro hh; split at hh <;> cases hh
        · rintro ⟨j, hj, -⟩; exact absurd hj (Nat.not_lt_zero _)⟩
       refine ⟨K + 9 + 1, ?_⟩
       unfold masterdisclaw14_TocAppends.f
       rw [haw K, if_neg h1, if_neg h2, decide_eq_false h3, hj (K + 9)]
       simp only [Option.bind, if_true, Bool.false_eq_true, if_false]
       rw [if_pos (by omega), if_pos (by omega)]
       exact l0_lift hK (by omega)
end Go.Proofs.Ytjhepdcdhabcjaa.G
namespace Go.Proofs.Ytjhepdcdhabcjaa.G
open Go.RowKit Go.Proofs.YtjhepdcdhabcjaaW.PrintWords Go.Proofs.YtjhepdcdhabcjaaW.PrintLast Go.Proofs.YtjhepdcdhabcjaaW.PrintMore
open Go.ChangeShapes Go.WideShapes Go.Deep
set_option linter.unusedVariables false
theorem act_cells {H : Type} {enc : TypeId × Value → H} {W : World} {base n : Nat} {spare : Nat → Bool} {held : Bool} {a : Addr} {cs : List Value} {x : DataW H × List MemPlace}
 (hc : W.cells? base a (Try.prog.cellsOf 26) = some cs) (h : DataW.trod enc Try.prog W base spare held n 26 cs = some x) :
 ∃ s : S26, ∀ (q : Nat) (v : Value), [Value.int .i64 s.f0, .int .i64 s.f1, .int .i64 s.f2, .bool s.f3][q]? = some v → W.cell? (a.add q) = some v := by
 have h4 : Try.prog.cellsOf 26 = 4 := by kernel_rfl
 have h1 : Try.prog.cellsOf 3 = 1 := by kernel_rfl
 have h1' : Try.prog.cellsOf 4 = 1 := by kernel_rfl
 obtain ⟨-, hl, hat⟩ := World.cells?_some hc
 obtain ⟨xs, m, -, -, -, hx, hf⟩ := DataW.trod_struct Try.underlying26 h
 rw [h4] at hl hat
 match cs, hl, xs, hx with
 | [c0, c1, c2, c3], _, [y0, y1, y2, y3], _ =>
  have t0 : DataW.trod enc Try.prog W base spare held m 3 (([c0, c1, c2, c3].drop 0).take (Try.prog.cellsOf 3)) = some y0 := hf 0 _ rfl
  have t1 : DataW.trod enc Try.prog W base spare held m 3 (([c0, c1, c2, c3].drop 1).take (Try.prog.cellsOf 3)) = some y1 := hf 1 _ rfl
  have t2 : DataW.trod enc Try.prog W base spare held m 3 (([c0, c1, c2, c3].drop 2).take (Try.prog.cellsOf 3)) = some y2 := hf 2 _ rfl
  have t3 : DataW.trod enc Try.prog W base spare held m 4 (([c0, c1, c2, c3].drop 3).take (Try.prog.cellsOf 4)) = some y3 := hf 3 _ rfl
  rw [h1] at t0
  obtain ⟨n0, e0, -, -⟩ := DataW.trod_int Try.underlying3 t0
  rw [h1] at t1
  obtain ⟨n1, e1, -, -⟩ := DataW.trod_int Try.underlying3 t1
  rw [h1] at t2
  obtain ⟨n2, e2, -, -⟩ := DataW.trod_int Try.underlying3 t2
  rw [h1'] at t3
  obtain ⟨n3, e3, -⟩ := DataW.trod_bool Try.underlying4 t3
  obtain rfl : c0 = .int .i64 n0 := by injection e0
  obtain rfl : c1 = .int .i64 n1 := by injection e1
  obtain rfl : c2 = .int .i64 n2 := by injection e2
  obtain rfl : c3 = .bool n3 := by injection e3
  refine ⟨⟨n0, n1, n2, n3⟩, fun q v hq => ?_⟩
  have hq7 : q < 4 := by
   have := (List.getElem?_eq_some_iff.1 hq).1
   simpa using this
  rw [hat q hq7]
  exact hq
theorem open_acts {H : Type} {enc : TypeId × Value → H} {W : World} {base : Nat} {spare : Nat → Bool} {held : Bool} {n : Nat} {u : Value} {y : DataW H × List MemPlace} (h : DataW.trod enc Try.prog W base spare held n 35 [u] = some y) :
 ∃ (A : Option Addr) (c : Nat) (l : List S26), u = .slice A l.length c ∧ l.length ≤ c ∧ l.length ≤ 9223372036854775807 ∧ Kd.C k26 W A l.length l := by
 rcases open_slice Try.underlying35 h with ⟨hc, -⟩ | ⟨a, len, cap, m, n, D, Pl, hc, -, hl, hm, hmm, -, hi⟩
 · obtain rfl : u = .slice none 0 0 := by injection hc
   exact ⟨none, 0, [], rfl, Nat.le_refl _, Nat.zero_le _, rfl, Nat.zero_le _, fun h => absurd h (Nat.lt_irrefl _)⟩
 · obtain rfl : u = .slice (some a) len cap := by injection hc
   have hlm : len ≤ m := by rw [hmm]; split <;> omega
   have h4 : Try.prog.cellsOf 26 = 4 := by kernel_rfl
   have hx : ∀ i, ∃ s : S26, i < len → ∀ (q : Nat) (v : Value), [Value.int .i64 s.f0, .int .i64 s.f1, .int .i64 s.f2, .bool s.f3][q]? = some v → W.cell? (a.add (i * 4 + q)) = some v := by
    intro i
    by_cases hlt : i < len
    · obtain ⟨cs, hcs, ht⟩ := hi i (by omega)
      obtain ⟨s, hs⟩ := act_cells hcs ht
      refine ⟨s, fun _ q v hq => ?_⟩
      have := hs q v hq
      rwa [h4, Go.Deep.add_add] at this
    · exact ⟨z26, fun h => absurd h hlt⟩
   obtain ⟨g, hg⟩ := Classical.axiomOfChoice hx
   have hlen : ((List.range len).map g).length = len := by simp
   have hml : len ≤ 9223372036854775807 := by unfold maxLen at hm; omega
   refine ⟨some a, cap, (List.range len).map g, by rw [hlen], by rw [hlen]; exact hl, by rw [hlen]; exact hml, ?_⟩
   rw [hlen]
   refine ⟨hlen, hml, fun _ => ⟨a, rfl, fun j p hj => ?_⟩⟩
   rw [List.getElem?_map] at hj
   by_cases hjl : j < len
   · rw [List.getElem?_range hjl] at hj
     cases hj
     exact ⟨_, rfl, k26_mk W (g j), hg j hjl⟩
   · rw [List.getElem?_eq_none (by simpa using hjl)] at hj
     cases hj
end Go.Proofs.Ytjhepdcdhabcjaa.G
