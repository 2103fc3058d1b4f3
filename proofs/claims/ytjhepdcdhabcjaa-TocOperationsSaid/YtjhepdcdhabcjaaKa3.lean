/- Texts of one claim, merged by a program of this session; what is proved stands in the last of them. -/
import Derived.Test.YtjhepdcdhabcjaaKa1
import Derived.Test.YtjhepdcdhabcjaaKa2
namespace Go.Proofs.Ytjhepdcdhabcjaa.G
open Go.RowKit Go.Proofs.YtjhepdcdhabcjaaW.PrintWords Go.Proofs.YtjhepdcdhabcjaaW.PrintLast Go.Proofs.YtjhepdcdhabcjaaW.PrintMore
set_option linter.unusedVariables false
theorem rv_cells3 {w : World} {g : Nat} {a b c : Value} {t : Nat} (h : w.heap[g]? = some (.cells #[a, b, c] t (0, 0))) :
 w.cell? ⟨g, 0, none⟩ = some a ∧ w.cell? ⟨g, 1, none⟩ = some b ∧ w.cell? ⟨g, 2, none⟩ = some c := ⟨(blk_cell h 0).trans rfl, (blk_cell h 1).trans rfl, (blk_cell h 2).trans rfl⟩
theorem rv_cells7 {w : World} {g : Nat} {a b c d e f h : Value} {t : Nat} (k : w.heap[g]? = some (.cells #[a, b, c, d, e, f, h] t (0, 0))) :
 w.cell? ⟨g, 0, none⟩ = some a ∧ w.cell? ⟨g, 1, none⟩ = some b ∧ w.cell? ⟨g, 2, none⟩ = some c ∧ w.cell? ⟨g, 3, none⟩ = some d ∧ w.cell? ⟨g, 4, none⟩ = some e ∧ w.cell? ⟨g, 5, none⟩ = some f ∧ w.cell? ⟨g, 6, none⟩ = some h :=
 ⟨(blk_cell k 0).trans rfl, (blk_cell k 1).trans rfl, (blk_cell k 2).trans rfl, (blk_cell k 3).trans rfl, (blk_cell k 4).trans rfl, (blk_cell k 5).trans rfl, (blk_cell k 6).trans rfl⟩
theorem one_new {W w' : World} {o : Obj} (h : W.alloc o = w') : w'.heap[W.heap.size]? = some o ∧ Below W.heap.size W w' := by
 subst h
 exact ⟨blk_new W o, below_one W o⟩
theorem rv_stop {cap cl : Int} {fin : Bool} {l : List S40} {d i : Nat} {e ses : Int} {r : Bool} (h : rvL cap cl fin l (d + 1) i e ses = r) {st s2 : Int}
 (hst : st = if rvT (i : Int) ses (rd_T40 l (i : Int)) = true then wrap64 (e + 16) else e) (hs : s2 = if rvT (i : Int) ses (rd_T40 l (i : Int)) = true then wrap64 (ses + 1) else ses)
 (hx : rvX cap cl (i : Int) st s2 (rd_T40 l (i : Int)) = false) : r = false := by
 rw [hst, hs] at hx
 rw [rvL, hx] at h
 exact h.symm
theorem rv_go {cap cl : Int} {fin : Bool} {l : List S40} {d i : Nat} {e ses : Int} {r : Bool} (h : rvL cap cl fin l (d + 1) i e ses = r) {st s2 : Int}
 (hst : st = if rvT (i : Int) ses (rd_T40 l (i : Int)) = true then wrap64 (e + 16) else e) (hs : s2 = if rvT (i : Int) ses (rd_T40 l (i : Int)) = true then wrap64 (ses + 1) else ses)
 (hx : rvX cap cl (i : Int) st s2 (rd_T40 l (i : Int)) = true) : rvL cap cl fin l d (i + 1) (wrap64 ((rd_T40 l (i : Int)).f2 + (rd_T40 l (i : Int)).f3)) s2 = r := by
 rw [hst, hs] at hx
 rw [rvL, if_pos hx] at h
 rw [hs]; exact h
set_option maxHeartbeats 4000000 in
set_option maxRecDepth 100000 in
theorem masterdiscref14_Valid.calls (a0 : Int) (a1_0 : Int) (a1_1 : Bool) (A1_2 : Option Addr) (c1_2 : Nat) (l1_2 : List (S40)) (r : Bool) (w : World) (hr1_2 : Kd.C k40 w A1_2 l1_2.length l1_2) (hc1_2 : l1_2.length ≤ c1_2) (h : masterdiscref14_Valid.f a0 a1_0 a1_1 l1_2 = some r) :
 Calls Try.prog 11 #[.int .i64 a0, .agg #[.int .i64 a1_0, .bool a1_1, .slice A1_2 l1_2.length c1_2]] w fun e w' => e = .returned (.bool r) ∧ Below w.heap.size w w' := by
 have hu24 := Try.underlying24
 have hu40 := Try.underlying40
 have HR := Aside0.mk hr1_2
 have HC := Aside0.mk hc1_2
 have H := Aside0.mk (Option.some.inj h)
 clear hr1_2 hc1_2 h
 go_enter Try.func11, Try.ntmps11
 go_upto_region 1 with (fail)
 generalize hw0 : w.alloc _ = w0
 obtain ⟨ht0, hb0⟩ := one_new hw0
 have HT := Aside0.mk ht0
 have HB := Aside0.mk hb0
 clear hw0 ht0 hb0
 go_cut [29] (fun v29 wc => v29 = .bool (!(rvH a0 a1_0 (l1_2.length : Int))) ∧ Aside0 (wc.heap[w.heap.size]? = some (.cells #[.int .i64 a1_0, .bool a1_1, (.slice A1_2 l1_2.length c1_2)] 24 (0, 0))) ∧ Aside0 (Below w.heap.size w wc))
 case first =>
  by_cases b0 : a0 ≥ 1 ∧ a0 ≤ 449849
  · have HCA := Aside0.mk (show masterdiscref14_capable.f a0 = some true by simp [masterdiscref14_capable.f, b0.1, b0.2])
    by_cases b1 : (l1_2.length : Int) > 99
    · have HRV := Aside0.mk (show rvH a0 a1_0 (l1_2.length : Int) = false from decide_eq_false (by omega))
      have d1 : decide (99 < (l1_2.length : Int)) = true := decide_eq_true b1
      clear b0 b1
      go_wp2_with (first | ((with_reducible refine gate_callee (f := 25) rfl ?_); refine goesL_ (some 12) rfl rfl Try.func25 (by kernel_rfl) rfl #[.int .i64 a0] rfl (by (try simp only [List.map_toArray, List.map_cons, List.map_nil]); first | done | rfl) ?_; (with_reducible refine (masterdiscref14_capable.calls a0 true _ HCA.out).mono ?_); rintro e w' ⟨rfl, ⟨nd, rfl⟩⟩; refine ⟨_, rfl, ?_⟩; obtain ⟨t0, t1, t2⟩ := rv_cells3 HT.out))
      go_meet
      case rel => exact ⟨(by first | (rw [HRV.out]; done) | (rw [HRV.out]; rfl)), ⟨by (with_reducible repeat (first | refine blk_drewN ?_ _ | refine blk_drew ?_ | refine blk_alloc ?_ _)); exact HT.out⟩, ⟨by (repeat (first | (with_reducible first | exact HB.out | apply below_alloc | apply pw_below_drewN | apply below_drew1) | exact HB.out))⟩⟩
    · have d1 : decide (99 < (l1_2.length : Int)) = false := decide_eq_false b1
      by_cases b2 : a1_0 < 0
      · have HRV := Aside0.mk (show rvH a0 a1_0 (l1_2.length : Int) = false from decide_eq_false (by omega))
        have d2 : decide (a1_0 < 0) = true := decide_eq_true b2
        clear b0 b1 b2
        go_wp2_with (first | ((with_reducible refine gate_callee (f := 25) rfl ?_); refine goesL_ (some 12) rfl rfl Try.func25 (by kernel_rfl) rfl #[.int .i64 a0] rfl (by (try simp only [List.map_toArray, List.map_cons, List.map_nil]); first | done | rfl) ?_; (with_reducible refine (masterdiscref14_capable.calls a0 true _ HCA.out).mono ?_); rintro e w' ⟨rfl, ⟨nd, rfl⟩⟩; refine ⟨_, rfl, ?_⟩; obtain ⟨t0, t1, t2⟩ := rv_cells3 HT.out))
        go_meet
        case rel => exact ⟨(by first | (rw [HRV.out]; done) | (rw [HRV.out]; rfl)), ⟨by (with_reducible repeat (first | refine blk_drewN ?_ _ | refine blk_drew ?_ | refine blk_alloc ?_ _)); exact HT.out⟩, ⟨by (repeat (first | (with_reducible first | exact HB.out | apply below_alloc | apply pw_below_drewN | apply below_drew1) | exact HB.out))⟩⟩
      · have d2 : decide (a1_0 < 0) = false := decide_eq_false b2
        have HRV := Aside0.mk (show (!(rvH a0 a1_0 (l1_2.length : Int))) = decide (16 < a1_0) by
         by_cases b3 : 16 < a1_0
         · rw [decide_eq_true b3, show rvH a0 a1_0 (l1_2.length : Int) = false from decide_eq_false (by omega)]; rfl
         · rw [decide_eq_false b3, show rvH a0 a1_0 (l1_2.length : Int) = true from decide_eq_true (by omega)]; rfl)
        clear b0 b1 b2
        go_wp2_with (first | ((with_reducible refine gate_callee (f := 25) rfl ?_); refine goesL_ (some 12) rfl rfl Try.func25 (by kernel_rfl) rfl #[.int .i64 a0] rfl (by (try simp only [List.map_toArray, List.map_cons, List.map_nil]); first | done | rfl) ?_; (with_reducible refine (masterdiscref14_capable.calls a0 true _ HCA.out).mono ?_); rintro e w' ⟨rfl, ⟨nd, rfl⟩⟩; refine ⟨_, rfl, ?_⟩; obtain ⟨t0, t1, t2⟩ := rv_cells3 HT.out))
        go_meet
        case rel => exact ⟨(by first | (rw [HRV.out]; done) | (rw [HRV.out]; rfl)), ⟨by (with_reducible repeat (first | refine blk_drewN ?_ _ | refine blk_drew ?_ | refine blk_alloc ?_ _)); exact HT.out⟩, ⟨by (repeat (first | (with_reducible first | exact HB.out | apply below_alloc | apply pw_below_drewN | apply below_drew1) | exact HB.out))⟩⟩
  · have HCA := Aside0.mk (show masterdiscref14_capable.f a0 = some false by
     unfold masterdiscref14_capable.f
     by_cases b1 : a0 ≥ 1
     · rw [if_pos b1, decide_eq_false (by omega)]
     · rw [if_neg b1])
    have HRV := Aside0.mk (show rvH a0 a1_0 (l1_2.length : Int) = false from decide_eq_false (by omega))
    clear b0
    go_wp2_with (first | ((with_reducible refine gate_callee (f := 25) rfl ?_); refine goesL_ (some 12) rfl rfl Try.func25 (by kernel_rfl) rfl #[.int .i64 a0] rfl (by (try simp only [List.map_toArray, List.map_cons, List.map_nil]); first | done | rfl) ?_; (with_reducible refine (masterdiscref14_capable.calls a0 false _ HCA.out).mono ?_); rintro e w' ⟨rfl, ⟨nd, rfl⟩⟩; refine ⟨_, rfl, ?_⟩; obtain ⟨t0, t1, t2⟩ := rv_cells3 HT.out))
    go_meet
    case rel => exact ⟨(by first | (rw [HRV.out]; done) | (rw [HRV.out]; rfl)), ⟨by (with_reducible repeat (first | refine blk_drewN ?_ _ | refine blk_drew ?_ | refine blk_alloc ?_ _)); exact HT.out⟩, ⟨by (repeat (first | (with_reducible first | exact HB.out | apply below_alloc | apply pw_below_drewN | apply below_drew1) | exact HB.out))⟩⟩
 case rest =>
  try clear HT HB
  obtain ⟨rfl, HT, HB⟩ := hcut
  cases hrv : rvH a0 a1_0 (l1_2.length : Int) with
  | false =>
   have hrf : r = false := by have := H.out; rw [hrv] at this; exact this.symm
   simp only [Bool.not_false]
   go_wp2_with (fail)
   go_ret
   exact ⟨(by first | (rw [hrf]; done) | (rw [hrf]; rfl)), HB.out⟩
  | true =>
   have HV := H.out
   rw [hrv, if_pos rfl] at HV
   have HV := Aside0.mk HV
   clear H
   simp only [Bool.not_true]
   have HN := Aside0.mk (show (l1_2.length : Int) ≤ 99 ∧ 0 ≤ a1_0 ∧ a1_0 ≤ 16 from (of_decide_eq_true hrv).2.2)
   have HRR := Aside0.mk hrv
   clear hrv
   go_wp2_with (fail)
   go_loopg [5, 6, 7] l1_2.length (fun gk v5 v6 v7 wr => ∃ (i : Nat) (en se : Int), i ≤ l1_2.length ∧ l1_2.length - i ≤ gk ∧ v5 = .int .i64 en ∧ v6 = .int .i64 se ∧ v7 = .int .i64 i ∧ Aside0 (rvL a0 a1_0 a1_1 l1_2 (l1_2.length - i) i en se = r) ∧
    Aside0 (wr.heap[w.heap.size]? = some (.cells #[.int .i64 a1_0, .bool a1_1, (.slice A1_2 l1_2.length c1_2)] 24 (0, 0))) ∧ Aside0 (Below w.heap.size w wr))
   case atStart => exact ⟨0, 0, 1, Nat.zero_le _, by omega, rfl, rfl, rfl, ⟨by rw [Nat.sub_zero]; exact HV.out⟩, ⟨by (with_reducible repeat (first | refine blk_drewN ?_ _ | refine blk_drew ?_)); exact HT.out⟩, ⟨by (repeat (first | (with_reducible first | exact HB.out | apply pw_below_drewN | apply below_drew1) | exact HB.out))⟩⟩
   case round =>
    try clear HT HB HV
    obtain ⟨i, en, se, hi, hg, rfl, rfl, rfl, HV, HT, HB⟩ := hrel
    by_cases hlt : i < l1_2.length
    · have hltz : decide ((i : Int) < (l1_2.length : Int)) = true := decide_eq_true (by omega)
      have hltp : (i : Int) < (l1_2.length : Int) := by omega
      have hi0 : 0 ≤ (i : Int) := by omega
      have hi0d : decide (0 ≤ (i : Int)) = true := decide_eq_true hi0
      obtain ⟨t0, t1, t2⟩ := rv_cells3 HT.out
      obtain ⟨ad, rfl, hx0, hx1, hx2, hx3, hx4, hx5, hx6⟩ := at_T40 (Kd.C_below HR.out HB.out) (i : Int) hi0 hltp
      rw [Int.toNat_natCast] at hx0 hx1 hx2 hx3 hx4 hx5 hx6
      have hdi : l1_2.length - i = (l1_2.length - (i + 1)) + 1 := by omega
      rw [hdi] at HV
      have HDI := Aside0.mk (show i < l1_2.length ∧ l1_2.length - i ≤ gk from ⟨hlt, hg⟩)
      clear hdi hg hi hlt
      obtain ⟨x, hx⟩ : ∃ x, x = rd_T40 l1_2 (i : Int) := ⟨_, rfl⟩
      rw [← hx] at hx0 hx1 hx2 hx3 hx4 hx5 hx6
      have HX := Aside0.mk hx
      clear hx
      go_upto_region 9 with (fail)
      generalize hw1 : wr.alloc _ = w1
      obtain ⟨hx8, hb8⟩ := one_new hw1
      have HXB := Aside0.mk hx8
      have HTn := Aside0.mk (blk_below HT.out hb8)
      have HBn := Aside0.mk (below_step HB.out hb8)
      clear hw1 hx8 hb8 HT HB t0 t1 t2 hx0 hx1 hx2 hx3 hx4 hx5 hx6
      have HT := HTn
      have HB := HBn
      clear HTn HBn
      obtain ⟨st, hst⟩ : ∃ st, st = if rvT (i : Int) se x = true then wrap64 (en + 16) else en := ⟨_, rfl⟩
      obtain ⟨s2, hs2⟩ : ∃ s2, s2 = if rvT (i : Int) se x = true then wrap64 (se + 1) else se := ⟨_, rfl⟩
      have HST := Aside0.mk hst
      have HS2 := Aside0.mk hs2
      clear hst hs2
      go_cut [51] (fun v51 wc => v51 = .bool (rvT (i : Int) se x) ∧ Aside0 (wc.heap[w.heap.size]? = some (.cells #[.int .i64 a1_0, .bool a1_1, (.slice (some ad) l1_2.length c1_2)] 24 (0, 0))) ∧ Aside0 (wc.heap[wr.heap.size]? = some (.cells #[.int .i64 x.f0, .int .i64 x.f1, .int .i64 x.f2, .int .i64 x.f3, .int .i64 x.f4, .int .i64 x.f5, .int .i64 x.f6] 40 (0, 0))) ∧ Aside0 (Below w.heap.size w wc))
      case first =>
       obtain ⟨t0, t1, t2⟩ := rv_cells3 HT.out
       obtain ⟨hx0, hx1, hx2, hx3, hx4, hx5, hx6⟩ := rv_cells7 HXB.out
       by_cases p1 : 0 < (i : Int)
       · have dp10 : (decide (0 < (i : Int))) = true := by simpa using p1
         have dp11 : (decide (0 < i)) = true := by simpa using p1
         have HVAL0 : (rvT (i : Int) se x) = (x.f1 == wrap64 (se + 1)) := by
          by_cases q : x.f1 = wrap64 (se + 1)
          · rw [show rvT (i : Int) se x = true from decide_eq_true ⟨p1, q⟩, q]; simp
          · rw [show rvT (i : Int) se x = false from decide_eq_false (fun h => q h.2)]; simpa using q
         have HVAL := Aside0.mk HVAL0
         clear HVAL0 p1
         as_aux_lemma =>
          go_wp2_with (fail)
          go_meet
          case rel => exact ⟨(by first | (rw [HVAL.out]; done) | (rw [HVAL.out]; rfl)), ⟨by (with_reducible repeat (first | refine blk_drewN ?_ _ | refine blk_drew ?_)); exact HT.out⟩, ⟨by (with_reducible repeat (first | refine blk_drewN ?_ _ | refine blk_drew ?_)); exact HXB.out⟩, ⟨by (repeat (first | (with_reducible first | exact HB.out | apply pw_below_drewN | apply below_drew1) | exact HB.out))⟩⟩
       · have dp10 : (decide (0 < (i : Int))) = false := by simpa using p1
         have dp11 : (decide (0 < i)) = false := by simpa using p1
         have HVAL0 : (rvT (i : Int) se x) = false := by
          exact decide_eq_false (fun h => p1 h.1)
         have HVAL := Aside0.mk HVAL0
         clear HVAL0 p1
         as_aux_lemma =>
          go_wp2_with (fail)
          go_meet
          case rel => exact ⟨(by first | (rw [HVAL.out]; done) | (rw [HVAL.out]; rfl)), ⟨by (with_reducible repeat (first | refine blk_drewN ?_ _ | refine blk_drew ?_)); exact HT.out⟩, ⟨by (with_reducible repeat (first | refine blk_drewN ?_ _ | refine blk_drew ?_)); exact HXB.out⟩, ⟨by (repeat (first | (with_reducible first | exact HB.out | apply pw_below_drewN | apply below_drew1) | exact HB.out))⟩⟩
      case rest =>
       clear HT HXB HB
       obtain ⟨rfl, HT, HXB, HB⟩ := hcut
       go_upto_if 51 with (fail)
       go_cut [6, 9] (fun v6 v9 wc => v6 = .int .i64 s2 ∧ v9 = .int .i64 st ∧ Aside0 (wc.heap[w.heap.size]? = some (.cells #[.int .i64 a1_0, .bool a1_1, (.slice (some ad) l1_2.length c1_2)] 24 (0, 0))) ∧ Aside0 (wc.heap[wr.heap.size]? = some (.cells #[.int .i64 x.f0, .int .i64 x.f1, .int .i64 x.f2, .int .i64 x.f3, .int .i64 x.f4, .int .i64 x.f5, .int .i64 x.f6] 40 (0, 0))) ∧ Aside0 (Below w.heap.size w wc))
       case first =>
        cases hT : rvT (i : Int) se x with
        | true =>
         have HU := Aside0.mk (show s2 = wrap64 (se + 1) ∧ st = wrap64 (en + 16) from ⟨by rw [HS2.out, hT, if_pos rfl], by rw [HST.out, hT, if_pos rfl]⟩)
         clear hT
         as_aux_lemma =>
          go_wp2_with (fail)
          go_meet
          case rel => exact ⟨by rw [HU.out.1], by rw [HU.out.2], ⟨by (with_reducible repeat (first | refine blk_drewN ?_ _ | refine blk_drew ?_)); exact HT.out⟩, ⟨by (with_reducible repeat (first | refine blk_drewN ?_ _ | refine blk_drew ?_)); exact HXB.out⟩, ⟨by (repeat (first | (with_reducible first | exact HB.out | apply pw_below_drewN | apply below_drew1) | exact HB.out))⟩⟩
        | false =>
         have HU := Aside0.mk (show s2 = se ∧ st = en from ⟨by rw [HS2.out, hT]; rfl, by rw [HST.out, hT]; rfl⟩)
         clear hT
         as_aux_lemma =>
          go_wp2_with (fail)
          go_meet
          case rel => exact ⟨by rw [HU.out.1], by rw [HU.out.2], ⟨by (with_reducible repeat (first | refine blk_drewN ?_ _ | refine blk_drew ?_)); exact HT.out⟩, ⟨by (with_reducible repeat (first | refine blk_drewN ?_ _ | refine blk_drew ?_)); exact HXB.out⟩, ⟨by (repeat (first | (with_reducible first | exact HB.out | apply pw_below_drewN | apply below_drew1) | exact HB.out))⟩⟩
       case rest =>
        clear HT HXB HB
        obtain ⟨rfl, rfl, HT, HXB, HB⟩ := hcut
        go_upto_region 12 with (fail)
        go_cut [99] (fun v99 wc => v99 = .bool (!(rvA a0 a1_0 (i : Int) st s2 x)) ∧ Aside0 (wc.heap[w.heap.size]? = some (.cells #[.int .i64 a1_0, .bool a1_1, (.slice (some ad) l1_2.length c1_2)] 24 (0, 0))) ∧ Aside0 (wc.heap[wr.heap.size]? = some (.cells #[.int .i64 x.f0, .int .i64 x.f1, .int .i64 x.f2, .int .i64 x.f3, .int .i64 x.f4, .int .i64 x.f5, .int .i64 x.f6] 40 (0, 0))) ∧ Aside0 (Below w.heap.size w wc))
        case first =>
         obtain ⟨t0, t1, t2⟩ := rv_cells3 HT.out
         obtain ⟨hx0, hx1, hx2, hx3, hx4, hx5, hx6⟩ := rv_cells7 HXB.out
         by_cases q1 : x.f0 = wrap64 ((i : Int) + 1)
         · have dq10 : (x.f0 != wrap64 ((i : Int) + 1)) = false := by simpa using q1
           by_cases q2 : x.f1 = s2
           · have dq20 : (x.f1 != s2) = false := by simpa using q2
             by_cases q3 : x.f1 ≤ wrap64 (a1_0 + 1)
             · have dq30 : (decide (wrap64 (a1_0 + 1) < x.f1)) = false := by simpa using q3
               by_cases q4 : x.f1 ≤ 16
               · have dq40 : (decide (16 < x.f1)) = false := by simpa using q4
                 by_cases q5 : x.f2 = st
                 · have dq50 : (x.f2 != st) = false := by simpa using q5
                   by_cases q6 : 1 ≤ x.f3
                   · have dq60 : (decide (x.f3 < 1)) = false := by simpa using q6
                     have HVAL0 : (!(rvA a0 a1_0 (i : Int) st s2 x)) = decide (wrap64 (a0 - x.f2) < x.f3) := by
                      by_cases q : wrap64 (a0 - x.f2) < x.f3
                      · rw [decide_eq_true q, show rvA a0 a1_0 (i : Int) st s2 x = false from decide_eq_false (fun h => absurd h.2.2.2.2.2.2 (Int.not_le.mpr q))]; rfl
                      · rw [decide_eq_false q, show rvA a0 a1_0 (i : Int) st s2 x = true from decide_eq_true ⟨q1, q2, q3, q4, q5, q6, Int.not_lt.mp q⟩]; rfl
                     have HVAL := Aside0.mk HVAL0
                     clear HVAL0 q1 q2 q3 q4 q5 q6
                     as_aux_lemma =>
                      go_wp2_with (fail)
                      go_meet
                      case rel => exact ⟨(by first | (rw [HVAL.out]; done) | (rw [HVAL.out]; rfl)), ⟨by (with_reducible repeat (first | refine blk_drewN ?_ _ | refine blk_drew ?_)); exact HT.out⟩, ⟨by (with_reducible repeat (first | refine blk_drewN ?_ _ | refine blk_drew ?_)); exact HXB.out⟩, ⟨by (repeat (first | (with_reducible first | exact HB.out | apply pw_below_drewN | apply below_drew1) | exact HB.out))⟩⟩
                   · have dq60 : (decide (x.f3 < 1)) = true := by simpa using q6
                     have HVAL0 : (!(rvA a0 a1_0 (i : Int) st s2 x)) = true := by
                      rw [show rvA a0 a1_0 (i : Int) st s2 x = false from decide_eq_false (fun h => q6 h.2.2.2.2.2.1)]; rfl
                     have HVAL := Aside0.mk HVAL0
                     clear HVAL0 q1 q2 q3 q4 q5 q6
                     as_aux_lemma =>
                      go_wp2_with (fail)
                      go_meet
                      case rel => exact ⟨(by first | (rw [HVAL.out]; done) | (rw [HVAL.out]; rfl)), ⟨by (with_reducible repeat (first | refine blk_drewN ?_ _ | refine blk_drew ?_)); exact HT.out⟩, ⟨by (with_reducible repeat (first | refine blk_drewN ?_ _ | refine blk_drew ?_)); exact HXB.out⟩, ⟨by (repeat (first | (with_reducible first | exact HB.out | apply pw_below_drewN | apply below_drew1) | exact HB.out))⟩⟩
                 · have dq50 : (x.f2 != st) = true := by simpa using q5
                   have HVAL0 : (!(rvA a0 a1_0 (i : Int) st s2 x)) = true := by
                    rw [show rvA a0 a1_0 (i : Int) st s2 x = false from decide_eq_false (fun h => q5 h.2.2.2.2.1)]; rfl
                   have HVAL := Aside0.mk HVAL0
                   clear HVAL0 q1 q2 q3 q4 q5
                   as_aux_lemma =>
                    go_wp2_with (fail)
                    go_meet
                    case rel => exact ⟨(by first | (rw [HVAL.out]; done) | (rw [HVAL.out]; rfl)), ⟨by (with_reducible repeat (first | refine blk_drewN ?_ _ | refine blk_drew ?_)); exact HT.out⟩, ⟨by (with_reducible repeat (first | refine blk_drewN ?_ _ | refine blk_drew ?_)); exact HXB.out⟩, ⟨by (repeat (first | (with_reducible first | exact HB.out | apply pw_below_drewN | apply below_drew1) | exact HB.out))⟩⟩
               · have dq40 : (decide (16 < x.f1)) = true := by simpa using q4
                 have HVAL0 : (!(rvA a0 a1_0 (i : Int) st s2 x)) = true := by
                  rw [show rvA a0 a1_0 (i : Int) st s2 x = false from decide_eq_false (fun h => q4 h.2.2.2.1)]; rfl
                 have HVAL := Aside0.mk HVAL0
                 clear HVAL0 q1 q2 q3 q4
                 as_aux_lemma =>
                  go_wp2_with (fail)
                  go_meet
                  case rel => exact ⟨(by first | (rw [HVAL.out]; done) | (rw [HVAL.out]; rfl)), ⟨by (with_reducible repeat (first | refine blk_drewN ?_ _ | refine blk_drew ?_)); exact HT.out⟩, ⟨by (with_reducible repeat (first | refine blk_drewN ?_ _ | refine blk_drew ?_)); exact HXB.out⟩, ⟨by (repeat (first | (with_reducible first | exact HB.out | apply pw_below_drewN | apply below_drew1) | exact HB.out))⟩⟩
             · have dq30 : (decide (wrap64 (a1_0 + 1) < x.f1)) = true := by simpa using q3
               have HVAL0 : (!(rvA a0 a1_0 (i : Int) st s2 x)) = true := by
                rw [show rvA a0 a1_0 (i : Int) st s2 x = false from decide_eq_false (fun h => q3 h.2.2.1)]; rfl
               have HVAL := Aside0.mk HVAL0
               clear HVAL0 q1 q2 q3
               as_aux_lemma =>
                go_wp2_with (fail)
                go_meet
                case rel => exact ⟨(by first | (rw [HVAL.out]; done) | (rw [HVAL.out]; rfl)), ⟨by (with_reducible repeat (first | refine blk_drewN ?_ _ | refine blk_drew ?_)); exact HT.out⟩, ⟨by (with_reducible repeat (first | refine blk_drewN ?_ _ | refine blk_drew ?_)); exact HXB.out⟩, ⟨by (repeat (first | (with_reducible first | exact HB.out | apply pw_below_drewN | apply below_drew1) | exact HB.out))⟩⟩
           · have dq20 : (x.f1 != s2) = true := by simpa using q2
             have HVAL0 : (!(rvA a0 a1_0 (i : Int) st s2 x)) = true := by
              rw [show rvA a0 a1_0 (i : Int) st s2 x = false from decide_eq_false (fun h => q2 h.2.1)]; rfl
             have HVAL := Aside0.mk HVAL0
             clear HVAL0 q1 q2
             as_aux_lemma =>
              go_wp2_with (fail)
              go_meet
              case rel => exact ⟨(by first | (rw [HVAL.out]; done) | (rw [HVAL.out]; rfl)), ⟨by (with_reducible repeat (first | refine blk_drewN ?_ _ | refine blk_drew ?_)); exact HT.out⟩, ⟨by (with_reducible repeat (first | refine blk_drewN ?_ _ | refine blk_drew ?_)); exact HXB.out⟩, ⟨by (repeat (first | (with_reducible first | exact HB.out | apply pw_below_drewN | apply below_drew1) | exact HB.out))⟩⟩
         · have dq10 : (x.f0 != wrap64 ((i : Int) + 1)) = true := by simpa using q1
           have HVAL0 : (!(rvA a0 a1_0 (i : Int) st s2 x)) = true := by
            rw [show rvA a0 a1_0 (i : Int) st s2 x = false from decide_eq_false (fun h => q1 h.1)]; rfl
           have HVAL := Aside0.mk HVAL0
           clear HVAL0 q1
           as_aux_lemma =>
            go_wp2_with (fail)
            go_meet
            case rel => exact ⟨(by first | (rw [HVAL.out]; done) | (rw [HVAL.out]; rfl)), ⟨by (with_reducible repeat (first | refine blk_drewN ?_ _ | refine blk_drew ?_)); exact HT.out⟩, ⟨by (with_reducible repeat (first | refine blk_drewN ?_ _ | refine blk_drew ?_)); exact HXB.out⟩, ⟨by (repeat (first | (with_reducible first | exact HB.out | apply pw_below_drewN | apply below_drew1) | exact HB.out))⟩⟩
        case rest =>
         clear HT HXB HB
         obtain ⟨rfl, HT, HXB, HB⟩ := hcut
         cases hA : rvA a0 a1_0 (i : Int) st s2 x with
         | false =>
          simp only [Bool.not_false]
          have hrf : r = false := rv_stop (st := st) (s2 := s2) HV.out (by rw [← HX.out]; exact HST.out) (by rw [← HX.out]; exact HS2.out) (by rw [← HX.out]; rw [rvX, hA]; rfl)
          as_aux_lemma =>
           go_wp2_with (fail)
           go_ret
           exact ⟨(by first | (rw [hrf]; done) | (rw [hrf]; rfl)), HB.out⟩
         | true =>
          have HA := Aside0.mk hA
          clear hA
          simp only [Bool.not_true]
          go_upto_region 14 with (fail)
          go_cut [124] (fun v124 wc => v124 = .bool (!(rvB x)) ∧ Aside0 (wc.heap[w.heap.size]? = some (.cells #[.int .i64 a1_0, .bool a1_1, (.slice (some ad) l1_2.length c1_2)] 24 (0, 0))) ∧ Aside0 (wc.heap[wr.heap.size]? = some (.cells #[.int .i64 x.f0, .int .i64 x.f1, .int .i64 x.f2, .int .i64 x.f3, .int .i64 x.f4, .int .i64 x.f5, .int .i64 x.f6] 40 (0, 0))) ∧ Aside0 (Below w.heap.size w wc))
          case first =>
           obtain ⟨t0, t1, t2⟩ := rv_cells3 HT.out
           obtain ⟨hx0, hx1, hx2, hx3, hx4, hx5, hx6⟩ := rv_cells7 HXB.out
           by_cases q1 : 0 ≤ x.f6
           · have dq10 : (decide (x.f6 < 0)) = false := by simpa using q1
             by_cases q2 : x.f6 ≤ 1024
             · have dq20 : (decide (1024 < x.f6)) = false := by simpa using q2
               by_cases q3 : x.f2 ≤ x.f4
               · have dq30 : (decide (x.f4 < x.f2)) = false := by simpa using q3
                 have HVAL0 : (!(rvB x)) = decide (wrap64 (x.f2 + x.f3) < x.f4) := by
                  by_cases q : wrap64 (x.f2 + x.f3) < x.f4
                  · rw [decide_eq_true q, show rvB x = false from decide_eq_false (fun h => absurd h.2.2.2 (Int.not_le.mpr q))]; rfl
                  · rw [decide_eq_false q, show rvB x = true from decide_eq_true ⟨q1, q2, q3, Int.not_lt.mp q⟩]; rfl
                 have HVAL := Aside0.mk HVAL0
                 clear HVAL0 q1 q2 q3
                 as_aux_lemma =>
                  go_wp2_with (fail)
                  go_meet
                  case rel => exact ⟨(by first | (rw [HVAL.out]; done) | (rw [HVAL.out]; rfl)), ⟨by (with_reducible repeat (first | refine blk_drewN ?_ _ | refine blk_drew ?_)); exact HT.out⟩, ⟨by (with_reducible repeat (first | refine blk_drewN ?_ _ | refine blk_drew ?_)); exact HXB.out⟩, ⟨by (repeat (first | (with_reducible first | exact HB.out | apply pw_below_drewN | apply below_drew1) | exact HB.out))⟩⟩
               · have dq30 : (decide (x.f4 < x.f2)) = true := by simpa using q3
                 have HVAL0 : (!(rvB x)) = true := by
                  rw [show rvB x = false from decide_eq_false (fun h => q3 h.2.2.1)]; rfl
                 have HVAL := Aside0.mk HVAL0
                 clear HVAL0 q1 q2 q3
                 as_aux_lemma =>
                  go_wp2_with (fail)
                  go_meet
                  case rel => exact ⟨(by first | (rw [HVAL.out]; done) | (rw [HVAL.out]; rfl)), ⟨by (with_reducible repeat (first | refine blk_drewN ?_ _ | refine blk_drew ?_)); exact HT.out⟩, ⟨by (with_reducible repeat (first | refine blk_drewN ?_ _ | refine blk_drew ?_)); exact HXB.out⟩, ⟨by (repeat (first | (with_reducible first | exact HB.out | apply pw_below_drewN | apply below_drew1) | exact HB.out))⟩⟩
             · have dq20 : (decide (1024 < x.f6)) = true := by simpa using q2
               have HVAL0 : (!(rvB x)) = true := by
                rw [show rvB x = false from decide_eq_false (fun h => q2 h.2.1)]; rfl
               have HVAL := Aside0.mk HVAL0
               clear HVAL0 q1 q2
               as_aux_lemma =>
                go_wp2_with (fail)
                go_meet
                case rel => exact ⟨(by first | (rw [HVAL.out]; done) | (rw [HVAL.out]; rfl)), ⟨by (with_reducible repeat (first | refine blk_drewN ?_ _ | refine blk_drew ?_)); exact HT.out⟩, ⟨by (with_reducible repeat (first | refine blk_drewN ?_ _ | refine blk_drew ?_)); exact HXB.out⟩, ⟨by (repeat (first | (with_reducible first | exact HB.out | apply pw_below_drewN | apply below_drew1) | exact HB.out))⟩⟩
           · have dq10 : (decide (x.f6 < 0)) = true := by simpa using q1
             have HVAL0 : (!(rvB x)) = true := by
              rw [show rvB x = false from decide_eq_false (fun h => q1 h.1)]; rfl
             have HVAL := Aside0.mk HVAL0
             clear HVAL0 q1
             as_aux_lemma =>
              go_wp2_with (fail)
              go_meet
              case rel => exact ⟨(by first | (rw [HVAL.out]; done) | (rw [HVAL.out]; rfl)), ⟨by (with_reducible repeat (first | refine blk_drewN ?_ _ | refine blk_drew ?_)); exact HT.out⟩, ⟨by (with_reducible repeat (first | refine blk_drewN ?_ _ | refine blk_drew ?_)); exact HXB.out⟩, ⟨by (repeat (first | (with_reducible first | exact HB.out | apply pw_below_drewN | apply below_drew1) | exact HB.out))⟩⟩
          case rest =>
           clear HT HXB HB
           obtain ⟨rfl, HT, HXB, HB⟩ := hcut
           cases hA : rvB x with
           | false =>
            simp only [Bool.not_false]
            have hrf : r = false := rv_stop (st := st) (s2 := s2) HV.out (by rw [← HX.out]; exact HST.out) (by rw [← HX.out]; exact HS2.out) (by rw [← HX.out]; rw [rvX, HA.out, hA]; rfl)
            as_aux_lemma =>
             go_wp2_with (fail)
             go_ret
             exact ⟨(by first | (rw [hrf]; done) | (rw [hrf]; rfl)), HB.out⟩
           | true =>
            have HBB := Aside0.mk hA
            clear hA
            simp only [Bool.not_true]
            go_upto_region 16 with (fail)
            go_cut [146] (fun v146 wc => v146 = .bool (!(rvC x)) ∧ Aside0 (wc.heap[w.heap.size]? = some (.cells #[.int .i64 a1_0, .bool a1_1, (.slice (some ad) l1_2.length c1_2)] 24 (0, 0))) ∧ Aside0 (wc.heap[wr.heap.size]? = some (.cells #[.int .i64 x.f0, .int .i64 x.f1, .int .i64 x.f2, .int .i64 x.f3, .int .i64 x.f4, .int .i64 x.f5, .int .i64 x.f6] 40 (0, 0))) ∧ Aside0 (Below w.heap.size w wc))
            case first =>
             obtain ⟨t0, t1, t2⟩ := rv_cells3 HT.out
             obtain ⟨hx0, hx1, hx2, hx3, hx4, hx5, hx6⟩ := rv_cells7 HXB.out
             by_cases q1 : 0 < x.f6
             · have dq10 : (decide (0 < x.f6)) = true := by simpa using q1
               have z6 : ¬ x.f6 = 0 := by omega
               have z6b : (x.f6 == 0) = false := beq_eq_false_iff_ne.mpr z6
               have z6c : (x.f6 != 0) = true := bne_iff_ne.mpr z6
               by_cases q2 : Int.tmod x.f3 x.f6 = 0
               · have dq20 : (Int.tmod x.f3 x.f6 != 0) = false := by simpa using q2
                 have HVAL0 : (!(rvC x)) = (Int.tmod (wrap64 (x.f4 - x.f2)) x.f6 != 0) := by
                  by_cases q : Int.tmod (wrap64 (x.f4 - x.f2)) x.f6 = 0
                  · rw [show rvC x = true from decide_eq_true (fun _ => ⟨q2, q⟩), q]; rfl
                  · rw [show rvC x = false from decide_eq_false (fun h => q (h q1).2)]; simpa using q
                 have HVAL := Aside0.mk HVAL0
                 clear HVAL0 q1 q2
                 as_aux_lemma =>
                  go_wp2_with (fail)
                  go_meet
                  case rel => exact ⟨(by first | (rw [HVAL.out]; done) | (rw [HVAL.out]; rfl)), ⟨by (with_reducible repeat (first | refine blk_drewN ?_ _ | refine blk_drew ?_)); exact HT.out⟩, ⟨by (with_reducible repeat (first | refine blk_drewN ?_ _ | refine blk_drew ?_)); exact HXB.out⟩, ⟨by (repeat (first | (with_reducible first | exact HB.out | apply pw_below_drewN | apply below_drew1) | exact HB.out))⟩⟩
               · have dq20 : (Int.tmod x.f3 x.f6 != 0) = true := by simpa using q2
                 have HVAL0 : (!(rvC x)) = true := by
                  rw [show rvC x = false from decide_eq_false (fun h => q2 (h q1).1)]; rfl
                 have HVAL := Aside0.mk HVAL0
                 clear HVAL0 q1 q2
                 as_aux_lemma =>
                  go_wp2_with (fail)
                  go_meet
                  case rel => exact ⟨(by first | (rw [HVAL.out]; done) | (rw [HVAL.out]; rfl)), ⟨by (with_reducible repeat (first | refine blk_drewN ?_ _ | refine blk_drew ?_)); exact HT.out⟩, ⟨by (with_reducible repeat (first | refine blk_drewN ?_ _ | refine blk_drew ?_)); exact HXB.out⟩, ⟨by (repeat (first | (with_reducible first | exact HB.out | apply pw_below_drewN | apply below_drew1) | exact HB.out))⟩⟩
             · have dq10 : (decide (0 < x.f6)) = false := by simpa using q1
               have HVAL0 : (!(rvC x)) = false := by
                rw [show rvC x = true from decide_eq_true (fun h => absurd h q1)]; rfl
               have HVAL := Aside0.mk HVAL0
               clear HVAL0 q1
               as_aux_lemma =>
                go_wp2_with (fail)
                go_meet
                case rel => exact ⟨(by first | (rw [HVAL.out]; done) | (rw [HVAL.out]; rfl)), ⟨by (with_reducible repeat (first | refine blk_drewN ?_ _ | refine blk_drew ?_)); exact HT.out⟩, ⟨by (with_reducible repeat (first | refine blk_drewN ?_ _ | refine blk_drew ?_)); exact HXB.out⟩, ⟨by (repeat (first | (with_reducible first | exact HB.out | apply pw_below_drewN | apply below_drew1) | exact HB.out))⟩⟩
            case rest =>
             clear HT HXB HB
             obtain ⟨rfl, HT, HXB, HB⟩ := hcut
             cases hA : rvC x with
             | false =>
              simp only [Bool.not_false]
              have hrf : r = false := rv_stop (st := st) (s2 := s2) HV.out (by rw [← HX.out]; exact HST.out) (by rw [← HX.out]; exact HS2.out) (by rw [← HX.out]; rw [rvX, HA.out, HBB.out, hA]; rfl)
              as_aux_lemma =>
               go_wp2_with (fail)
               go_ret
               exact ⟨(by first | (rw [hrf]; done) | (rw [hrf]; rfl)), HB.out⟩
             | true =>
              have HCC := Aside0.mk hA
              clear hA
              simp only [Bool.not_true]
              obtain ⟨t0, t1, t2⟩ := rv_cells3 HT.out
              obtain ⟨hx0, hx1, hx2, hx3, hx4, hx5, hx6⟩ := rv_cells7 HXB.out
              go_upto_block 2 with (fail)
              clear t0 t1 t2 hx0 hx1 hx2 hx3 hx4 hx5 hx6
              go_cut [] (fun wc => Aside0 (rvD x = true) ∧ Aside0 (wc.heap[w.heap.size]? = some (.cells #[.int .i64 a1_0, .bool a1_1, (.slice (some ad) l1_2.length c1_2)] 24 (0, 0))) ∧ Aside0 (wc.heap[wr.heap.size]? = some (.cells #[.int .i64 x.f0, .int .i64 x.f1, .int .i64 x.f2, .int .i64 x.f3, .int .i64 x.f4, .int .i64 x.f5, .int .i64 x.f6] 40 (0, 0))) ∧ Aside0 (Below w.heap.size w wc))
              case first =>
               obtain ⟨t0, t1, t2⟩ := rv_cells3 HT.out
               obtain ⟨hx0, hx1, hx2, hx3, hx4, hx5, hx6⟩ := rv_cells7 HXB.out
               by_cases s1 : x.f5 = 2
               · have e1 : (x.f5 == 2) = true := by simpa using s1
                 by_cases s2x : x.f4 = wrap64 (x.f2 + x.f3)
                 · have e2 : (x.f4 != wrap64 (x.f2 + x.f3)) = false := by simpa using s2x
                   have HVAL0 : rvD x = true := decide_eq_true (Or.inl ⟨s1, s2x⟩)
                   have HVAL := Aside0.mk HVAL0
                   clear HVAL0 s1 s2x
                   as_aux_lemma =>
                    go_wp2_with (fail)
                    go_meet
                    case rel => exact ⟨HVAL, ⟨by (with_reducible repeat (first | refine blk_drewN ?_ _ | refine blk_drew ?_)); exact HT.out⟩, ⟨by (with_reducible repeat (first | refine blk_drewN ?_ _ | refine blk_drew ?_)); exact HXB.out⟩, ⟨by (repeat (first | (with_reducible first | exact HB.out | apply pw_below_drewN | apply below_drew1) | exact HB.out))⟩⟩
                 · have e2 : (x.f4 != wrap64 (x.f2 + x.f3)) = true := by simpa using s2x
                   have hD : rvD x = false := by
                    refine decide_eq_false ?_
                    rintro (⟨-, h⟩ | ⟨h, -⟩ | ⟨h, -⟩)
                    · exact s2x h
                    · omega
                    · omega
                   clear s1 s2x
                   have hrf : r = false := rv_stop (st := st) (s2 := s2) HV.out (by rw [← HX.out]; exact HST.out) (by rw [← HX.out]; exact HS2.out) (by rw [← HX.out]; rw [rvX, HA.out, HBB.out, HCC.out, hD]; rfl)
                   as_aux_lemma =>
                    go_wp2_with (fail)
                    go_ret
                    exact ⟨(by first | (rw [hrf]; done) | (rw [hrf]; rfl)), HB.out⟩
               · have e1 : (x.f5 == 2) = false := by simpa using s1
                 by_cases s3 : x.f5 = 0
                 · have e3 : (x.f5 == 0) = true := by simpa using s3
                   by_cases s2x : x.f4 = x.f2
                   · have e2 : (x.f4 != x.f2) = false := by simpa using s2x
                     have HVAL0 : rvD x = true := decide_eq_true (Or.inr (Or.inl ⟨s3, s2x⟩))
                     have HVAL := Aside0.mk HVAL0
                     clear HVAL0 s1 s2x s3
                     as_aux_lemma =>
                      go_wp2_with (fail)
                      go_meet
                      case rel => exact ⟨HVAL, ⟨by (with_reducible repeat (first | refine blk_drewN ?_ _ | refine blk_drew ?_)); exact HT.out⟩, ⟨by (with_reducible repeat (first | refine blk_drewN ?_ _ | refine blk_drew ?_)); exact HXB.out⟩, ⟨by (repeat (first | (with_reducible first | exact HB.out | apply pw_below_drewN | apply below_drew1) | exact HB.out))⟩⟩
                   · have e2 : (x.f4 != x.f2) = true := by simpa using s2x
                     have hD : rvD x = false := by
                      refine decide_eq_false ?_
                      rintro (⟨h, -⟩ | ⟨-, h⟩ | ⟨h, -⟩)
                      · exact s1 h
                      · exact s2x h
                      · omega
                     clear s1 s2x s3
                     have hrf : r = false := rv_stop (st := st) (s2 := s2) HV.out (by rw [← HX.out]; exact HST.out) (by rw [← HX.out]; exact HS2.out) (by rw [← HX.out]; rw [rvX, HA.out, HBB.out, HCC.out, hD]; rfl)
                     as_aux_lemma =>
                      go_wp2_with (fail)
                      go_ret
                      exact ⟨(by first | (rw [hrf]; done) | (rw [hrf]; rfl)), HB.out⟩
                 · have e3 : (x.f5 == 0) = false := by simpa using s3
                   by_cases s4 : x.f5 = 1
                   · have e4 : (x.f5 == 1) = true := by simpa using s4
                     by_cases s2x : x.f4 = x.f2
                     · have e2 : (x.f4 == x.f2) = true := by simpa using s2x
                       have hD : rvD x = false := by
                        refine decide_eq_false ?_
                        rintro (⟨h, -⟩ | ⟨h, -⟩ | ⟨-, h⟩)
                        · exact s1 h
                        · exact s3 h
                        · exact h s2x
                       clear s1 s2x s3 s4
                       have hrf : r = false := rv_stop (st := st) (s2 := s2) HV.out (by rw [← HX.out]; exact HST.out) (by rw [← HX.out]; exact HS2.out) (by rw [← HX.out]; rw [rvX, HA.out, HBB.out, HCC.out, hD]; rfl)
                       as_aux_lemma =>
                        go_wp2_with (fail)
                        go_ret
                        exact ⟨(by first | (rw [hrf]; done) | (rw [hrf]; rfl)), HB.out⟩
                     · have e2 : (x.f4 == x.f2) = false := by simpa using s2x
                       have HVAL0 : rvD x = true := decide_eq_true (Or.inr (Or.inr ⟨s4, s2x⟩))
                       have HVAL := Aside0.mk HVAL0
                       clear HVAL0 s1 s2x s3 s4
                       as_aux_lemma =>
                        go_wp2_with (fail)
                        go_meet
                        case rel => exact ⟨HVAL, ⟨by (with_reducible repeat (first | refine blk_drewN ?_ _ | refine blk_drew ?_)); exact HT.out⟩, ⟨by (with_reducible repeat (first | refine blk_drewN ?_ _ | refine blk_drew ?_)); exact HXB.out⟩, ⟨by (repeat (first | (with_reducible first | exact HB.out | apply pw_below_drewN | apply below_drew1) | exact HB.out))⟩⟩
                   · have e4 : (x.f5 == 1) = false := by simpa using s4
                     have hD : rvD x = false := by
                      refine decide_eq_false ?_
                      rintro (⟨h, -⟩ | ⟨h, -⟩ | ⟨h, -⟩)
                      · exact s1 h
                      · exact s3 h
                      · exact s4 h
                     clear s1 s3 s4
                     have hrf : r = false := rv_stop (st := st) (s2 := s2) HV.out (by rw [← HX.out]; exact HST.out) (by rw [← HX.out]; exact HS2.out) (by rw [← HX.out]; rw [rvX, HA.out, HBB.out, HCC.out, hD]; rfl)
                     as_aux_lemma =>
                      go_wp2_with (fail)
                      go_ret
                      exact ⟨(by first | (rw [hrf]; done) | (rw [hrf]; rfl)), HB.out⟩
              case rest =>
               clear HT HXB HB
               obtain ⟨HDD, HT, HXB, HB⟩ := hcut
               go_upto_region 29 with (fail)
               go_cut [182] (fun v182 wc => v182 = .bool (!(rvE a1_0 x)) ∧ Aside0 (wc.heap[w.heap.size]? = some (.cells #[.int .i64 a1_0, .bool a1_1, (.slice (some ad) l1_2.length c1_2)] 24 (0, 0))) ∧ Aside0 (wc.heap[wr.heap.size]? = some (.cells #[.int .i64 x.f0, .int .i64 x.f1, .int .i64 x.f2, .int .i64 x.f3, .int .i64 x.f4, .int .i64 x.f5, .int .i64 x.f6] 40 (0, 0))) ∧ Aside0 (Below w.heap.size w wc))
               case first =>
                obtain ⟨t0, t1, t2⟩ := rv_cells3 HT.out
                obtain ⟨hx0, hx1, hx2, hx3, hx4, hx5, hx6⟩ := rv_cells7 HXB.out
                by_cases q1 : x.f1 ≤ a1_0
                · have dq10 : (decide (x.f1 ≤ a1_0)) = true := by simpa using q1
                  have HVAL0 : (!(rvE a1_0 x)) = (x.f5 != 2) := by
                   by_cases q : x.f5 = 2
                   · rw [show rvE a1_0 x = true from decide_eq_true (fun _ => q), q]; rfl
                   · rw [show rvE a1_0 x = false from decide_eq_false (fun h => q (h q1))]; simpa using q
                  have HVAL := Aside0.mk HVAL0
                  clear HVAL0 q1
                  as_aux_lemma =>
                   go_wp2_with (fail)
                   go_meet
                   case rel => exact ⟨(by first | (rw [HVAL.out]; done) | (rw [HVAL.out]; rfl)), ⟨by (with_reducible repeat (first | refine blk_drewN ?_ _ | refine blk_drew ?_)); exact HT.out⟩, ⟨by (with_reducible repeat (first | refine blk_drewN ?_ _ | refine blk_drew ?_)); exact HXB.out⟩, ⟨by (repeat (first | (with_reducible first | exact HB.out | apply pw_below_drewN | apply below_drew1) | exact HB.out))⟩⟩
                · have dq10 : (decide (x.f1 ≤ a1_0)) = false := by simpa using q1
                  have HVAL0 : (!(rvE a1_0 x)) = false := by
                   rw [show rvE a1_0 x = true from decide_eq_true (fun h => absurd h q1)]; rfl
                  have HVAL := Aside0.mk HVAL0
                  clear HVAL0 q1
                  as_aux_lemma =>
                   go_wp2_with (fail)
                   go_meet
                   case rel => exact ⟨(by first | (rw [HVAL.out]; done) | (rw [HVAL.out]; rfl)), ⟨by (with_reducible repeat (first | refine blk_drewN ?_ _ | refine blk_drew ?_)); exact HT.out⟩, ⟨by (with_reducible repeat (first | refine blk_drewN ?_ _ | refine blk_drew ?_)); exact HXB.out⟩, ⟨by (repeat (first | (with_reducible first | exact HB.out | apply pw_below_drewN | apply below_drew1) | exact HB.out))⟩⟩
               case rest =>
                clear HT HXB HB
                obtain ⟨rfl, HT, HXB, HB⟩ := hcut
                cases hA : rvE a1_0 x with
                | false =>
                 simp only [Bool.not_false]
                 have hrf : r = false := rv_stop (st := st) (s2 := s2) HV.out (by rw [← HX.out]; exact HST.out) (by rw [← HX.out]; exact HS2.out) (by rw [← HX.out]; rw [rvX, HA.out, HBB.out, HCC.out, HDD.out, hA]; rfl)
                 as_aux_lemma =>
                  go_wp2_with (fail)
                  go_ret
                  exact ⟨(by first | (rw [hrf]; done) | (rw [hrf]; rfl)), HB.out⟩
                | true =>
                 have HVN := Aside0.mk (rv_go (st := st) (s2 := s2) HV.out (by rw [← HX.out]; exact HST.out) (by rw [← HX.out]; exact HS2.out) (by rw [← HX.out, rvX, HA.out, HBB.out, HCC.out, HDD.out, hA]; rfl))
                 clear hA
                 simp only [Bool.not_true]
                 obtain ⟨t0, t1, t2⟩ := rv_cells3 HT.out
                 obtain ⟨hx0, hx1, hx2, hx3, hx4, hx5, hx6⟩ := rv_cells7 HXB.out
                 go_wp2_with (fail)
                 go_roundg (l1_2.length - (i + 1))
                 case measure => have := HDI.out; omega
                 case rel => exact ⟨i + 1, _, _, by have := HDI.out; omega, by have := HDI.out; omega, rfl, rfl, (by have h1 := HN.out.1; have h2 := HDI.out.1; rw [show wrap64 ((i : Int) + 1) = ((i + 1 : Nat) : Int) by unfold wrap64; omega]), ⟨by rw [HX.out]; exact HVN.out⟩, ⟨by (with_reducible repeat (first | refine blk_drewN ?_ _ | refine blk_drew ?_)); exact HT.out⟩, ⟨by (repeat (first | (with_reducible first | exact HB.out | apply pw_below_drewN | apply below_drew1) | exact HB.out))⟩⟩
    · have hin : i = l1_2.length := by omega
      have hltz : decide ((i : Int) < (l1_2.length : Int)) = false := decide_eq_false (by omega)
      have HE := HV.out
      rw [hin, Nat.sub_self, rvL] at HE
      have HEE := Aside0.mk HE
      clear HE hin hi hg
      obtain ⟨t0, t1, t2⟩ := rv_cells3 HT.out
      by_cases y9 : (l1_2.length : Int) > 0
      · have e9 : decide (0 < (l1_2.length : Int)) = true := decide_eq_true y9
        have e9n : decide (0 < l1_2.length) = true := decide_eq_true (by omega)
        have y0 : (if 0 < (l1_2.length : Int) then se else 0) = se := if_pos y9
        by_cases y1 : a1_0 ≤ se
        · have e1 : decide (a1_0 ≤ se) = true := decide_eq_true y1
          cases a1_1 with
          | false =>
           have HVAL0 : rvEnd a1_0 false (l1_2.length : Int) se = true := by
            exact decide_eq_true ⟨by rw [y0]; exact y1, fun h => by cases h⟩
           have HVAL := Aside0.mk HVAL0
           clear HVAL0 y9 y0 y1
           as_aux_lemma =>
            go_wp2_with (fail)
            go_ret
            exact ⟨(by first | (rw [← HEE.out, HVAL.out]; done) | (rw [← HEE.out, HVAL.out]; rfl)), HB.out⟩
          | true =>
           by_cases y2 : 1 ≤ a1_0
           · have e2 : decide (1 ≤ a1_0) = true := decide_eq_true y2
             have HVAL0 : rvEnd a1_0 true (l1_2.length : Int) se = (se == a1_0) := by
              by_cases q : se = a1_0
              · rw [show rvEnd a1_0 true (l1_2.length : Int) se = true from decide_eq_true ⟨by rw [y0]; exact y1, fun _ => ⟨y2, by rw [y0]; exact q⟩⟩]; simpa using q
              · rw [show rvEnd a1_0 true (l1_2.length : Int) se = false from decide_eq_false (fun h => q (by have := (h.2 rfl).2; rw [y0] at this; exact this))]; simpa using q
             have HVAL := Aside0.mk HVAL0
             clear HVAL0 y9 y0 y1 y2
             as_aux_lemma =>
              go_wp2_with (fail)
              go_ret
              exact ⟨(by first | (rw [← HEE.out, HVAL.out]; done) | (rw [← HEE.out, HVAL.out]; rfl)), HB.out⟩
           · have e2 : decide (1 ≤ a1_0) = false := decide_eq_false y2
             have HVAL0 : rvEnd a1_0 true (l1_2.length : Int) se = false := by
              exact decide_eq_false (fun h => y2 (h.2 rfl).1)
             have HVAL := Aside0.mk HVAL0
             clear HVAL0 y9 y0 y1 y2
             as_aux_lemma =>
              go_wp2_with (fail)
              go_ret
              exact ⟨(by first | (rw [← HEE.out, HVAL.out]; done) | (rw [← HEE.out, HVAL.out]; rfl)), HB.out⟩
        · have e1 : decide (a1_0 ≤ se) = false := decide_eq_false y1
          have HVAL0 : rvEnd a1_0 a1_1 (l1_2.length : Int) se = false := by
           exact decide_eq_false (fun h => y1 (by have := h.1; rw [y0] at this; exact this))
          have HVAL := Aside0.mk HVAL0
          clear HVAL0 y9 y0 y1
          as_aux_lemma =>
           go_wp2_with (fail)
           go_ret
           exact ⟨(by first | (rw [← HEE.out, HVAL.out]; done) | (rw [← HEE.out, HVAL.out]; rfl)), HB.out⟩
      · have e9 : decide (0 < (l1_2.length : Int)) = false := decide_eq_false y9
        have e9n : decide (0 < l1_2.length) = false := decide_eq_false (by omega)
        have y0 : (if 0 < (l1_2.length : Int) then se else 0) = 0 := if_neg y9
        by_cases y1 : a1_0 ≤ 0
        · have e1 : decide (a1_0 ≤ 0) = true := decide_eq_true y1
          cases a1_1 with
          | false =>
           have HVAL0 : rvEnd a1_0 false (l1_2.length : Int) se = true := by
            exact decide_eq_true ⟨by rw [y0]; exact y1, fun h => by cases h⟩
           have HVAL := Aside0.mk HVAL0
           clear HVAL0 y9 y0 y1
           as_aux_lemma =>
            go_wp2_with (fail)
            go_ret
            exact ⟨(by first | (rw [← HEE.out, HVAL.out]; done) | (rw [← HEE.out, HVAL.out]; rfl)), HB.out⟩
          | true =>
           by_cases y2 : 1 ≤ a1_0
           · have e2 : decide (1 ≤ a1_0) = true := decide_eq_true y2
             have HVAL0 : rvEnd a1_0 true (l1_2.length : Int) se = (0 == a1_0) := by
              by_cases q : 0 = a1_0
              · rw [show rvEnd a1_0 true (l1_2.length : Int) se = true from decide_eq_true ⟨by rw [y0]; exact y1, fun _ => ⟨y2, by rw [y0]; exact q⟩⟩]; simpa using q
              · rw [show rvEnd a1_0 true (l1_2.length : Int) se = false from decide_eq_false (fun h => q (by have := (h.2 rfl).2; rw [y0] at this; exact this))]; simpa using q
             have HVAL := Aside0.mk HVAL0
             clear HVAL0 y9 y0 y1 y2
             as_aux_lemma =>
              go_wp2_with (fail)
              go_ret
              exact ⟨(by first | (rw [← HEE.out, HVAL.out]; done) | (rw [← HEE.out, HVAL.out]; rfl)), HB.out⟩
           · have e2 : decide (1 ≤ a1_0) = false := decide_eq_false y2
             have HVAL0 : rvEnd a1_0 true (l1_2.length : Int) se = false := by
              exact decide_eq_false (fun h => y2 (h.2 rfl).1)
             have HVAL := Aside0.mk HVAL0
             clear HVAL0 y9 y0 y1 y2
             as_aux_lemma =>
              go_wp2_with (fail)
              go_ret
              exact ⟨(by first | (rw [← HEE.out, HVAL.out]; done) | (rw [← HEE.out, HVAL.out]; rfl)), HB.out⟩
        · have e1 : decide (a1_0 ≤ 0) = false := decide_eq_false y1
          have HVAL0 : rvEnd a1_0 a1_1 (l1_2.length : Int) se = false := by
           exact decide_eq_false (fun h => y1 (by have := h.1; rw [y0] at this; exact this))
          have HVAL := Aside0.mk HVAL0
          clear HVAL0 y9 y0 y1
          as_aux_lemma =>
           go_wp2_with (fail)
           go_ret
           exact ⟨(by first | (rw [← HEE.out, HVAL.out]; done) | (rw [← HEE.out, HVAL.out]; rfl)), HB.out⟩
end Go.Proofs.Ytjhepdcdhabcjaa.G
