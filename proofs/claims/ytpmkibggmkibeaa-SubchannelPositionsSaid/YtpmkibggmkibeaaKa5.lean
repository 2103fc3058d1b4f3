/- Texts of one claim, merged by a program of this session; what is proved stands in the last of them. -/
import Derived.Laws.CopyOwn
import Derived.Outline
import Derived.StillTailTactics
import Derived.Test.YtpmkibggmkibeaaKa1
import Derived.Test.YtpmkibggmkibeaaKa3
import Derived.Test.YtpmkibggmkibeaaKa4
namespace Go.Proofs.Ytpmkibggmkibeaa.G
open Go.RowKit Go.Proofs.YtpmkibggmkibeaaW.PrintWords Go.Proofs.YtpmkibggmkibeaaW.PrintLast Go.Proofs.YtpmkibggmkibeaaW.PrintMore
set_option linter.unusedVariables false
theorem builder_below {T B b : Nat} {p : Value} {bs : List Value} {w w' : World} (h : Lib.BuilderAtF T 5 B b p bs w) (hb : Below w.heap.size w w') : Lib.BuilderAtF T 5 B b p bs w' := by
 have hlt := h.lt
 obtain ⟨h1, v, h2, h3, h4⟩ := h
 refine ⟨h1, v, (hb.block b hlt).trans h2, h3.kept (grown_of_below hb none) ?_, h4⟩
 cases v.ownBlock <;> simp
theorem builder_isBelow {T B b : Nat} {bs : List Value} {w w' : World} (h : Lib.IsBuilderF T 5 B b bs w) (hb : Below w.heap.size w w') : Lib.IsBuilderF T 5 B b bs w' :=
 h.elim (fun x => .inl (builder_below x hb)) (fun x => .inr (builder_below x hb))
theorem below_ge_ {T B b : Nat} {bs : List Value} {w : World} (h : Lib.IsBuilderF T 5 B b bs w) : B ≤ w.heap.size :=
 h.elim (fun x => Nat.le_of_lt (Nat.lt_of_le_of_lt x.1 x.lt)) (fun x => Nat.le_of_lt (Nat.lt_of_le_of_lt x.1 x.lt))
theorem below_trans_ {w w1 w2 : World} (h : Below w.heap.size w w1) (h2 : Below (w.heap.size + 1) w1 w2) : Below w.heap.size w w2 := Below.trans h (h2.mono (by omega))
def accK (r0 r1 r2 : ByteArray) : Nat → List UInt8
 | 0 => []
 | 1 => r0.data.toList
 | 2 => r0.data.toList ++ r1.data.toList
 | _ => r0.data.toList ++ r1.data.toList ++ r2.data.toList
theorem byteCells_app (a b : List UInt8) : Lib.byteCells (a ++ b) = Lib.byteCells a ++ Lib.byteCells b := by simp [Lib.byteCells]
theorem byteCells_str (s : ByteArray) : Lib.strCells s = Lib.byteCells s.data.toList := rfl
theorem len_byteCells (a : List UInt8) : (Lib.byteCells a).length = a.length := by simp [Lib.byteCells]
theorem acc_s0 (r0 r1 r2 : ByteArray) : Lib.byteCells (accK r0 r1 r2 0) ++ Lib.strCells r0 = Lib.byteCells (accK r0 r1 r2 1) := by rw [byteCells_str, ← byteCells_app]; rfl
theorem acc_s1 (r0 r1 r2 : ByteArray) : Lib.byteCells (accK r0 r1 r2 1) ++ Lib.strCells r1 = Lib.byteCells (accK r0 r1 r2 2) := by rw [byteCells_str, ← byteCells_app]; rfl
theorem acc_s2 (r0 r1 r2 : ByteArray) : Lib.byteCells (accK r0 r1 r2 2) ++ Lib.strCells r2 = Lib.byteCells (accK r0 r1 r2 3) := by rw [byteCells_str, ← byteCells_app]; rfl
theorem acc_len (r0 r1 r2 : ByteArray) (k : Nat) (z0 : r0.size ≤ 8) (z1 : r1.size ≤ 8) (z2 : r2.size ≤ 8) : (Lib.byteCells (accK r0 r1 r2 k)).length ≤ 24 := by
 rw [len_byteCells]
 have e0 : r0.data.toList.length = r0.size := Array.length_toList
 have e1 : r1.data.toList.length = r1.size := Array.length_toList
 have e2 : r2.data.toList.length = r2.size := Array.length_toList
 rcases k with _ | _ | _ | k <;> simp only [accK, List.length_append, List.length_nil] <;> omega
set_option maxHeartbeats 400000 in
set_option maxRecDepth 100000 in
theorem address_write.enc (m s f : Int) (r0 r1 r2 : ByteArray) (w : World) (h0 : address_Encode_1.f m = some r0) (h1 : address_Encode_1.f s = some r1) (h2 : address_Encode_1.f f = some r2) (z0 : r0.size ≤ 8) (z1 : r1.size ≤ 8) (z2 : r2.size ≤ 8) :
 Calls Try.prog 57 #[.agg #[.int .i64 m, .int .i64 s, .int .i64 f], .func (.func 58) #[] #[]] w fun e w' => e = .returned (.string ⟨(accK r0 r1 r2 3).toArray⟩) ∧ Below w.heap.size w w' := by
 have hu := Try.underlying25
 have hix0 : ∀ w, (Instr.index 75 (.agg #[.int .i64 m, .int .i64 s, .int .i64 f]) (.int .i64 0)).run Try.prog w = .ok (.int .i64 m) w := fun _ => rfl
 have hix1 : ∀ w, (Instr.index 75 (.agg #[.int .i64 m, .int .i64 s, .int .i64 f]) (.int .i64 1)).run Try.prog w = .ok (.int .i64 s) w := fun _ => rfl
 have hix2 : ∀ w, (Instr.index 75 (.agg #[.int .i64 m, .int .i64 s, .int .i64 f]) (.int .i64 2)).run Try.prog w = .ok (.int .i64 f) w := fun _ => rfl
 have HE0 := fun W => Aside0.mk (address_Encode_1.calls m r0 W h0)
 have HE1 := fun W => Aside0.mk (address_Encode_1.calls s r1 W h1)
 have HE2 := fun W => Aside0.mk (address_Encode_1.calls f r2 W h2)
 have HZ := Aside0.mk (And.intro z0 (And.intro z1 z2))
 clear h0 h1 h2 z0 z1 z2
 go_enter Try.func57, Try.ntmps57
 go_wp2_with (fail)
 generalize hw0 : (w.alloc _).alloc _ = w0
 have hI0 : Lib.IsBuilderF 92 5 (w.heap.size + 1) (w.heap.size + 1) (Lib.byteCells (accK r0 r1 r2 0)) w0 := by
  have hs : (w.alloc (.cells #[.int .i64 m, .int .i64 s, .int .i64 f] 25 (0, 0))).heap.size = w.heap.size + 1 := by simp
  have := Lib.IsBuilderF.of (Lib.fresh_isBuilder 92 5 (w.alloc (.cells #[.int .i64 m, .int .i64 s, .int .i64 f] 25 (0, 0))))
  rw [hs] at this
  exact hw0 ▸ this
 obtain ⟨hb0, hb1, hB⟩ := two_new hw0
 have HBB := Aside0.mk hB
 have HII := Aside0.mk hI0
 clear hb0 hb1 hB hI0 hw0
 refine (address_split.calls m s f w0).mono ?_
 rintro e w1 ⟨rfl, hb1⟩
 have HI1 := Aside0.mk (builder_isBelow HII.out hb1)
 have HB1 := Aside0.mk (below_step HBB.out hb1)
 clear hb1
 go_wp2_with (fail)
 go_loopg [10] 3 (fun gk v10 wr => ∃ k : Nat, k ≤ 3 ∧ 3 - k ≤ gk ∧ v10 = .int .i64 k ∧ Aside0 (Lib.IsBuilderF 92 5 (w.heap.size + 1) (w.heap.size + 1) (Lib.byteCells (accK r0 r1 r2 k)) wr) ∧ Aside0 (Below w.heap.size w wr))
 case atStart => exact ⟨0, by omega, by omega, rfl, HI1, HB1⟩
 case round =>
  obtain ⟨k, hk, hg, rfl, HI, HB⟩ := hrel
  obtain ⟨wo, rfl⟩ : ∃ wo, wo = wr := ⟨_, rfl⟩
  rcases (by omega : k = 0 ∨ k = 1 ∨ k = 2 ∨ k = 3) with rfl | rfl | rfl | rfl
  · rw [show ((0 : Nat) : Int) = (0 : Int) from rfl]
    clear hk
    go_wp2_with (fail)
    refine (HE0 wo).out.mono ?_
    rintro e w2 ⟨rfl, hb2⟩
    have HI2 := Aside0.mk (builder_isBelow HI.out hb2)
    have HB2 := Aside0.mk (below_step HB.out hb2)
    clear hb2
    go_wp2_with (fail)
    refine (builder_write (w.heap.size + 1) (w.heap.size + 1) _ r0 w2 HI2.out ?len ?size).mono ?_
    case len => have h1 := acc_len r0 r1 r2 0 HZ.out.1 HZ.out.2.1 HZ.out.2.2; have h2 : r0.size ≤ 8 := HZ.out.1; omega
    case size => exact below_ge_ HI2.out
    rintro e w3 ⟨rfl, hi3, hb3, -⟩
    have HI3 := Aside0.mk (show Lib.IsBuilderF 92 5 (w.heap.size + 1) (w.heap.size + 1) (Lib.byteCells (accK r0 r1 r2 1)) w3 from by
     rw [acc_s0] at hi3
     exact Or.inr hi3)
    have HB3 := Aside0.mk (below_trans_ HB2.out hb3)
    clear hb3 hi3
    go_wp2_with (fail)
    go_roundg 2
    case measure => omega
    case rel => exact ⟨1, by omega, by omega, by go_num, HI3, HB3⟩
  · rw [show ((1 : Nat) : Int) = (1 : Int) from rfl]
    clear hk
    go_wp2_with (fail)
    refine (HE1 wo).out.mono ?_
    rintro e w2 ⟨rfl, hb2⟩
    have HI2 := Aside0.mk (builder_isBelow HI.out hb2)
    have HB2 := Aside0.mk (below_step HB.out hb2)
    clear hb2
    go_wp2_with (fail)
    refine (builder_write (w.heap.size + 1) (w.heap.size + 1) _ r1 w2 HI2.out ?len ?size).mono ?_
    case len => have h1 := acc_len r0 r1 r2 1 HZ.out.1 HZ.out.2.1 HZ.out.2.2; have h2 : r1.size ≤ 8 := HZ.out.2.1; omega
    case size => exact below_ge_ HI2.out
    rintro e w3 ⟨rfl, hi3, hb3, -⟩
    have HI3 := Aside0.mk (show Lib.IsBuilderF 92 5 (w.heap.size + 1) (w.heap.size + 1) (Lib.byteCells (accK r0 r1 r2 2)) w3 from by
     rw [acc_s1] at hi3
     exact Or.inr hi3)
    have HB3 := Aside0.mk (below_trans_ HB2.out hb3)
    clear hb3 hi3
    go_wp2_with (fail)
    go_roundg 1
    case measure => omega
    case rel => exact ⟨2, by omega, by omega, by go_num, HI3, HB3⟩
  · rw [show ((2 : Nat) : Int) = (2 : Int) from rfl]
    clear hk
    go_wp2_with (fail)
    refine (HE2 wo).out.mono ?_
    rintro e w2 ⟨rfl, hb2⟩
    have HI2 := Aside0.mk (builder_isBelow HI.out hb2)
    have HB2 := Aside0.mk (below_step HB.out hb2)
    clear hb2
    go_wp2_with (fail)
    refine (builder_write (w.heap.size + 1) (w.heap.size + 1) _ r2 w2 HI2.out ?len ?size).mono ?_
    case len => have h1 := acc_len r0 r1 r2 2 HZ.out.1 HZ.out.2.1 HZ.out.2.2; have h2 : r2.size ≤ 8 := HZ.out.2.2; omega
    case size => exact below_ge_ HI2.out
    rintro e w3 ⟨rfl, hi3, hb3, -⟩
    have HI3 := Aside0.mk (show Lib.IsBuilderF 92 5 (w.heap.size + 1) (w.heap.size + 1) (Lib.byteCells (accK r0 r1 r2 3)) w3 from by
     rw [acc_s2] at hi3
     exact Or.inr hi3)
    have HB3 := Aside0.mk (below_trans_ HB2.out hb3)
    clear hb3 hi3
    go_wp2_with (fail)
    go_roundg 0
    case measure => omega
    case rel => exact ⟨3, by omega, by omega, by go_num, HI3, HB3⟩
  · rw [show ((3 : Nat) : Int) = (3 : Int) from rfl]
    clear hk
    go_wp2_with (fail)
    refine (builder_string (w.heap.size + 1) (w.heap.size + 1) _ wo HI.out (below_ge_ HI.out)).mono ?_
    rintro e w3 ⟨rfl, -, hb3, -⟩
    have HB3 := Aside0.mk (below_trans_ HB.out hb3)
    clear hb3
    go_wp2_with (fail)
    go_ret
    exact ⟨rfl, HB3.out⟩
def address_Encode.f (a0_0 a0_1 a0_2 : Int) : Option (ByteArray × Int) :=
 if msfB a0_0 a0_1 a0_2 = true then ((address_Encode_1.f a0_0).bind fun r0 => (address_Encode_1.f a0_1).bind fun r1 => (address_Encode_1.f a0_2).bind fun r2 => if r0.size ≤ 8 ∧ r1.size ≤ 8 ∧ r2.size ≤ 8 then some (⟨(accK r0 r1 r2 3).toArray⟩, 0) else none) else some (⟨#[]⟩, 1)
set_option maxHeartbeats 400000 in
set_option maxRecDepth 100000 in
theorem address_Encode.calls (a0_0 a0_1 a0_2 : Int) (r1 : ByteArray) (r2 : Int) (w : World) (h : address_Encode.f a0_0 a0_1 a0_2 = some (r1, r2)) :
 Calls Try.prog 41 #[.agg #[.int .i64 a0_0, .int .i64 a0_1, .int .i64 a0_2]] w fun e w' => e = .returned (.tuple #[.string r1, .int .i64 r2]) ∧ Below w.heap.size w w' := by
 have hu := Try.underlying25
 have hn := blk_new w (.cells #[.int .i64 a0_0, .int .i64 a0_1, .int .i64 a0_2] 25 (0, 0))
 have HB0 := Aside0.mk (Below.alloc (Below.refl w.heap.size w) (Nat.le_refl _) (.cells #[.int .i64 a0_0, .int .i64 a0_1, .int .i64 a0_2] 25 (0, 0)))
 obtain ⟨w1, hw1⟩ : ∃ w1, w.alloc (.cells #[.int .i64 a0_0, .int .i64 a0_1, .int .i64 a0_2] 25 (0, 0)) = w1 := ⟨_, rfl⟩
 have HN := Aside0.mk hn
 clear hn
 rw [hw1] at HB0 HN
 obtain ⟨b, hb⟩ : ∃ b, msfB a0_0 a0_1 a0_2 = b := ⟨_, rfl⟩
 have HV := Aside0.mk (address_Valid.calls a0_0 a0_1 a0_2 b w1 (congrArg some hb))
 have b0 : w1.cell? ⟨w.heap.size, 0, none⟩ = some (.int .i64 a0_0) := (blk_cell HN.out 0).trans rfl
 have b1 : w1.cell? ⟨w.heap.size, 1, none⟩ = some (.int .i64 a0_1) := (blk_cell HN.out 1).trans rfl
 have b2 : w1.cell? ⟨w.heap.size, 2, none⟩ = some (.int .i64 a0_2) := (blk_cell HN.out 2).trans rfl
 unfold address_Encode.f at h
 rw [hb] at h
 clear hb
 cases b with
 | false =>
  rw [if_neg (by decide)] at h
  cases h
  go_enter Try.func41, Try.ntmps41
  go_wp2_with (fail)
  refine HV.out.mono ?_
  rintro e w2 ⟨rfl, hb2⟩
  have HB2 := Aside0.mk (below_step HB0.out hb2)
  clear hb2
  go_wp2_with (fail)
  go_ret2
  exact ⟨rfl, HB2.out⟩
 | true =>
  rw [if_pos rfl] at h
  obtain ⟨q0, h0, h⟩ := Option.bind_eq_some_iff.mp h
  obtain ⟨q1, h1, h⟩ := Option.bind_eq_some_iff.mp h
  obtain ⟨q2, h2, h⟩ := Option.bind_eq_some_iff.mp h
  split at h
  · rename_i hz
    cases h
    have HW := fun W => Aside0.mk (address_write.enc a0_0 a0_1 a0_2 q0 q1 q2 W h0 h1 h2 hz.1 hz.2.1 hz.2.2)
    clear h0 h1 h2 hz
    go_enter Try.func41, Try.ntmps41
    go_wp2_with (fail)
    refine HV.out.mono ?_
    rintro e w2 ⟨rfl, hb2⟩
    have hm := blk_below HN.out hb2
    have HB2 := Aside0.mk (below_step HB0.out hb2)
    have c0 : w2.cell? ⟨w.heap.size, 0, none⟩ = some (.int .i64 a0_0) := (blk_cell hm 0).trans rfl
    have c1 : w2.cell? ⟨w.heap.size, 1, none⟩ = some (.int .i64 a0_1) := (blk_cell hm 1).trans rfl
    have c2 : w2.cell? ⟨w.heap.size, 2, none⟩ = some (.int .i64 a0_2) := (blk_cell hm 2).trans rfl
    clear hb2 hm
    go_wp2_with (fail)
    refine (HW w2).out.mono ?_
    rintro e w3 ⟨rfl, hb3⟩
    have HB3 := Aside0.mk (below_step HB2.out hb3)
    clear hb3
    go_wp2_with (fail)
    go_ret2
    exact ⟨rfl, HB3.out⟩
  · cases h
end Go.Proofs.Ytpmkibggmkibeaa.G
namespace Go.Proofs.Ytpmkibggmkibeaa.G
open Go.RowKit Go.Proofs.YtpmkibggmkibeaaW.PrintWords Go.Proofs.YtpmkibggmkibeaaW.PrintLast Go.Proofs.YtpmkibggmkibeaaW.PrintMore
attribute [local go_sem] max2_int min2_int max_two min_two max_three min_three max_four min_four   -- for this text's walks alone
set_option linter.unusedVariables false
set_option linter.unusedSimpArgs false
def subchannel_Encode_1.f (a0_0 : Int) (a0_1 : Int) (a0_2 : Int) : Option (ByteArray) := (address_Encode.f a0_0 a0_1 a0_2).bind fun bt111 => (some bt111.1)
set_option maxHeartbeats 8000000 in
set_option maxRecDepth 100000 in
theorem subchannel_Encode_1.calls (a0_0 : Int) (a0_1 : Int) (a0_2 : Int) (r : ByteArray) (w : World) (h : subchannel_Encode_1.f a0_0 a0_1 a0_2 = some r) :
 Calls Try.prog 40 #[.agg #[.int .i64 a0_0, .int .i64 a0_1, .int .i64 a0_2]] w fun e w' => e = .returned (.string r) ∧ Below w.heap.size w w' := by
 have hu25 := Try.underlying25
 have HB := Aside0.mk (Below.refl w.heap.size w)
 have H : ((address_Encode.f a0_0 a0_1 a0_2).bind fun bt111 => (some bt111.1)) = some r := h
 clear h
 replace H := Option.bind_eq_some_iff.mp H
 obtain ⟨⟨t111, t112⟩, A20, H⟩ := H
 replace H : (some t111) = some r := H
 have A2 := Aside0.mk A20
 clear A20
 obtain rfl := Option.some.inj H
 go_enter Try.func40, Try.ntmps40
 go_wp2_with (first | ((with_reducible refine gate_dst (N := 1) rfl ?_); refine box_event ?hg (N := 1) ?hd (cs := #[.int .i64 a0_0, .int .i64 a0_1, .int .i64 a0_2]) (t := 25) ?hr ?_; (case hd => rfl); (case hg => rfl); (case hr => first | (go_simp; done) | (go_simp; rfl)); intro gb110 hg w3 hbox hb; have n0_ := Aside0.mk (below_step (by repeat (first | (with_reducible first | exact HB.out | apply below_alloc | apply pw_below_drewN | apply below_drew1) | exact HB.out)) hb); have n1_ := Aside0.mk (hbox); have n2_ := Aside0.mk ((by rw [hg]; exact (below_size (by repeat (first | (with_reducible first | exact HB.out | apply below_alloc | apply pw_below_drewN | apply below_drew1) | exact HB.out))) : w.heap.size ≤ gb110)); have n3_ := Aside0.mk ((by rw [hg]; exact (below_size (by repeat (first | (with_reducible first | exact HB.out | apply below_alloc | apply pw_below_drewN | apply below_drew1) | exact HB.out))) : w.heap.size ≤ gb110)); clear HB; have HB := n0_; have BK110 := n1_; have GW110 := n2_; have GE110 := n3_; clear n0_ n1_ n2_ n3_; clear hb hbox hg; obtain ⟨hcz4_0, hcz4_1, hcz4_2⟩ := cel3 BK110.out; obtain ⟨hfz4_0, hfz4_1, hfz4_2⟩ := frz3 BK110.out) | ((with_reducible refine gate_callee (f := 41) rfl ?_); refine goesL_ (some 7) rfl rfl Try.func41 (by kernel_rfl) rfl #[.agg #[.int .i64 a0_0, .int .i64 a0_1, .int .i64 a0_2]] rfl (by (try simp only [List.map_toArray, List.map_cons, List.map_nil]); first | done | rfl | (simp only [List.length_drop, List.length_take]; rfl)) ?_; (with_reducible refine (address_Encode.calls a0_0 a0_1 a0_2 t111 t112 _ A2.out).mono ?_); rintro e w5 ⟨rfl, hb⟩; refine ⟨_, rfl, ?_⟩; have n0_ := Aside0.mk (blk_below (g := gb110) (o := .cells #[.int .i64 a0_0, .int .i64 a0_1, .int .i64 a0_2] 25 (0, 0)) (by (with_reducible repeat (first | refine blk_drewN ?_ _ | refine blk_drew ?_ | refine blk_alloc ?_ _)); exact BK110.out) hb); have n1_ := Aside0.mk (below_step (by repeat (first | (with_reducible first | exact HB.out | apply below_alloc | apply pw_below_drewN | apply below_drew1 | refine below_set ?_ GE110.out) | exact HB.out)) hb); clear BK110; clear HB; have BK110 := n0_; have HB := n1_; clear n0_ n1_; (try clear hb); (try clear hb2); (try clear hk); (try clear hi)))
 go_ret
 exact ⟨by first | rfl | (simp [errW_none, errW_some] <;> rfl) | (simp [*, errW_none, errW_some] <;> rfl), by repeat (first | (with_reducible first | exact HB.out | apply below_alloc | apply pw_below_drewN | apply below_drew1 | refine below_set ?_ GE110.out) | exact HB.out)⟩
end Go.Proofs.Ytpmkibggmkibeaa.G
namespace Go.Proofs.Ytpmkibggmkibeaa.G
open Go.RowKit Go.Proofs.YtpmkibggmkibeaaW.PrintWords Go.Proofs.YtpmkibggmkibeaaW.PrintLast Go.Proofs.YtpmkibggmkibeaaW.PrintMore
attribute [local go_sem] max2_int min2_int max_two min_two max_three min_three max_four min_four   -- for this text's walks alone
set_option linter.unusedVariables false
set_option linter.unusedSimpArgs false
def checksum_direct_1.l0 : Nat → Int → Int → Option (Int)
 | 0, _, _ => none
 | k + 1, x3, x7 => if x7 < 8 then (if (x3 / 32768) = 1 then (checksum_direct_1.l0 k (Go.bits .xor .u16 (IntKind.u16.wrap (x3 * 2)) 4129) (wrap64 (x7 + 1))) else (checksum_direct_1.l0 k (IntKind.u16.wrap (x3 * 2)) (wrap64 (x7 + 1)))) else (some x3)
def checksum_direct_1.f (k : Nat) (a0 : Int) : Option (Int) := checksum_direct_1.l0 k (IntKind.u16.wrap ((IntKind.u16.wrap (a0)) * 256)) 0
theorem checksum_direct_1.mono_l : ∀ k, (∀ y0 y1, LeO (checksum_direct_1.l0 k y0 y1) (checksum_direct_1.l0 (k + 1) y0 y1))
 | 0 => fun _ _ r h => by simp [checksum_direct_1.l0] at h
 | k + 1 => by
  have ih0 := checksum_direct_1.mono_l k
  · intro y0 y1
    unfold checksum_direct_1.l0
    repeat' first
    | (with_reducible exact ih0 _ _)
    | (with_reducible exact LeO.refl _)
    | (with_reducible exact LeO.none _)
    | (with_reducible refine LeO.ite ?_ ?_)
    | (with_reducible refine LeO.bind ?_ (fun _ => ?_))
    | exact ih0 _ _
    | exact LeO.none _
    | refine LeO.ite ?_ ?_
    | refine LeO.bind ?_ (fun _ => ?_)
theorem checksum_direct_1.mono : ∀ a0 k, LeO (checksum_direct_1.f k a0) (checksum_direct_1.f (k + 1) a0) := by
 intro a0 k
 have ih0 := checksum_direct_1.mono_l k
 unfold checksum_direct_1.f
 repeat' first
  | (with_reducible exact ih0 _ _)
  | (with_reducible exact LeO.refl _)
  | (with_reducible exact LeO.none _)
  | (with_reducible refine LeO.ite ?_ ?_)
  | (with_reducible refine LeO.bind ?_ (fun _ => ?_))
  | exact ih0 _ _
  | exact LeO.none _
  | refine LeO.ite ?_ ?_
  | refine LeO.bind ?_ (fun _ => ?_)
set_option maxHeartbeats 8000000 in
set_option maxRecDepth 100000 in
theorem checksum_direct_1.calls (k : Nat) (a0 : Int) (r : Int) (w : World) (h : checksum_direct_1.f k a0 = some r) :
 Calls Try.prog 79 #[.int .u8 a0] w fun e w' => e = .returned (.int .u16 r) ∧ Drawn0 w w' := by
 have H : (checksum_direct_1.l0 k (IntKind.u16.wrap ((IntKind.u16.wrap (a0)) * 256)) 0) = some r := h
 clear h
 have H' := Aside0.mk H
 clear H
 go_enter Try.func79, Try.ntmps79
 go_wp2
 go_loopg [3, 7] k (fun kq v3 v7 w' => ∃ (x3_1 : Int) (x7_1 : Int), v3 = .int .u16 x3_1 ∧ v7 = .int .i64 x7_1 ∧ Aside0 (checksum_direct_1.l0 kq x3_1 x7_1 = some r) ∧ Aside0 (kq ≤ k) ∧ Drawn0 w w')
 case atStart => exact ⟨(IntKind.u16.wrap ((IntKind.u16.wrap (a0)) * 256)), (0), (by first | rfl | (simp; done) | (simp [*]; done)), (by first | rfl | (simp; done) | (simp [*]; done)), H', ⟨Nat.le_refl _⟩, by repeat (first | exact Drawn0.refl _ | apply Drawn0.step)⟩
 case round =>
  clear H'
  obtain ⟨x3_1, x7_1, rfl, rfl, HA, HK1, ⟨m1, rfl⟩⟩ := hrel
  cases gk with
  | zero => exact absurd HA.out (by simp [checksum_direct_1.l0])
  | succ k1 =>
   have H := HA.out
   clear HA
   simp only [checksum_direct_1.l0] at H
   by_cases c2 : x7_1 < 8
   · rw [if_pos c2] at H
     have c2b0 : decide (x7_1 < 8) = true := decide_eq_true c2
     clear c2
     by_cases c3 : (x3_1 / 32768) = 1
     · rw [if_pos c3] at H
       have c3b0 : ((x3_1 / 32768) == 1) = true := beq_iff_eq.mpr c3
       have c3b1 : ((x3_1 / 32768) != 1) = false := bne_eq_false_iff_eq.mpr c3
       clear c3
       have H' := Aside0.mk H
       clear H
       go_wp2
       go_roundg k1
       case measure => have := HK1.out; omega
       case rel => exact ⟨(Go.bits .xor .u16 (IntKind.u16.wrap (x3_1 * 2)) 4129), (wrap64 (x7_1 + 1)), (by first | rfl | (simp; done) | (simp [*]; done)), (by first | rfl | (simp; done) | (simp [*]; done)), H', ⟨by have := HK1.out; omega⟩, by repeat (first | exact Drawn0.refl _ | apply Drawn0.step)⟩
     · rw [if_neg c3] at H
       have c3b0 : ((x3_1 / 32768) == 1) = false := beq_eq_false_iff_ne.mpr c3
       have c3b1 : ((x3_1 / 32768) != 1) = true := bne_iff_ne.mpr c3
       have H' := Aside0.mk H
       clear H
       go_wp2
       go_roundg k1
       case measure => have := HK1.out; omega
       case rel => exact ⟨(IntKind.u16.wrap (x3_1 * 2)), (wrap64 (x7_1 + 1)), (by first | rfl | (simp; done) | (simp [*]; done)), (by first | rfl | (simp; done) | (simp [*]; done)), H', ⟨by have := HK1.out; omega⟩, by repeat (first | exact Drawn0.refl _ | apply Drawn0.step)⟩
   · rw [if_neg c2] at H
     have c2b0 : decide (x7_1 < 8) = false := decide_eq_false c2
     clear c2
     obtain rfl := Option.some.inj H
     go_wp2
     go_ret
     exact ⟨by first | rfl | (simp; done) | (simp [*]; done), by repeat (first | exact Drawn0.refl _ | apply Drawn0.step)⟩
end Go.Proofs.Ytpmkibggmkibeaa.G
namespace Go.Proofs.Ytpmkibggmkibeaa.G.Crc
def stp (x : BitVec 16) : BitVec 16 := if x.msb = true then (x <<< 1) ^^^ 0x1021#16 else x <<< 1
def st8 (x : BitVec 16) : BitVec 16 := stp (stp (stp (stp (stp (stp (stp (stp x)))))))
theorem stp_xor (x y : BitVec 16) : stp (x ^^^ y) = stp x ^^^ stp y := by
 unfold stp
 rw [BitVec.msb_xor, BitVec.shiftLeft_xor_distrib]
 cases hx : x.msb <;> cases hy : y.msb
 · simp
 · simp [BitVec.xor_assoc]
 · simp only [Bool.bne_false, if_true, Bool.false_eq_true, if_false]
   ac_rfl
 · simp only [bne_self_eq_false, Bool.false_eq_true, if_false, if_true]
   rw [show (x <<< 1 ^^^ 0x1021#16) ^^^ (y <<< 1 ^^^ 0x1021#16) = (x <<< 1 ^^^ y <<< 1) ^^^ (0x1021#16 ^^^ 0x1021#16) by ac_rfl]
   simp
theorem st8_xor (x y : BitVec 16) : st8 (x ^^^ y) = st8 x ^^^ st8 y := by simp only [st8, stp_xor]
theorem stp_zero : stp 0#16 = 0#16 := by decide
theorem st8_zero : st8 0#16 = 0#16 := by decide
theorem st8_lo : ∀ b : Fin 256, st8 (BitVec.ofNat 16 b.val) = BitVec.ofNat 16 (b.val * 256) := by decide +kernel
def tab (b : Nat) : BitVec 16 := st8 (BitVec.ofNat 16 (b * 256))
def one (c : BitVec 16) (b : BitVec 8) : BitVec 16 := (c <<< 8) ^^^ tab ((c >>> 8).setWidth 8 ^^^ b).toNat
theorem of_mul (x : BitVec 8) : BitVec.ofNat 16 (x.toNat * 256) = x.setWidth 16 <<< 8 := by
 apply BitVec.eq_of_toNat_eq
 have := x.isLt
 simp [BitVec.toNat_shiftLeft, Nat.shiftLeft_eq]
theorem of_mod (c : BitVec 16) : BitVec.ofNat 16 (c.toNat % 256) = (c.setWidth 8).setWidth 16 := by
 apply BitVec.eq_of_toNat_eq
 simp
theorem split (c : BitVec 16) (b : BitVec 8) : c ^^^ (b.setWidth 16 <<< 8) = (((c >>> 8).setWidth 8 ^^^ b).setWidth 16 <<< 8) ^^^ (c.setWidth 8).setWidth 16 := by
 apply BitVec.eq_of_getLsbD_eq
 intro i hi
 simp only [BitVec.getLsbD_xor, BitVec.getLsbD_shiftLeft, BitVec.getLsbD_setWidth, BitVec.getLsbD_ushiftRight]
 by_cases h8 : i < 8
 · simp [h8, hi]
 · have : i - 8 < 8 := by omega
   have h1 : 8 + (i - 8) = i := by omega
   have h2 : i - 8 < 16 := by omega
   simp [h8, hi, this, h1, h2]
theorem lo_shift (c : BitVec 16) : BitVec.ofNat 16 (c.toNat % 256 * 256) = c <<< 8 := by
 apply BitVec.eq_of_toNat_eq
 simp [BitVec.toNat_shiftLeft, Nat.shiftLeft_eq]
 omega
theorem one_eq (c : BitVec 16) (b : BitVec 8) : one c b = st8 (c ^^^ (b.setWidth 16 <<< 8)) := by
 have h8 : st8 (BitVec.ofNat 16 (c.toNat % 256)) = BitVec.ofNat 16 (c.toNat % 256 * 256) := st8_lo ⟨c.toNat % 256, Nat.mod_lt _ (by decide)⟩
 rw [lo_shift, of_mod] at h8
 rw [split, st8_xor, h8]
 unfold one tab
 rw [of_mul, BitVec.xor_comm]
def oneS (c : BitVec 16) (b : BitVec 8) : BitVec 16 := st8 (c ^^^ (b.setWidth 16 <<< 8 : BitVec 16))
def ext (c : BitVec 16) (l : List (BitVec 8)) : BitVec 16 := l.foldl oneS c
theorem stp_inj0 {x : BitVec 16} (h : stp x = 0#16) : x = 0#16 := by
 unfold stp at h
 split at h
 · exfalso
   have h0 := congrArg (fun y => y.getLsbD 0) h
   simp at h0
 · rename_i hm
   apply BitVec.eq_of_getLsbD_eq
   intro i hi
   by_cases h15 : i = 15
   · subst h15
     simpa [BitVec.msb_eq_getLsbD_last] using hm
   · have h0 := congrArg (fun y => y.getLsbD (i + 1)) h
     simp only [BitVec.getLsbD_shiftLeft] at h0
     have h2 : i + 1 < 16 := by omega
     simpa [h2] using h0
theorem st8_inj0 {x : BitVec 16} (h : st8 x = 0#16) : x = 0#16 := stp_inj0 (stp_inj0 (stp_inj0 (stp_inj0 (stp_inj0 (stp_inj0 (stp_inj0 (stp_inj0 h)))))))
theorem xor_zero_eq {x y : BitVec 16} (h : x ^^^ y = 0#16) : x = y := by
 have := congrArg (· ^^^ y) h
 simpa [BitVec.xor_assoc] using this
theorem st8_inj {x y : BitVec 16} (h : st8 x = st8 y) : x = y := by
 apply xor_zero_eq
 apply st8_inj0
 rw [st8_xor, h, BitVec.xor_self]
theorem ext_inj (l : List (BitVec 8)) : ∀ x y : BitVec 16, ext x l = ext y l → x = y := by
 induction l with
 | nil => intro x y h; exact h
 | cons b l ih =>
  intro x y h
  have := st8_inj (ih _ _ h)
  have h2 := congrArg (· ^^^ (b.setWidth 16 <<< 8 : BitVec 16)) this
  simpa [BitVec.xor_assoc] using h2
theorem tab_lo : ∀ b : Fin 256, (tab b.val).toNat % 256 = 0 → b.val = 0 := by decide +kernel
theorem oneS_lo {c : BitVec 16} {a b : BitVec 8} (h : (oneS c a).toNat % 256 = (oneS c b).toNat % 256) : a = b := by
 have h1 : oneS c a = oneS c b ^^^ tab (a ^^^ b).toNat := by
  unfold oneS tab
  rw [← st8_xor, of_mul]
  congr 1
  rw [BitVec.setWidth_xor, BitVec.shiftLeft_xor_distrib]
  rw [show c ^^^ b.setWidth 16 <<< 8 ^^^ (a.setWidth 16 <<< 8 ^^^ b.setWidth 16 <<< 8) = (c ^^^ a.setWidth 16 <<< 8) ^^^ (b.setWidth 16 <<< 8 ^^^ b.setWidth 16 <<< 8) by ac_rfl]
  simp
 have h2 : ((oneS c a).setWidth 8) = ((oneS c b).setWidth 8) := by
  apply BitVec.eq_of_toNat_eq
  simpa using h
 rw [h1, BitVec.setWidth_xor] at h2
 have h3 : (tab (a ^^^ b).toNat).setWidth 8 = 0#8 := by
  have := congrArg ((oneS c b).setWidth 8 ^^^ ·) h2
  simpa [← BitVec.xor_assoc] using this
 have h4 : (tab (a ^^^ b).toNat).toNat % 256 = 0 := by
  have := congrArg BitVec.toNat h3
  simpa using this
 have h5 := tab_lo ⟨(a ^^^ b).toNat, (a ^^^ b).isLt⟩ h4
 have h6 : a ^^^ b = 0#8 := BitVec.eq_of_toNat_eq h5
 have := congrArg (· ^^^ b) h6
 simpa [BitVec.xor_assoc] using this
theorem oneS_inj {c : BitVec 16} {a b : BitVec 8} (h : oneS c a = oneS c b) : a = b := oneS_lo (by rw [h])
theorem two_inj {c : BitVec 16} {a b a' b' : BitVec 8} (h : oneS (oneS c a) b = oneS (oneS c a') b') : a = a' ∧ b = b' := by
 have h1 := st8_inj h
 have h2 : (oneS c a).toNat % 256 = (oneS c a').toNat % 256 := by
  have := congrArg (fun x => (x.setWidth 8).toNat) h1
  simpa [BitVec.toNat_shiftLeft, Nat.shiftLeft_eq] using this
 have h3 := oneS_lo h2
 subst h3
 exact ⟨rfl, oneS_inj h⟩
theorem ext_app (c : BitVec 16) (l m : List (BitVec 8)) : ext c (l ++ m) = ext (ext c l) m := by simp [ext, List.foldl_append]
end Go.Proofs.Ytpmkibggmkibeaa.G.Crc
namespace Go.Proofs.Ytpmkibggmkibeaa.G
open Go.RowKit Go.Proofs.YtpmkibggmkibeaaW.PrintWords Go.Proofs.YtpmkibggmkibeaaW.PrintLast Go.Proofs.YtpmkibggmkibeaaW.PrintMore
set_option linter.unusedVariables false
def tabZ (j : Nat) : Int := ((Crc.tab j).toNat : Int)
theorem dir1_all : ∀ b : Fin 256, checksum_direct_1.f 10 (b.val : Int) = some (tabZ b.val) := by decide +kernel
def tb : Nat → List Int
 | 0 => List.replicate 256 0
 | k + 1 => (tb k).set k (tabZ k)
theorem tb_length (k : Nat) : (tb k).length = 256 := by
 induction k with
 | zero => exact List.length_replicate
 | succ k ih => simp [tb, ih]
def tArr (l : List Int) : Array Value := (nums .u16 l).toArray
theorem tArr_set (l : List Int) (i : Nat) (x : Int) : (tArr l).setIfInBounds i (.int .u16 x) = tArr (l.set i x) := by
 simp [tArr, nums, List.map_set]
theorem tArr_zero : Try.zeroCells100 = tArr (tb 0) := by kernel_rfl
theorem tArr_get (k j : Nat) (h : j < 256) : (tArr (tb k))[j]? = some (.int .u16 ((tb k).getD j 0)) := by
 have : j < (tb k).length := by rw [tb_length]; exact h
 simp [tArr, nums, List.getElem?_eq_getElem this, List.getD_eq_getElem?_getD]
theorem tArr_size (k : Nat) : (tArr (tb k)).size = 256 := by simp [tArr, nums, tb_length]
theorem tArr_info (k : Nat) : (Try.prog.info? 100).map (·.size) = some (tArr (tb k)).size := by
 rw [tArr_size]
 kernel_rfl
theorem tArr_one (k : Nat) : (tArr (tb k)).all (·.oneCell') = true := by
 rw [Array.all_eq_true_iff_forall_mem]
 intro x hx
 simp only [tArr, nums, List.mem_toArray, List.mem_map] at hx
 obtain ⟨y, -, rfl⟩ := hx
 rfl
theorem tb_get (k : Nat) : ∀ j, j < 256 → j < k → k ≤ 256 → (tb k).getD j 0 = tabZ j := by
 induction k with
 | zero => intro j _ h; omega
 | succ k ih =>
  intro j h1 h2 h3
  simp only [tb]
  have hl := tb_length k
  by_cases e : j = k
  · subst e
    simp [List.getD_eq_getElem?_getD, hl, h1]
  · have := ih j h1 (by omega) (by omega)
    simpa [List.getD_eq_getElem?_getD, List.getElem?_set_ne (Ne.symm e)] using this
theorem tArr_at (j : Nat) (h : j < 256) : (tArr (tb 256))[j]? = some (.int .u16 (tabZ j)) := by
 rw [tArr_get 256 j h, tb_get 256 j h h (by omega)]
set_option maxHeartbeats 400000 in
set_option maxRecDepth 100000 in
theorem table_any (w : World) :
 Calls Try.prog 78 #[.func (.func 79) #[] #[]] w fun e w' => e = .returned (.agg (tArr (tb 256))) ∧ Below w.heap.size w w' := by
 have hu := Try.underlying100
 obtain ⟨A, hA⟩ : ∃ A, tArr (tb 256) = A := ⟨_, rfl⟩
 have hi : (Try.prog.info? 100).map (·.size) = some A.size := hA ▸ tArr_info 256
 have hs : (tArr (tb 0)).size = A.size := by rw [← hA, tArr_size, tArr_size]
 have h1 : A.all (·.oneCell') = true := hA ▸ tArr_one 256
 have HI := Aside0.mk hi
 have HS := Aside0.mk hs
 have HO := Aside0.mk h1
 have HA := Aside0.mk hA
 rw [hA]
 clear hA hi hs h1
 go_enter Try.func78, Try.ntmps78
 go_wp2_with (fail)
 rw [tArr_zero]
 go_loopg [5] 256 (fun gk v5 wr => ∃ k : Nat, k ≤ 256 ∧ 256 - k ≤ gk ∧ v5 = .int .i64 k ∧ Aside0 (wr.heap[w.heap.size]? = some (.cells (tArr (tb 0)) 100 (0, 0))) ∧ Aside0 (wr.heap[w.heap.size + 1]? = some (.cells (tArr (tb k)) 100 (0, 0))) ∧ Aside0 (Below w.heap.size w wr))
 case atStart =>
  obtain ⟨h0, h1, h2⟩ := two_new (rfl : (w.alloc (.cells (tArr (tb 0)) 100 (0, 0))).alloc (.cells (tArr (tb 0)) 100 (0, 0)) = _)
  exact ⟨0, by omega, by omega, rfl, ⟨h0⟩, ⟨h1⟩, ⟨h2⟩⟩
 case round =>
  obtain ⟨k, hk, hg, rfl, H0, HH, HB⟩ := hrel
  by_cases hlt : k < 256
  · have hltz : (k : Int) < 256 := by omega
    have hk0 : 0 ≤ (k : Int) := by omega
    have HC := Aside0.mk (fun W => checksum_direct_1.calls 10 (k : Int) (tabZ k) W (dir1_all ⟨k, hlt⟩))
    go_wp2_with (fail)
    refine (HC.out wr).mono ?_
    rintro e w2 ⟨rfl, hd⟩
    have hh2 := blk_below HH.out hd.below
    have hc := (blk_cell hh2 k).trans (tArr_get k k hlt)
    have hf := blk_frozen hh2 k
    have HB2 := Aside0.mk (below_step HB.out hd.below)
    have HH2 := Aside0.mk hh2
    have H02 := Aside0.mk (blk_below H0.out hd.below)
    clear hd hh2
    go_wp2_with (fail)
    go_roundg (256 - (k + 1))
    case measure => omega
    case rel => exact ⟨k + 1, by omega, by omega, by go_num, ⟨blk_far H02.out (by simp) _⟩, ⟨blk_put HH2.out k _ (tArr_set _ _ _)⟩, ⟨HB2.out.setCell (by simp) _⟩⟩
  · obtain rfl : k = 256 := by omega
    clear hlt hg
    have hh := HH.out
    rw [HA.out] at hh
    have HF := Aside0.mk (show (wr.setRow w.heap.size A).heap[w.heap.size]? = some (.cells A 100 (0, 0)) from setRow_heap _ _ _ _ _ _ H0.out)
    have HH2 := Aside0.mk hh
    clear hh HH HA
    rw [show ((256 : Nat) : Int) = (256 : Int) from rfl]
    clear hk
    go_wp2_with (first | (refine wpList_load_row rfl 100 (.tmp 3) rfl (w.heap.size + 1) rfl _ _ (0, 0) _ HH2.out hu rfl HI.out ?_) | (refine wpList_store_row rfl 100 (.tmp 2) (.tmp 15) rfl w.heap.size A rfl rfl _ _ H0.out HI.out HS.out HO.out ?_))
    refine bodyPost_ret (results_cell_row rfl _ _ w.heap.size 100 A (0, 0) _ rfl HF.out hu rfl HI.out) rfl ?_
    exact ⟨rfl, below_setRow HB.out (Nat.le_refl _) _⟩
set_option maxHeartbeats 400000 in
set_option maxRecDepth 100000 in
theorem direct_any (w : World) :
 Calls Try.prog 76 #[] w fun e w' => e = .returned (.agg (tArr (tb 256))) ∧ Below w.heap.size w w' := by
 have hu := Try.underlying100
 obtain ⟨A, hA⟩ : ∃ A, tArr (tb 256) = A := ⟨_, rfl⟩
 have hi : (Try.prog.info? 100).map (·.size) = some A.size := hA ▸ tArr_info 256
 have hs : (tArr (tb 0)).size = A.size := by rw [← hA, tArr_size, tArr_size]
 have h1 : A.all (·.oneCell') = true := hA ▸ tArr_one 256
 have HC := fun W => Aside0.mk (table_any W)
 rw [hA] at HC ⊢
 have HI := Aside0.mk hi
 have HS := Aside0.mk hs
 have HO := Aside0.mk h1
 clear hA hi hs h1
 go_enter Try.func76, Try.ntmps76
 go_wp2_with (fail)
 rw [tArr_zero]
 generalize hw0 : w.alloc _ = w0
 have HN := Aside0.mk (show w0.heap[w.heap.size]? = some (.cells (tArr (tb 0)) 100 (0, 0)) from hw0 ▸ blk_new w _)
 have HB := Aside0.mk (show Below w.heap.size w w0 from hw0 ▸ (Below.refl _ _).alloc (Nat.le_refl _) _)
 clear hw0
 refine (HC w0).out.mono ?_
 rintro e w1 ⟨rfl, hb⟩
 have HN1 := Aside0.mk (blk_below HN.out hb)
 have HB1 := Aside0.mk (below_step HB.out hb)
 have HF := Aside0.mk (show (w1.setRow w.heap.size A).heap[w.heap.size]? = some (.cells A 100 (0, 0)) from setRow_heap _ _ _ _ _ _ HN1.out)
 clear hb
 go_wp2_with (first | (refine wpList_store_row rfl 100 (.tmp 0) (.tmp 1) rfl w.heap.size A rfl rfl _ _ HN1.out HI.out HS.out HO.out ?_))
 refine bodyPost_ret (results_cell_row rfl _ _ w.heap.size 100 A (0, 0) _ rfl HF.out hu rfl HI.out) rfl ?_
 exact ⟨rfl, below_setRow HB1.out (Nat.le_refl _) _⟩
def regK (c : BitVec 16) (s : ByteArray) : Nat → BitVec 16
 | 0 => c
 | k + 1 => Crc.one (regK c s k) (BitVec.ofInt 8 (bt s (k : Int)))
def regZ (c : BitVec 16) (s : ByteArray) (k : Nat) : Int := ((regK c s k).toNat : Int)
def checksum_ExtendCRC16.f (a0 : Int) (a1 : ByteArray) : Option Int := if 0 ≤ a0 ∧ a0 < 65536 ∧ a1.size ≤ 140737488351232 then some (regZ (BitVec.ofInt 16 a0) a1 a1.size) else none
theorem lt8 (y : BitVec 8) : ((y.toNat : Nat) : Int) < 2 ^ 8 := by have := y.isLt; omega
theorem lt16 (y : BitVec 16) : ((y.toNat : Nat) : Int) < 65536 := by have := y.isLt; omega
theorem xor8 (R : BitVec 16) (b : Int) : Go.bits .xor .u8 ((R.toNat : Int) / 256) b = ((((R >>> 8).setWidth 8 ^^^ BitVec.ofInt 8 b).toNat : Nat) : Int) := by
 have e : BitVec.ofInt IntKind.u8.bits ((R.toNat : Int) / 256) = (R >>> 8).setWidth 8 := by
  show BitVec.ofInt 8 ((R.toNat : Int) / 256) = (R >>> 8).setWidth 8
  apply BitVec.eq_of_toNat_eq
  rw [BitVec.toNat_ofInt, BitVec.toNat_setWidth, BitVec.toNat_ushiftRight, Nat.shiftRight_eq_div_pow]
  omega
 simp only [Go.bits]
 rw [e]
 exact wraps_u8 _ (Int.natCast_nonneg _) (lt8 _)
theorem wraps_u16 (n : Int) (h0 : 0 ≤ n) (h1 : n < 65536) : IntKind.u16.wrap n = n := by
 simp [IntKind.wrap, IntKind.bits, IntKind.signed]
 omega
theorem wrap16 (n : Int) : IntKind.u16.wrap n = n % 65536 := by
 simp [IntKind.wrap, IntKind.bits, IntKind.signed]
theorem xor16 (R T : BitVec 16) : Go.bits .xor .u16 (IntKind.u16.wrap ((R.toNat : Int) * 256)) (T.toNat : Int) = (((R <<< 8) ^^^ T).toNat : Int) := by
 have e : BitVec.ofInt IntKind.u16.bits (IntKind.u16.wrap ((R.toNat : Int) * 256)) = R <<< 8 := by
  show BitVec.ofInt 16 _ = _
  rw [wrap16]
  apply BitVec.eq_of_toNat_eq
  rw [BitVec.toNat_ofInt, BitVec.toNat_shiftLeft, Nat.shiftLeft_eq]
  omega
 have e2 : BitVec.ofInt IntKind.u16.bits (T.toNat : Int) = T := by
  show BitVec.ofInt 16 _ = _
  simp
 simp only [Go.bits]
 rw [e, e2]
 exact wraps_u16 _ (Int.natCast_nonneg _) (lt16 _)
theorem regZ_succ (c : BitVec 16) (s : ByteArray) (k : Nat) : Go.bits .xor .u16 (IntKind.u16.wrap (regZ c s k * 256)) (tabZ (Go.bits .xor .u8 (regZ c s k / 256) (bt s (k : Int))).toNat) = regZ c s (k + 1) := by
 unfold regZ tabZ
 rw [xor8, xor16]
 rfl
set_option maxHeartbeats 400000 in
set_option maxRecDepth 100000 in
theorem checksum_ExtendCRC16.calls (a0 : Int) (a1 : ByteArray) (r : Int) (w : World) (h : checksum_ExtendCRC16.f a0 a1 = some r) :
 Calls Try.prog 73 #[.int .u16 a0, .string a1] w fun e w' => e = .returned (.int .u16 r) ∧ Below w.heap.size w w' := by
 have hu := Try.underlying100
 obtain ⟨A, hA⟩ : ∃ A, tArr (tb 256) = A := ⟨_, rfl⟩
 have hi : (Try.prog.info? 100).map (·.size) = some A.size := hA ▸ tArr_info 256
 have hs : (tArr (tb 0)).size = A.size := by rw [← hA, tArr_size, tArr_size]
 have h1 : A.all (·.oneCell') = true := hA ▸ tArr_one 256
 have hat : ∀ j : Nat, j < 256 → A[j]? = some (.int .u16 (tabZ j)) := fun j hj => hA ▸ tArr_at j hj
 have HAT := Aside0.mk hat
 have HI := Aside0.mk hi
 have HS := Aside0.mk hs
 have HO := Aside0.mk h1
 have HC := fun W => Aside0.mk (direct_any W)
 rw [hA] at HC
 clear hA hi hs h1 hat
 unfold checksum_ExtendCRC16.f at h
 split at h
 case isFalse => cases h
 rename_i hr
 obtain ⟨hr0, hr1, hsz⟩ := hr
 obtain ⟨c, hc⟩ : ∃ c : BitVec 16, c = BitVec.ofInt 16 a0 := ⟨_, rfl⟩
 have hc0 : a0 = regZ c a1 0 := by
  rw [hc]; simp [regZ, regK]; omega
 rw [← hc] at h
 have HR := Aside0.mk (Option.some.inj h)
 have HC0 := Aside0.mk hc0
 clear h hc hc0
 go_enter Try.func73, Try.ntmps73
 go_wp2_with (fail)
 refine (HC _).out.mono ?_
 rintro e w1 ⟨rfl, hb⟩
 have HN := Aside0.mk (show (w1.alloc (.cells Try.zeroCells100 100)).heap[w1.heap.size]? = some (.cells Try.zeroCells100 100 (0, 0)) from blk_new w1 _)
 have HZ := Aside0.mk (show Try.zeroCells100.size = A.size by rw [tArr_zero]; exact HS.out)
 have HB := Aside0.mk (below_alloc hb (.cells Try.zeroCells100 100))
 have hge := hb.size
 clear hb
 go_wp2_with (first | (refine wpList_store_row rfl 100 (.tmp 5) (.tmp 7) rfl w1.heap.size A rfl rfl _ _ HN.out HI.out HZ.out HO.out ?_))
 have HF := Aside0.mk (setRow_heap _ _ _ A _ _ HN.out)
 have HB2 := Aside0.mk (below_setRow HB.out hge A)
 generalize (w1.alloc (.cells Try.zeroCells100 100)).setRow w1.heap.size A = w2 at HF HB2 ⊢
 clear HN HZ HB
 generalize w1.heap.size = g at HF hge ⊢
 rw [HC0.out]
 go_loopg [0, 10] a1.size (fun gk v0 v10 wr => ∃ k : Nat, k ≤ a1.size ∧ a1.size - k ≤ gk ∧ v10 = .int .i64 k ∧ v0 = .int .u16 (regZ c a1 k) ∧ Aside0 (wr.heap[g]? = some (.cells A 100 (0, 0))) ∧ Aside0 (Below w.heap.size w wr))
 case atStart => exact ⟨0, by omega, by omega, rfl, rfl, HF, HB2⟩
 case round =>
  obtain ⟨k, hk, hg, rfl, rfl, HH, HBB⟩ := hrel
  by_cases hlt : k < a1.size
  · have hltz : (k : Int) < (a1.size : Int) := by omega
    have hk0 : 0 ≤ (k : Int) := by omega
    obtain ⟨x, hx⟩ : ∃ x, regZ c a1 k = x := ⟨_, rfl⟩
    have hx0 : 0 ≤ x := by rw [← hx]; exact Int.natCast_nonneg _
    have hx1 : x < 65536 := by rw [← hx]; have := (regK c a1 k).isLt; unfold regZ; omega
    rw [hx]
    have HX := Aside0.mk hx
    clear hx
    have hbt := bt_at a1 (k : Int) (by rw [Int.toNat_natCast]; exact hlt)
    obtain ⟨j, hj⟩ : ∃ j, Go.bits .xor .u8 (x / 256) (bt a1 (k : Int)) = j := ⟨_, rfl⟩
    have hjr : 0 ≤ j ∧ j < 256 := by
     rw [← hj, ← HX.out]
     unfold regZ
     rw [xor8]
     have := ((regK c a1 k >>> 8).setWidth 8 ^^^ BitVec.ofInt 8 (bt a1 (k : Int))).isLt
     omega
    have hS := regZ_succ c a1 k
    rw [HX.out, hj] at hS
    have HSS := Aside0.mk hS
    rw [← hbt] at hj
    simp only [Int.toNat_natCast] at hj
    have hj0 := hjr.1
    have hj1 := hjr.2
    have hc := (blk_cell HH.out j.toNat).trans (HAT.out j.toNat (by omega))
    clear hS hbt hjr HX
    go_wp2_with (fail)
    go_roundg (a1.size - (k + 1))
    case measure => omega
    case rel => exact ⟨k + 1, by omega, by omega, by go_num, by rw [HSS.out], HH, HBB⟩
  · have hltz : ¬ (k : Int) < (a1.size : Int) := by omega
    have HK := Aside0.mk (show k = a1.size by omega)
    go_wp2_with (fail)
    go_ret
    exact ⟨by rw [HK.out, HR.out]; rfl, HBB.out⟩
end Go.Proofs.Ytpmkibggmkibeaa.G
namespace Go.Proofs.Ytpmkibggmkibeaa.G
open Go.RowKit Go.Proofs.YtpmkibggmkibeaaW.PrintWords Go.Proofs.YtpmkibggmkibeaaW.PrintLast Go.Proofs.YtpmkibggmkibeaaW.PrintMore
attribute [local go_sem] max2_int min2_int max_two min_two max_three min_three max_four min_four   -- for this text's walks alone
set_option linter.unusedVariables false
set_option linter.unusedSimpArgs false
def checksum_CRC16.f (a0 : ByteArray) : Option (Int) := (checksum_ExtendCRC16.f 0 a0).bind fun t156 => (some t156)
set_option maxHeartbeats 8000000 in
set_option maxRecDepth 100000 in
theorem checksum_CRC16.calls (a0 : ByteArray) (r : Int) (w : World) (h : checksum_CRC16.f a0 = some r) :
 Calls Try.prog 62 #[.string a0] w fun e w' => e = .returned (.int .u16 r) ∧ Below w.heap.size w w' := by
 have HB := Aside0.mk (Below.refl w.heap.size w)
 have H : ((checksum_ExtendCRC16.f 0 a0).bind fun t156 => (some t156)) = some r := h
 clear h
 replace H := Option.bind_eq_some_iff.mp H
 obtain ⟨t156, A20, H⟩ := H
 replace H : (some t156) = some r := H
 have A2 := Aside0.mk A20
 clear A20
 obtain rfl := Option.some.inj H
 go_enter Try.func62, Try.ntmps62
 go_wp2_with (first | ((with_reducible refine gate_callee (f := 73) rfl ?_); refine goesL_ (some 4) rfl rfl Try.func73 (by kernel_rfl) rfl #[.int .u16 0, .string a0] rfl (by (try simp only [List.map_toArray, List.map_cons, List.map_nil]); first | done | rfl | (simp only [List.length_drop, List.length_take]; rfl)) ?_; (with_reducible refine (checksum_ExtendCRC16.calls 0 a0 t156 _ A2.out).mono ?_); rintro e w3 ⟨rfl, hb⟩; refine ⟨_, rfl, ?_⟩; have n0_ := Aside0.mk (below_step (by repeat (first | (with_reducible first | exact HB.out | apply below_alloc | apply pw_below_drewN | apply below_drew1) | exact HB.out)) hb); clear HB; have HB := n0_; clear n0_; (try clear hb); (try clear hb2); (try clear hk); (try clear hi)))
 go_ret
 exact ⟨by first | rfl | (simp [errW_none, errW_some] <;> rfl) | (simp [*, errW_none, errW_some] <;> rfl), by repeat (first | (with_reducible first | exact HB.out | apply below_alloc | apply pw_below_drewN | apply below_drew1) | exact HB.out)⟩
end Go.Proofs.Ytpmkibggmkibeaa.G
namespace Go.Proofs.Ytpmkibggmkibeaa.G
open Go.RowKit Go.Proofs.YtpmkibggmkibeaaW.PrintWords Go.Proofs.YtpmkibggmkibeaaW.PrintLast Go.Proofs.YtpmkibggmkibeaaW.PrintMore
attribute [local go_sem] max2_int min2_int max_two min_two max_three min_three max_four min_four   -- for this text's walks alone
set_option linter.unusedVariables false
set_option linter.unusedSimpArgs false
def checksum_CRCBytes.f (a0 : Int) : Option (ByteArray) := some (strOfNums (([(a0 / 256) % 256, (a0) % 256] : List Int)))
set_option maxHeartbeats 8000000 in
set_option maxRecDepth 100000 in
theorem checksum_CRCBytes.calls (a0 : Int) (r : ByteArray) (w : World) (h : checksum_CRCBytes.f a0 = some r) :
 Calls Try.prog 61 #[.int .u16 a0] w fun e w' => e = .returned (.string r) ∧ Below w.heap.size w w' := by
 have HB := Aside0.mk (Below.refl w.heap.size w)
 have H : (some (strOfNums (([(a0 / 256) % 256, (a0) % 256] : List Int)))) = some r := h
 clear h
 obtain ⟨y153, hy153⟩ : ∃ y_ : List Int, y_ = (([(a0 / 256) % 256, (a0) % 256] : List Int)) := ⟨_, rfl⟩
 replace H : (some (strOfNums y153)) = some r := by first | (rw [hy153]; with_reducible exact H) | (have H2_ := (Option.bind_some _ _).symm.trans H; rw [hy153]; with_reducible exact H2_) | (have H2_ := (Option.bind_some _ _).symm.trans H; with_reducible exact H2_) | with_reducible exact H | (rw [hy153]; exact H) | exact H
 have Ny153 := Aside0.mk hy153
 clear hy153
 obtain rfl := Option.some.inj H
 go_enter Try.func61, Try.ntmps61
 go_wp2_with (first | ((with_reducible refine gate_dst (N := 8) rfl ?_); refine Kd.R_lit (Kd.int .u8) _ 5 ?hg (N := 8) ?hd (xs := ([(a0 / 256) % 256, (a0) % 256] : List Int)) (inner := [.int .u8 ((a0 / 256) % 256), .int .u8 ((a0) % 256)]) (ok := fun _ => True) (okp := fun _ => True) ?hr ?hp (fun _ hk => hk) trivial (Below.refl _ _) (Nat.le_refl _) (by simp) ?_; (case hd => rfl); (case hg => rfl); (case hr => first | (go_simp; done) | (go_simp; rfl)); (case hp => exact (Reps.one (show Kd.M (Kd.int .u8) _ _ _ ((a0 / 256) % 256) [.int .u8 ((a0 / 256) % 256)] from rfl) (Reps.one (show Kd.M (Kd.int .u8) _ _ _ ((a0) % 256) [.int .u8 ((a0) % 256)] from rfl) (Reps.none _ _)))); intro v154 w2 ho3 hb hg_ hnew_; clear hg_ hnew_; (first | rw [← Ny153.out] at ho3 | (simp only [Int.reduceToNat] at ho3; rw [← Ny153.out] at ho3)); have n0_ := Aside0.mk (Kd.R_lower ho3 (below_size (by repeat (first | (with_reducible first | exact HB.out | apply below_alloc | apply pw_below_drewN | apply below_drew1) | exact HB.out)))); have n1_ := Aside0.mk (below_step (by repeat (first | (with_reducible first | exact HB.out | apply below_alloc | apply pw_below_drewN | apply below_drew1) | exact HB.out)) hb); clear HB; have HO155 := n0_; have HB := n1_; clear n0_ n1_; clear hb ho3; have hcv4 := own_string (P := Try.prog) Try.underlying49 Try.underlying5 Try.underlying9 (Kd.own_of_R HO155.out)))
 go_ret
 exact ⟨by first | rfl | (simp [errW_none, errW_some] <;> rfl) | (simp [*, errW_none, errW_some] <;> rfl), by repeat (first | (with_reducible first | exact HB.out | apply below_alloc | apply pw_below_drewN | apply below_drew1) | exact HB.out)⟩
end Go.Proofs.Ytpmkibggmkibeaa.G
namespace Go.Proofs.Ytpmkibggmkibeaa.G
open Go.RowKit Go.Proofs.YtpmkibggmkibeaaW.PrintWords Go.Proofs.YtpmkibggmkibeaaW.PrintLast Go.Proofs.YtpmkibggmkibeaaW.PrintMore
attribute [local go_sem] max2_int min2_int max_two min_two max_three min_three max_four min_four   -- for this text's walks alone
set_option linter.unusedVariables false
set_option linter.unusedSimpArgs false
def subchannel_check.f (a0 : ByteArray) : Option (ByteArray) := (checksum_CRC16.f a0).bind fun t157 => ((checksum_CRCBytes.f (Go.bits .xor .u16 (-1) t157)).bind fun t158 => (some t158))
set_option maxHeartbeats 8000000 in
set_option maxRecDepth 100000 in
theorem subchannel_check.calls (a0 : ByteArray) (r : ByteArray) (w : World) (h : subchannel_check.f a0 = some r) :
 Calls Try.prog 43 #[.string a0] w fun e w' => e = .returned (.string r) ∧ Below w.heap.size w w' := by
 have HB := Aside0.mk (Below.refl w.heap.size w)
 have H : ((checksum_CRC16.f a0).bind fun t157 => ((checksum_CRCBytes.f (Go.bits .xor .u16 (-1) t157)).bind fun t158 => (some t158))) = some r := h
 clear h
 replace H := Option.bind_eq_some_iff.mp H
 obtain ⟨t157, A20, H⟩ := H
 replace H : ((checksum_CRCBytes.f (Go.bits .xor .u16 (-1) t157)).bind fun t158 => (some t158)) = some r := H
 have A2 := Aside0.mk A20
 clear A20
 replace H := Option.bind_eq_some_iff.mp H
 obtain ⟨t158, A30, H⟩ := H
 replace H : (some t158) = some r := H
 have A3 := Aside0.mk A30
 clear A30
 obtain rfl := Option.some.inj H
 go_enter Try.func43, Try.ntmps43
 go_wp2_with (first | ((with_reducible refine gate_callee (f := 62) rfl ?_); refine goesL_ (some 4) rfl rfl Try.func62 (by kernel_rfl) rfl #[.string a0] rfl (by (try simp only [List.map_toArray, List.map_cons, List.map_nil]); first | done | rfl | (simp only [List.length_drop, List.length_take]; rfl)) ?_; (with_reducible refine (checksum_CRC16.calls a0 t157 _ A2.out).mono ?_); rintro e w4 ⟨rfl, hb⟩; refine ⟨_, rfl, ?_⟩; have n0_ := Aside0.mk (below_step (by repeat (first | (with_reducible first | exact HB.out | apply below_alloc | apply pw_below_drewN | apply below_drew1) | exact HB.out)) hb); clear HB; have HB := n0_; clear n0_; (try clear hb); (try clear hb2); (try clear hk); (try clear hi)) | ((with_reducible refine gate_callee (f := 61) rfl ?_); refine goesL_ (some 6) rfl rfl Try.func61 (by kernel_rfl) rfl #[.int .u16 (Go.bits .xor .u16 (-1) t157)] rfl (by (try simp only [List.map_toArray, List.map_cons, List.map_nil]); first | done | rfl | (simp only [List.length_drop, List.length_take]; rfl)) ?_; (with_reducible refine (checksum_CRCBytes.calls (Go.bits .xor .u16 (-1) t157) t158 _ A3.out).mono ?_); rintro e w5 ⟨rfl, hb⟩; refine ⟨_, rfl, ?_⟩; have n0_ := Aside0.mk (below_step (by repeat (first | (with_reducible first | exact HB.out | apply below_alloc | apply pw_below_drewN | apply below_drew1) | exact HB.out)) hb); clear HB; have HB := n0_; clear n0_; (try clear hb); (try clear hb2); (try clear hk); (try clear hi)))
 go_ret
 exact ⟨by first | rfl | (simp [errW_none, errW_some] <;> rfl) | (simp [*, errW_none, errW_some] <;> rfl), by repeat (first | (with_reducible first | exact HB.out | apply below_alloc | apply pw_below_drewN | apply below_drew1) | exact HB.out)⟩
end Go.Proofs.Ytpmkibggmkibeaa.G
namespace Go.Proofs.Ytpmkibggmkibeaa.G
open Go.RowKit Go.Proofs.YtpmkibggmkibeaaW.PrintWords Go.Proofs.YtpmkibggmkibeaaW.PrintLast Go.Proofs.YtpmkibggmkibeaaW.PrintMore
attribute [local go_sem] max2_int min2_int max_two min_two max_three min_three max_four min_four   -- for this text's walks alone
set_option linter.unusedVariables false
set_option linter.unusedSimpArgs false
def subchannel_valid.f (a0_0 : Int) (a0_1 : Int) (a0_2 : Int) (a0_3 : Int) (a0_4 : Int) (a0_5 : Int) (a0_6 : Int) (a0_7 : Int) (a0_8 : Int) : Option (Bool) := (subchannel_between.f a0_0 0 15).bind fun t139 => (if t139 = true then ((subchannel_between.f a0_1 0 99).bind fun t140 => (if t140 = true then ((subchannel_between.f a0_2 0 99).bind fun t141 => (if t141 = true then ((address_Valid.f a0_3 a0_4 a0_5).bind fun t142 => (if t142 = true then ((address_Valid.f a0_6 a0_7 a0_8).bind fun t143 => (some t143)) else (some false))) else ((subchannel_between.f a0_2 160 162).bind fun t144 => (if t144 = true then ((address_Valid.f a0_3 a0_4 a0_5).bind fun t145 => (if t145 = true then ((address_Valid.f a0_6 a0_7 a0_8).bind fun t146 => (some t146)) else (some false))) else (some false))))) else (if a0_1 = 170 then ((subchannel_between.f a0_2 0 99).bind fun t147 => (if t147 = true then ((address_Valid.f a0_3 a0_4 a0_5).bind fun t148 => (if t148 = true then ((address_Valid.f a0_6 a0_7 a0_8).bind fun t149 => (some t149)) else (some false))) else ((subchannel_between.f a0_2 160 162).bind fun t150 => (if t150 = true then ((address_Valid.f a0_3 a0_4 a0_5).bind fun t151 => (if t151 = true then ((address_Valid.f a0_6 a0_7 a0_8).bind fun t152 => (some t152)) else (some false))) else (some false))))) else (some false)))) else (some false))
set_option maxHeartbeats 8000000 in
set_option maxRecDepth 100000 in
theorem subchannel_valid.calls (a0_0 : Int) (a0_1 : Int) (a0_2 : Int) (a0_3 : Int) (a0_4 : Int) (a0_5 : Int) (a0_6 : Int) (a0_7 : Int) (a0_8 : Int) (r : Bool) (w : World) (h : subchannel_valid.f a0_0 a0_1 a0_2 a0_3 a0_4 a0_5 a0_6 a0_7 a0_8 = some r) :
 Calls Try.prog 39 #[.agg #[.int .i64 a0_0, .int .i64 a0_1, .int .i64 a0_2, .int .i64 a0_3, .int .i64 a0_4, .int .i64 a0_5, .int .i64 a0_6, .int .i64 a0_7, .int .i64 a0_8]] w fun e w' => e = .returned (.bool r) ∧ Below w.heap.size w w' := by
 have hu27 := Try.underlying27
 have hu25 := Try.underlying25
 have HB := Aside0.mk (Below.refl w.heap.size w)
 have H : ((subchannel_between.f a0_0 0 15).bind fun t139 => (if t139 = true then ((subchannel_between.f a0_1 0 99).bind fun t140 => (if t140 = true then ((subchannel_between.f a0_2 0 99).bind fun t141 => (if t141 = true then ((address_Valid.f a0_3 a0_4 a0_5).bind fun t142 => (if t142 = true then ((address_Valid.f a0_6 a0_7 a0_8).bind fun t143 => (some t143)) else (some false))) else ((subchannel_between.f a0_2 160 162).bind fun t144 => (if t144 = true then ((address_Valid.f a0_3 a0_4 a0_5).bind fun t145 => (if t145 = true then ((address_Valid.f a0_6 a0_7 a0_8).bind fun t146 => (some t146)) else (some false))) else (some false))))) else (if a0_1 = 170 then ((subchannel_between.f a0_2 0 99).bind fun t147 => (if t147 = true then ((address_Valid.f a0_3 a0_4 a0_5).bind fun t148 => (if t148 = true then ((address_Valid.f a0_6 a0_7 a0_8).bind fun t149 => (some t149)) else (some false))) else ((subchannel_between.f a0_2 160 162).bind fun t150 => (if t150 = true then ((address_Valid.f a0_3 a0_4 a0_5).bind fun t151 => (if t151 = true then ((address_Valid.f a0_6 a0_7 a0_8).bind fun t152 => (some t152)) else (some false))) else (some false))))) else (some false)))) else (some false))) = some r := h
 clear h
 replace H := Option.bind_eq_some_iff.mp H
 obtain ⟨t139, A20, H⟩ := H
 replace H : (if t139 = true then ((subchannel_between.f a0_1 0 99).bind fun t140 => (if t140 = true then ((subchannel_between.f a0_2 0 99).bind fun t141 => (if t141 = true then ((address_Valid.f a0_3 a0_4 a0_5).bind fun t142 => (if t142 = true then ((address_Valid.f a0_6 a0_7 a0_8).bind fun t143 => (some t143)) else (some false))) else ((subchannel_between.f a0_2 160 162).bind fun t144 => (if t144 = true then ((address_Valid.f a0_3 a0_4 a0_5).bind fun t145 => (if t145 = true then ((address_Valid.f a0_6 a0_7 a0_8).bind fun t146 => (some t146)) else (some false))) else (some false))))) else (if a0_1 = 170 then ((subchannel_between.f a0_2 0 99).bind fun t147 => (if t147 = true then ((address_Valid.f a0_3 a0_4 a0_5).bind fun t148 => (if t148 = true then ((address_Valid.f a0_6 a0_7 a0_8).bind fun t149 => (some t149)) else (some false))) else ((subchannel_between.f a0_2 160 162).bind fun t150 => (if t150 = true then ((address_Valid.f a0_3 a0_4 a0_5).bind fun t151 => (if t151 = true then ((address_Valid.f a0_6 a0_7 a0_8).bind fun t152 => (some t152)) else (some false))) else (some false))))) else (some false)))) else (some false)) = some r := H
 have A2 := Aside0.mk A20
 clear A20
 by_cases c3 : t139 = true
 · subst c3
   have H1 : ((subchannel_between.f a0_1 0 99).bind fun t140 => (if t140 = true then ((subchannel_between.f a0_2 0 99).bind fun t141 => (if t141 = true then ((address_Valid.f a0_3 a0_4 a0_5).bind fun t142 => (if t142 = true then ((address_Valid.f a0_6 a0_7 a0_8).bind fun t143 => (some t143)) else (some false))) else ((subchannel_between.f a0_2 160 162).bind fun t144 => (if t144 = true then ((address_Valid.f a0_3 a0_4 a0_5).bind fun t145 => (if t145 = true then ((address_Valid.f a0_6 a0_7 a0_8).bind fun t146 => (some t146)) else (some false))) else (some false))))) else (if a0_1 = 170 then ((subchannel_between.f a0_2 0 99).bind fun t147 => (if t147 = true then ((address_Valid.f a0_3 a0_4 a0_5).bind fun t148 => (if t148 = true then ((address_Valid.f a0_6 a0_7 a0_8).bind fun t149 => (some t149)) else (some false))) else ((subchannel_between.f a0_2 160 162).bind fun t150 => (if t150 = true then ((address_Valid.f a0_3 a0_4 a0_5).bind fun t151 => (if t151 = true then ((address_Valid.f a0_6 a0_7 a0_8).bind fun t152 => (some t152)) else (some false))) else (some false))))) else (some false)))) = some r := by rw [if_pos rfl] at H; exact H
   clear H
   have H := H1
   clear H1
   replace H := Option.bind_eq_some_iff.mp H
   obtain ⟨t140, A40, H⟩ := H
   replace H : (if t140 = true then ((subchannel_between.f a0_2 0 99).bind fun t141 => (if t141 = true then ((address_Valid.f a0_3 a0_4 a0_5).bind fun t142 => (if t142 = true then ((address_Valid.f a0_6 a0_7 a0_8).bind fun t143 => (some t143)) else (some false))) else ((subchannel_between.f a0_2 160 162).bind fun t144 => (if t144 = true then ((address_Valid.f a0_3 a0_4 a0_5).bind fun t145 => (if t145 = true then ((address_Valid.f a0_6 a0_7 a0_8).bind fun t146 => (some t146)) else (some false))) else (some false))))) else (if a0_1 = 170 then ((subchannel_between.f a0_2 0 99).bind fun t147 => (if t147 = true then ((address_Valid.f a0_3 a0_4 a0_5).bind fun t148 => (if t148 = true then ((address_Valid.f a0_6 a0_7 a0_8).bind fun t149 => (some t149)) else (some false))) else ((subchannel_between.f a0_2 160 162).bind fun t150 => (if t150 = true then ((address_Valid.f a0_3 a0_4 a0_5).bind fun t151 => (if t151 = true then ((address_Valid.f a0_6 a0_7 a0_8).bind fun t152 => (some t152)) else (some false))) else (some false))))) else (some false))) = some r := H
   have A4 := Aside0.mk A40
   clear A40
   by_cases c5 : t140 = true
   · subst c5
     have H1 : ((subchannel_between.f a0_2 0 99).bind fun t141 => (if t141 = true then ((address_Valid.f a0_3 a0_4 a0_5).bind fun t142 => (if t142 = true then ((address_Valid.f a0_6 a0_7 a0_8).bind fun t143 => (some t143)) else (some false))) else ((subchannel_between.f a0_2 160 162).bind fun t144 => (if t144 = true then ((address_Valid.f a0_3 a0_4 a0_5).bind fun t145 => (if t145 = true then ((address_Valid.f a0_6 a0_7 a0_8).bind fun t146 => (some t146)) else (some false))) else (some false))))) = some r := by rw [if_pos rfl] at H; exact H
     clear H
     have H := H1
     clear H1
     replace H := Option.bind_eq_some_iff.mp H
     obtain ⟨t141, A60, H⟩ := H
     replace H : (if t141 = true then ((address_Valid.f a0_3 a0_4 a0_5).bind fun t142 => (if t142 = true then ((address_Valid.f a0_6 a0_7 a0_8).bind fun t143 => (some t143)) else (some false))) else ((subchannel_between.f a0_2 160 162).bind fun t144 => (if t144 = true then ((address_Valid.f a0_3 a0_4 a0_5).bind fun t145 => (if t145 = true then ((address_Valid.f a0_6 a0_7 a0_8).bind fun t146 => (some t146)) else (some false))) else (some false)))) = some r := H
     have A6 := Aside0.mk A60
     clear A60
     by_cases c7 : t141 = true
     · subst c7
       have H1 : ((address_Valid.f a0_3 a0_4 a0_5).bind fun t142 => (if t142 = true then ((address_Valid.f a0_6 a0_7 a0_8).bind fun t143 => (some t143)) else (some false))) = some r := by rw [if_pos rfl] at H; exact H
       clear H
       have H := H1
       clear H1
       replace H := Option.bind_eq_some_iff.mp H
       obtain ⟨t142, A80, H⟩ := H
       replace H : (if t142 = true then ((address_Valid.f a0_6 a0_7 a0_8).bind fun t143 => (some t143)) else (some false)) = some r := H
       have A8 := Aside0.mk A80
       clear A80
       by_cases c9 : t142 = true
       · subst c9
         have H1 : ((address_Valid.f a0_6 a0_7 a0_8).bind fun t143 => (some t143)) = some r := by rw [if_pos rfl] at H; exact H
         clear H
         have H := H1
         clear H1
         replace H := Option.bind_eq_some_iff.mp H
         obtain ⟨t143, A100, H⟩ := H
         replace H : (some t143) = some r := H
         have A10 := Aside0.mk A100
         clear A100
         obtain rfl := Option.some.inj H
         go_enter Try.func39, Try.ntmps39
         go_wp2_with (first | ((with_reducible refine gate_dst (N := 1) rfl ?_); refine box_event ?hg (N := 1) ?hd (cs := #[.int .i64 a0_0, .int .i64 a0_1, .int .i64 a0_2, .int .i64 a0_3, .int .i64 a0_4, .int .i64 a0_5, .int .i64 a0_6, .int .i64 a0_7, .int .i64 a0_8]) (t := 27) ?hr ?_; (case hd => rfl); (case hg => rfl); (case hr => first | (go_simp; done) | (go_simp; rfl)); intro gb138 hg w11 hbox hb; have n0_ := Aside0.mk (below_step (by repeat (first | (with_reducible first | exact HB.out | apply below_alloc | apply pw_below_drewN | apply below_drew1) | exact HB.out)) hb); have n1_ := Aside0.mk (hbox); have n2_ := Aside0.mk ((by rw [hg]; exact (below_size (by repeat (first | (with_reducible first | exact HB.out | apply below_alloc | apply pw_below_drewN | apply below_drew1) | exact HB.out))) : w.heap.size ≤ gb138)); have n3_ := Aside0.mk ((by rw [hg]; exact (below_size (by repeat (first | (with_reducible first | exact HB.out | apply below_alloc | apply pw_below_drewN | apply below_drew1) | exact HB.out))) : w.heap.size ≤ gb138)); clear HB; have HB := n0_; have BK138 := n1_; have GW138 := n2_; have GE138 := n3_; clear n0_ n1_ n2_ n3_; clear hb hbox hg; have hcz12_0 : w11.cell? ⟨gb138, 0, none⟩ = some (.int .i64 a0_0) := (blk_cell BK138.out 0).trans rfl; have hcz12_1 : w11.cell? ⟨gb138, 1, none⟩ = some (.int .i64 a0_1) := (blk_cell BK138.out 1).trans rfl; have hcz12_2 : w11.cell? ⟨gb138, 2, none⟩ = some (.int .i64 a0_2) := (blk_cell BK138.out 2).trans rfl; have hcz12_3 : w11.cell? ⟨gb138, 3, none⟩ = some (.int .i64 a0_3) := (blk_cell BK138.out 3).trans rfl; have hcz12_4 : w11.cell? ⟨gb138, 4, none⟩ = some (.int .i64 a0_4) := (blk_cell BK138.out 4).trans rfl; have hcz12_5 : w11.cell? ⟨gb138, 5, none⟩ = some (.int .i64 a0_5) := (blk_cell BK138.out 5).trans rfl; have hcz12_6 : w11.cell? ⟨gb138, 6, none⟩ = some (.int .i64 a0_6) := (blk_cell BK138.out 6).trans rfl; have hcz12_7 : w11.cell? ⟨gb138, 7, none⟩ = some (.int .i64 a0_7) := (blk_cell BK138.out 7).trans rfl; have hcz12_8 : w11.cell? ⟨gb138, 8, none⟩ = some (.int .i64 a0_8) := (blk_cell BK138.out 8).trans rfl; have hfz12_0 := blk_frozen BK138.out 0; have hfz12_1 := blk_frozen BK138.out 1; have hfz12_2 := blk_frozen BK138.out 2; have hfz12_3 := blk_frozen BK138.out 3; have hfz12_4 := blk_frozen BK138.out 4; have hfz12_5 := blk_frozen BK138.out 5; have hfz12_6 := blk_frozen BK138.out 6; have hfz12_7 := blk_frozen BK138.out 7; have hfz12_8 := blk_frozen BK138.out 8) | ((with_reducible refine gate_callee (f := 26) rfl ?_); refine goesL_ (some 5) rfl rfl Try.func26 (by kernel_rfl) rfl #[.int .i64 a0_0, .int .i64 0, .int .i64 15] rfl (by (try simp only [List.map_toArray, List.map_cons, List.map_nil]); first | done | rfl | (simp only [List.length_drop, List.length_take]; rfl)) ?_; (with_reducible refine (subchannel_between.calls a0_0 0 15 true _ A2.out).mono ?_); rintro e w' ⟨rfl, ⟨nd, rfl⟩⟩; refine ⟨_, rfl, ?_⟩) | (go_at_call 26; (with_reducible refine (subchannel_between.calls a0_1 0 99 true _ A4.out).mono ?_); rintro e w' ⟨rfl, ⟨nd, rfl⟩⟩) | (go_at_call 26; (with_reducible refine (subchannel_between.calls a0_2 0 99 true _ A6.out).mono ?_); rintro e w' ⟨rfl, ⟨nd, rfl⟩⟩) | (go_at_call 37; (with_reducible refine (address_Valid.calls a0_3 a0_4 a0_5 true _ A8.out).mono ?_); rintro e w13 ⟨rfl, hb⟩; have n0_ := Aside0.mk (blk_below (g := gb138) (o := .cells #[.int .i64 a0_0, .int .i64 a0_1, .int .i64 a0_2, .int .i64 a0_3, .int .i64 a0_4, .int .i64 a0_5, .int .i64 a0_6, .int .i64 a0_7, .int .i64 a0_8] 27 (0, 0)) (by (with_reducible repeat (first | refine blk_drewN ?_ _ | refine blk_drew ?_ | refine blk_alloc ?_ _)); exact BK138.out) hb); have n1_ := Aside0.mk (below_step (by repeat (first | (with_reducible first | exact HB.out | apply below_alloc | apply pw_below_drewN | apply below_drew1 | refine below_set ?_ GE138.out) | exact HB.out)) hb); clear BK138; clear HB; have BK138 := n0_; have HB := n1_; clear n0_ n1_; (try clear hb); (try clear hb2); (try clear hk); (try clear hi); have hcz14_0 : w13.cell? ⟨gb138, 0, none⟩ = some (.int .i64 a0_0) := (blk_cell BK138.out 0).trans rfl; have hcz14_1 : w13.cell? ⟨gb138, 1, none⟩ = some (.int .i64 a0_1) := (blk_cell BK138.out 1).trans rfl; have hcz14_2 : w13.cell? ⟨gb138, 2, none⟩ = some (.int .i64 a0_2) := (blk_cell BK138.out 2).trans rfl; have hcz14_3 : w13.cell? ⟨gb138, 3, none⟩ = some (.int .i64 a0_3) := (blk_cell BK138.out 3).trans rfl; have hcz14_4 : w13.cell? ⟨gb138, 4, none⟩ = some (.int .i64 a0_4) := (blk_cell BK138.out 4).trans rfl; have hcz14_5 : w13.cell? ⟨gb138, 5, none⟩ = some (.int .i64 a0_5) := (blk_cell BK138.out 5).trans rfl; have hcz14_6 : w13.cell? ⟨gb138, 6, none⟩ = some (.int .i64 a0_6) := (blk_cell BK138.out 6).trans rfl; have hcz14_7 : w13.cell? ⟨gb138, 7, none⟩ = some (.int .i64 a0_7) := (blk_cell BK138.out 7).trans rfl; have hcz14_8 : w13.cell? ⟨gb138, 8, none⟩ = some (.int .i64 a0_8) := (blk_cell BK138.out 8).trans rfl; have hfz14_0 := blk_frozen BK138.out 0; have hfz14_1 := blk_frozen BK138.out 1; have hfz14_2 := blk_frozen BK138.out 2; have hfz14_3 := blk_frozen BK138.out 3; have hfz14_4 := blk_frozen BK138.out 4; have hfz14_5 := blk_frozen BK138.out 5; have hfz14_6 := blk_frozen BK138.out 6; have hfz14_7 := blk_frozen BK138.out 7; have hfz14_8 := blk_frozen BK138.out 8) | (go_at_call 37; (with_reducible refine (address_Valid.calls a0_6 a0_7 a0_8 t143 _ A10.out).mono ?_); rintro e w15 ⟨rfl, hb⟩; have n0_ := Aside0.mk (blk_below (g := gb138) (o := .cells #[.int .i64 a0_0, .int .i64 a0_1, .int .i64 a0_2, .int .i64 a0_3, .int .i64 a0_4, .int .i64 a0_5, .int .i64 a0_6, .int .i64 a0_7, .int .i64 a0_8] 27 (0, 0)) (by (with_reducible repeat (first | refine blk_drewN ?_ _ | refine blk_drew ?_ | refine blk_alloc ?_ _)); exact BK138.out) hb); have n1_ := Aside0.mk (below_step (by repeat (first | (with_reducible first | exact HB.out | apply below_alloc | apply pw_below_drewN | apply below_drew1 | refine below_set ?_ GE138.out) | exact HB.out)) hb); clear BK138; clear HB; have BK138 := n0_; have HB := n1_; clear n0_ n1_; (try clear hb); (try clear hb2); (try clear hk); (try clear hi)))
         go_ret
         exact ⟨by first | rfl | (simp [errW_none, errW_some] <;> rfl) | (simp [*, errW_none, errW_some] <;> rfl), by repeat (first | (with_reducible first | exact HB.out | apply below_alloc | apply pw_below_drewN | apply below_drew1 | refine below_set ?_ GE138.out) | exact HB.out)⟩
       · replace c9 := Bool.eq_false_iff.mpr c9
         subst c9
         have H1 : (some false) = some r := by rw [if_neg (show ¬ (false = true) by decide)] at H; exact H
         clear H
         have H := H1
         clear H1
         obtain rfl := Option.some.inj H
         go_enter Try.func39, Try.ntmps39
         go_wp2_with (first | ((with_reducible refine gate_dst (N := 1) rfl ?_); refine box_event ?hg (N := 1) ?hd (cs := #[.int .i64 a0_0, .int .i64 a0_1, .int .i64 a0_2, .int .i64 a0_3, .int .i64 a0_4, .int .i64 a0_5, .int .i64 a0_6, .int .i64 a0_7, .int .i64 a0_8]) (t := 27) ?hr ?_; (case hd => rfl); (case hg => rfl); (case hr => first | (go_simp; done) | (go_simp; rfl)); intro gb138 hg w16 hbox hb; have n0_ := Aside0.mk (below_step (by repeat (first | (with_reducible first | exact HB.out | apply below_alloc | apply pw_below_drewN | apply below_drew1) | exact HB.out)) hb); have n1_ := Aside0.mk (hbox); have n2_ := Aside0.mk ((by rw [hg]; exact (below_size (by repeat (first | (with_reducible first | exact HB.out | apply below_alloc | apply pw_below_drewN | apply below_drew1) | exact HB.out))) : w.heap.size ≤ gb138)); have n3_ := Aside0.mk ((by rw [hg]; exact (below_size (by repeat (first | (with_reducible first | exact HB.out | apply below_alloc | apply pw_below_drewN | apply below_drew1) | exact HB.out))) : w.heap.size ≤ gb138)); clear HB; have HB := n0_; have BK138 := n1_; have GW138 := n2_; have GE138 := n3_; clear n0_ n1_ n2_ n3_; clear hb hbox hg; have hcz17_0 : w16.cell? ⟨gb138, 0, none⟩ = some (.int .i64 a0_0) := (blk_cell BK138.out 0).trans rfl; have hcz17_1 : w16.cell? ⟨gb138, 1, none⟩ = some (.int .i64 a0_1) := (blk_cell BK138.out 1).trans rfl; have hcz17_2 : w16.cell? ⟨gb138, 2, none⟩ = some (.int .i64 a0_2) := (blk_cell BK138.out 2).trans rfl; have hcz17_3 : w16.cell? ⟨gb138, 3, none⟩ = some (.int .i64 a0_3) := (blk_cell BK138.out 3).trans rfl; have hcz17_4 : w16.cell? ⟨gb138, 4, none⟩ = some (.int .i64 a0_4) := (blk_cell BK138.out 4).trans rfl; have hcz17_5 : w16.cell? ⟨gb138, 5, none⟩ = some (.int .i64 a0_5) := (blk_cell BK138.out 5).trans rfl; have hcz17_6 : w16.cell? ⟨gb138, 6, none⟩ = some (.int .i64 a0_6) := (blk_cell BK138.out 6).trans rfl; have hcz17_7 : w16.cell? ⟨gb138, 7, none⟩ = some (.int .i64 a0_7) := (blk_cell BK138.out 7).trans rfl; have hcz17_8 : w16.cell? ⟨gb138, 8, none⟩ = some (.int .i64 a0_8) := (blk_cell BK138.out 8).trans rfl; have hfz17_0 := blk_frozen BK138.out 0; have hfz17_1 := blk_frozen BK138.out 1; have hfz17_2 := blk_frozen BK138.out 2; have hfz17_3 := blk_frozen BK138.out 3; have hfz17_4 := blk_frozen BK138.out 4; have hfz17_5 := blk_frozen BK138.out 5; have hfz17_6 := blk_frozen BK138.out 6; have hfz17_7 := blk_frozen BK138.out 7; have hfz17_8 := blk_frozen BK138.out 8) | ((with_reducible refine gate_callee (f := 26) rfl ?_); refine goesL_ (some 5) rfl rfl Try.func26 (by kernel_rfl) rfl #[.int .i64 a0_0, .int .i64 0, .int .i64 15] rfl (by (try simp only [List.map_toArray, List.map_cons, List.map_nil]); first | done | rfl | (simp only [List.length_drop, List.length_take]; rfl)) ?_; (with_reducible refine (subchannel_between.calls a0_0 0 15 true _ A2.out).mono ?_); rintro e w' ⟨rfl, ⟨nd, rfl⟩⟩; refine ⟨_, rfl, ?_⟩) | (go_at_call 26; (with_reducible refine (subchannel_between.calls a0_1 0 99 true _ A4.out).mono ?_); rintro e w' ⟨rfl, ⟨nd, rfl⟩⟩) | (go_at_call 26; (with_reducible refine (subchannel_between.calls a0_2 0 99 true _ A6.out).mono ?_); rintro e w' ⟨rfl, ⟨nd, rfl⟩⟩) | (go_at_call 37; (with_reducible refine (address_Valid.calls a0_3 a0_4 a0_5 false _ A8.out).mono ?_); rintro e w18 ⟨rfl, hb⟩; have n0_ := Aside0.mk (blk_below (g := gb138) (o := .cells #[.int .i64 a0_0, .int .i64 a0_1, .int .i64 a0_2, .int .i64 a0_3, .int .i64 a0_4, .int .i64 a0_5, .int .i64 a0_6, .int .i64 a0_7, .int .i64 a0_8] 27 (0, 0)) (by (with_reducible repeat (first | refine blk_drewN ?_ _ | refine blk_drew ?_ | refine blk_alloc ?_ _)); exact BK138.out) hb); have n1_ := Aside0.mk (below_step (by repeat (first | (with_reducible first | exact HB.out | apply below_alloc | apply pw_below_drewN | apply below_drew1 | refine below_set ?_ GE138.out) | exact HB.out)) hb); clear BK138; clear HB; have BK138 := n0_; have HB := n1_; clear n0_ n1_; (try clear hb); (try clear hb2); (try clear hk); (try clear hi)))
         go_ret
         exact ⟨by first | rfl | (simp [errW_none, errW_some] <;> rfl) | (simp [*, errW_none, errW_some] <;> rfl), by repeat (first | (with_reducible first | exact HB.out | apply below_alloc | apply pw_below_drewN | apply below_drew1 | refine below_set ?_ GE138.out) | exact HB.out)⟩
     · replace c7 := Bool.eq_false_iff.mpr c7
       subst c7
       have H1 : ((subchannel_between.f a0_2 160 162).bind fun t144 => (if t144 = true then ((address_Valid.f a0_3 a0_4 a0_5).bind fun t145 => (if t145 = true then ((address_Valid.f a0_6 a0_7 a0_8).bind fun t146 => (some t146)) else (some false))) else (some false))) = some r := by rw [if_neg (show ¬ (false = true) by decide)] at H; exact H
       clear H
       have H := H1
       clear H1
       replace H := Option.bind_eq_some_iff.mp H
       obtain ⟨t144, A190, H⟩ := H
       replace H : (if t144 = true then ((address_Valid.f a0_3 a0_4 a0_5).bind fun t145 => (if t145 = true then ((address_Valid.f a0_6 a0_7 a0_8).bind fun t146 => (some t146)) else (some false))) else (some false)) = some r := H
       have A19 := Aside0.mk A190
       clear A190
       by_cases c20 : t144 = true
       · subst c20
         have H1 : ((address_Valid.f a0_3 a0_4 a0_5).bind fun t145 => (if t145 = true then ((address_Valid.f a0_6 a0_7 a0_8).bind fun t146 => (some t146)) else (some false))) = some r := by rw [if_pos rfl] at H; exact H
         clear H
         have H := H1
         clear H1
         replace H := Option.bind_eq_some_iff.mp H
         obtain ⟨t145, A210, H⟩ := H
         replace H : (if t145 = true then ((address_Valid.f a0_6 a0_7 a0_8).bind fun t146 => (some t146)) else (some false)) = some r := H
         have A21 := Aside0.mk A210
         clear A210
         by_cases c22 : t145 = true
         · subst c22
           have H1 : ((address_Valid.f a0_6 a0_7 a0_8).bind fun t146 => (some t146)) = some r := by rw [if_pos rfl] at H; exact H
           clear H
           have H := H1
           clear H1
           replace H := Option.bind_eq_some_iff.mp H
           obtain ⟨t146, A230, H⟩ := H
           replace H : (some t146) = some r := H
           have A23 := Aside0.mk A230
           clear A230
           obtain rfl := Option.some.inj H
           go_enter Try.func39, Try.ntmps39
           go_wp2_with (first | ((with_reducible refine gate_dst (N := 1) rfl ?_); refine box_event ?hg (N := 1) ?hd (cs := #[.int .i64 a0_0, .int .i64 a0_1, .int .i64 a0_2, .int .i64 a0_3, .int .i64 a0_4, .int .i64 a0_5, .int .i64 a0_6, .int .i64 a0_7, .int .i64 a0_8]) (t := 27) ?hr ?_; (case hd => rfl); (case hg => rfl); (case hr => first | (go_simp; done) | (go_simp; rfl)); intro gb138 hg w24 hbox hb; have n0_ := Aside0.mk (below_step (by repeat (first | (with_reducible first | exact HB.out | apply below_alloc | apply pw_below_drewN | apply below_drew1) | exact HB.out)) hb); have n1_ := Aside0.mk (hbox); have n2_ := Aside0.mk ((by rw [hg]; exact (below_size (by repeat (first | (with_reducible first | exact HB.out | apply below_alloc | apply pw_below_drewN | apply below_drew1) | exact HB.out))) : w.heap.size ≤ gb138)); have n3_ := Aside0.mk ((by rw [hg]; exact (below_size (by repeat (first | (with_reducible first | exact HB.out | apply below_alloc | apply pw_below_drewN | apply below_drew1) | exact HB.out))) : w.heap.size ≤ gb138)); clear HB; have HB := n0_; have BK138 := n1_; have GW138 := n2_; have GE138 := n3_; clear n0_ n1_ n2_ n3_; clear hb hbox hg; have hcz25_0 : w24.cell? ⟨gb138, 0, none⟩ = some (.int .i64 a0_0) := (blk_cell BK138.out 0).trans rfl; have hcz25_1 : w24.cell? ⟨gb138, 1, none⟩ = some (.int .i64 a0_1) := (blk_cell BK138.out 1).trans rfl; have hcz25_2 : w24.cell? ⟨gb138, 2, none⟩ = some (.int .i64 a0_2) := (blk_cell BK138.out 2).trans rfl; have hcz25_3 : w24.cell? ⟨gb138, 3, none⟩ = some (.int .i64 a0_3) := (blk_cell BK138.out 3).trans rfl; have hcz25_4 : w24.cell? ⟨gb138, 4, none⟩ = some (.int .i64 a0_4) := (blk_cell BK138.out 4).trans rfl; have hcz25_5 : w24.cell? ⟨gb138, 5, none⟩ = some (.int .i64 a0_5) := (blk_cell BK138.out 5).trans rfl; have hcz25_6 : w24.cell? ⟨gb138, 6, none⟩ = some (.int .i64 a0_6) := (blk_cell BK138.out 6).trans rfl; have hcz25_7 : w24.cell? ⟨gb138, 7, none⟩ = some (.int .i64 a0_7) := (blk_cell BK138.out 7).trans rfl; have hcz25_8 : w24.cell? ⟨gb138, 8, none⟩ = some (.int .i64 a0_8) := (blk_cell BK138.out 8).trans rfl; have hfz25_0 := blk_frozen BK138.out 0; have hfz25_1 := blk_frozen BK138.out 1; have hfz25_2 := blk_frozen BK138.out 2; have hfz25_3 := blk_frozen BK138.out 3; have hfz25_4 := blk_frozen BK138.out 4; have hfz25_5 := blk_frozen BK138.out 5; have hfz25_6 := blk_frozen BK138.out 6; have hfz25_7 := blk_frozen BK138.out 7; have hfz25_8 := blk_frozen BK138.out 8) | ((with_reducible refine gate_callee (f := 26) rfl ?_); refine goesL_ (some 5) rfl rfl Try.func26 (by kernel_rfl) rfl #[.int .i64 a0_0, .int .i64 0, .int .i64 15] rfl (by (try simp only [List.map_toArray, List.map_cons, List.map_nil]); first | done | rfl | (simp only [List.length_drop, List.length_take]; rfl)) ?_; (with_reducible refine (subchannel_between.calls a0_0 0 15 true _ A2.out).mono ?_); rintro e w' ⟨rfl, ⟨nd, rfl⟩⟩; refine ⟨_, rfl, ?_⟩) | (go_at_call 26; (with_reducible refine (subchannel_between.calls a0_1 0 99 true _ A4.out).mono ?_); rintro e w' ⟨rfl, ⟨nd, rfl⟩⟩) | (go_at_call 26; (with_reducible refine (subchannel_between.calls a0_2 0 99 false _ A6.out).mono ?_); rintro e w' ⟨rfl, ⟨nd, rfl⟩⟩) | (go_at_call 26; (with_reducible refine (subchannel_between.calls a0_2 160 162 true _ A19.out).mono ?_); rintro e w' ⟨rfl, ⟨nd, rfl⟩⟩) | (go_at_call 37; (with_reducible refine (address_Valid.calls a0_3 a0_4 a0_5 true _ A21.out).mono ?_); rintro e w26 ⟨rfl, hb⟩; have n0_ := Aside0.mk (blk_below (g := gb138) (o := .cells #[.int .i64 a0_0, .int .i64 a0_1, .int .i64 a0_2, .int .i64 a0_3, .int .i64 a0_4, .int .i64 a0_5, .int .i64 a0_6, .int .i64 a0_7, .int .i64 a0_8] 27 (0, 0)) (by (with_reducible repeat (first | refine blk_drewN ?_ _ | refine blk_drew ?_ | refine blk_alloc ?_ _)); exact BK138.out) hb); have n1_ := Aside0.mk (below_step (by repeat (first | (with_reducible first | exact HB.out | apply below_alloc | apply pw_below_drewN | apply below_drew1 | refine below_set ?_ GE138.out) | exact HB.out)) hb); clear BK138; clear HB; have BK138 := n0_; have HB := n1_; clear n0_ n1_; (try clear hb); (try clear hb2); (try clear hk); (try clear hi); have hcz27_0 : w26.cell? ⟨gb138, 0, none⟩ = some (.int .i64 a0_0) := (blk_cell BK138.out 0).trans rfl; have hcz27_1 : w26.cell? ⟨gb138, 1, none⟩ = some (.int .i64 a0_1) := (blk_cell BK138.out 1).trans rfl; have hcz27_2 : w26.cell? ⟨gb138, 2, none⟩ = some (.int .i64 a0_2) := (blk_cell BK138.out 2).trans rfl; have hcz27_3 : w26.cell? ⟨gb138, 3, none⟩ = some (.int .i64 a0_3) := (blk_cell BK138.out 3).trans rfl; have hcz27_4 : w26.cell? ⟨gb138, 4, none⟩ = some (.int .i64 a0_4) := (blk_cell BK138.out 4).trans rfl; have hcz27_5 : w26.cell? ⟨gb138, 5, none⟩ = some (.int .i64 a0_5) := (blk_cell BK138.out 5).trans rfl; have hcz27_6 : w26.cell? ⟨gb138, 6, none⟩ = some (.int .i64 a0_6) := (blk_cell BK138.out 6).trans rfl; have hcz27_7 : w26.cell? ⟨gb138, 7, none⟩ = some (.int .i64 a0_7) := (blk_cell BK138.out 7).trans rfl; have hcz27_8 : w26.cell? ⟨gb138, 8, none⟩ = some (.int .i64 a0_8) := (blk_cell BK138.out 8).trans rfl; have hfz27_0 := blk_frozen BK138.out 0; have hfz27_1 := blk_frozen BK138.out 1; have hfz27_2 := blk_frozen BK138.out 2; have hfz27_3 := blk_frozen BK138.out 3; have hfz27_4 := blk_frozen BK138.out 4; have hfz27_5 := blk_frozen BK138.out 5; have hfz27_6 := blk_frozen BK138.out 6; have hfz27_7 := blk_frozen BK138.out 7; have hfz27_8 := blk_frozen BK138.out 8) | (go_at_call 37; (with_reducible refine (address_Valid.calls a0_6 a0_7 a0_8 t146 _ A23.out).mono ?_); rintro e w28 ⟨rfl, hb⟩; have n0_ := Aside0.mk (blk_below (g := gb138) (o := .cells #[.int .i64 a0_0, .int .i64 a0_1, .int .i64 a0_2, .int .i64 a0_3, .int .i64 a0_4, .int .i64 a0_5, .int .i64 a0_6, .int .i64 a0_7, .int .i64 a0_8] 27 (0, 0)) (by (with_reducible repeat (first | refine blk_drewN ?_ _ | refine blk_drew ?_ | refine blk_alloc ?_ _)); exact BK138.out) hb); have n1_ := Aside0.mk (below_step (by repeat (first | (with_reducible first | exact HB.out | apply below_alloc | apply pw_below_drewN | apply below_drew1 | refine below_set ?_ GE138.out) | exact HB.out)) hb); clear BK138; clear HB; have BK138 := n0_; have HB := n1_; clear n0_ n1_; (try clear hb); (try clear hb2); (try clear hk); (try clear hi)))
           go_ret
           exact ⟨by first | rfl | (simp [errW_none, errW_some] <;> rfl) | (simp [*, errW_none, errW_some] <;> rfl), by repeat (first | (with_reducible first | exact HB.out | apply below_alloc | apply pw_below_drewN | apply below_drew1 | refine below_set ?_ GE138.out) | exact HB.out)⟩
         · replace c22 := Bool.eq_false_iff.mpr c22
           subst c22
           have H1 : (some false) = some r := by rw [if_neg (show ¬ (false = true) by decide)] at H; exact H
           clear H
           have H := H1
           clear H1
           obtain rfl := Option.some.inj H
           go_enter Try.func39, Try.ntmps39
           go_wp2_with (first | ((with_reducible refine gate_dst (N := 1) rfl ?_); refine box_event ?hg (N := 1) ?hd (cs := #[.int .i64 a0_0, .int .i64 a0_1, .int .i64 a0_2, .int .i64 a0_3, .int .i64 a0_4, .int .i64 a0_5, .int .i64 a0_6, .int .i64 a0_7, .int .i64 a0_8]) (t := 27) ?hr ?_; (case hd => rfl); (case hg => rfl); (case hr => first | (go_simp; done) | (go_simp; rfl)); intro gb138 hg w29 hbox hb; have n0_ := Aside0.mk (below_step (by repeat (first | (with_reducible first | exact HB.out | apply below_alloc | apply pw_below_drewN | apply below_drew1) | exact HB.out)) hb); have n1_ := Aside0.mk (hbox); have n2_ := Aside0.mk ((by rw [hg]; exact (below_size (by repeat (first | (with_reducible first | exact HB.out | apply below_alloc | apply pw_below_drewN | apply below_drew1) | exact HB.out))) : w.heap.size ≤ gb138)); have n3_ := Aside0.mk ((by rw [hg]; exact (below_size (by repeat (first | (with_reducible first | exact HB.out | apply below_alloc | apply pw_below_drewN | apply below_drew1) | exact HB.out))) : w.heap.size ≤ gb138)); clear HB; have HB := n0_; have BK138 := n1_; have GW138 := n2_; have GE138 := n3_; clear n0_ n1_ n2_ n3_; clear hb hbox hg; have hcz30_0 : w29.cell? ⟨gb138, 0, none⟩ = some (.int .i64 a0_0) := (blk_cell BK138.out 0).trans rfl; have hcz30_1 : w29.cell? ⟨gb138, 1, none⟩ = some (.int .i64 a0_1) := (blk_cell BK138.out 1).trans rfl; have hcz30_2 : w29.cell? ⟨gb138, 2, none⟩ = some (.int .i64 a0_2) := (blk_cell BK138.out 2).trans rfl; have hcz30_3 : w29.cell? ⟨gb138, 3, none⟩ = some (.int .i64 a0_3) := (blk_cell BK138.out 3).trans rfl; have hcz30_4 : w29.cell? ⟨gb138, 4, none⟩ = some (.int .i64 a0_4) := (blk_cell BK138.out 4).trans rfl; have hcz30_5 : w29.cell? ⟨gb138, 5, none⟩ = some (.int .i64 a0_5) := (blk_cell BK138.out 5).trans rfl; have hcz30_6 : w29.cell? ⟨gb138, 6, none⟩ = some (.int .i64 a0_6) := (blk_cell BK138.out 6).trans rfl; have hcz30_7 : w29.cell? ⟨gb138, 7, none⟩ = some (.int .i64 a0_7) := (blk_cell BK138.out 7).trans rfl; have hcz30_8 : w29.cell? ⟨gb138, 8, none⟩ = some (.int .i64 a0_8) := (blk_cell BK138.out 8).trans rfl; have hfz30_0 := blk_frozen BK138.out 0; have hfz30_1 := blk_frozen BK138.out 1; have hfz30_2 := blk_frozen BK138.out 2; have hfz30_3 := blk_frozen BK138.out 3; have hfz30_4 := blk_frozen BK138.out 4; have hfz30_5 := blk_frozen BK138.out 5; have hfz30_6 := blk_frozen BK138.out 6; have hfz30_7 := blk_frozen BK138.out 7; have hfz30_8 := blk_frozen BK138.out 8) | ((with_reducible refine gate_callee (f := 26) rfl ?_); refine goesL_ (some 5) rfl rfl Try.func26 (by kernel_rfl) rfl #[.int .i64 a0_0, .int .i64 0, .int .i64 15] rfl (by (try simp only [List.map_toArray, List.map_cons, List.map_nil]); first | done | rfl | (simp only [List.length_drop, List.length_take]; rfl)) ?_; (with_reducible refine (subchannel_between.calls a0_0 0 15 true _ A2.out).mono ?_); rintro e w' ⟨rfl, ⟨nd, rfl⟩⟩; refine ⟨_, rfl, ?_⟩) | (go_at_call 26; (with_reducible refine (subchannel_between.calls a0_1 0 99 true _ A4.out).mono ?_); rintro e w' ⟨rfl, ⟨nd, rfl⟩⟩) | (go_at_call 26; (with_reducible refine (subchannel_between.calls a0_2 0 99 false _ A6.out).mono ?_); rintro e w' ⟨rfl, ⟨nd, rfl⟩⟩) | (go_at_call 26; (with_reducible refine (subchannel_between.calls a0_2 160 162 true _ A19.out).mono ?_); rintro e w' ⟨rfl, ⟨nd, rfl⟩⟩) | (go_at_call 37; (with_reducible refine (address_Valid.calls a0_3 a0_4 a0_5 false _ A21.out).mono ?_); rintro e w31 ⟨rfl, hb⟩; have n0_ := Aside0.mk (blk_below (g := gb138) (o := .cells #[.int .i64 a0_0, .int .i64 a0_1, .int .i64 a0_2, .int .i64 a0_3, .int .i64 a0_4, .int .i64 a0_5, .int .i64 a0_6, .int .i64 a0_7, .int .i64 a0_8] 27 (0, 0)) (by (with_reducible repeat (first | refine blk_drewN ?_ _ | refine blk_drew ?_ | refine blk_alloc ?_ _)); exact BK138.out) hb); have n1_ := Aside0.mk (below_step (by repeat (first | (with_reducible first | exact HB.out | apply below_alloc | apply pw_below_drewN | apply below_drew1 | refine below_set ?_ GE138.out) | exact HB.out)) hb); clear BK138; clear HB; have BK138 := n0_; have HB := n1_; clear n0_ n1_; (try clear hb); (try clear hb2); (try clear hk); (try clear hi)))
           go_ret
           exact ⟨by first | rfl | (simp [errW_none, errW_some] <;> rfl) | (simp [*, errW_none, errW_some] <;> rfl), by repeat (first | (with_reducible first | exact HB.out | apply below_alloc | apply pw_below_drewN | apply below_drew1 | refine below_set ?_ GE138.out) | exact HB.out)⟩
       · replace c20 := Bool.eq_false_iff.mpr c20
         subst c20
         have H1 : (some false) = some r := by rw [if_neg (show ¬ (false = true) by decide)] at H; exact H
         clear H
         have H := H1
         clear H1
         obtain rfl := Option.some.inj H
         go_enter Try.func39, Try.ntmps39
         go_wp2_with (first | ((with_reducible refine gate_dst (N := 1) rfl ?_); refine box_event ?hg (N := 1) ?hd (cs := #[.int .i64 a0_0, .int .i64 a0_1, .int .i64 a0_2, .int .i64 a0_3, .int .i64 a0_4, .int .i64 a0_5, .int .i64 a0_6, .int .i64 a0_7, .int .i64 a0_8]) (t := 27) ?hr ?_; (case hd => rfl); (case hg => rfl); (case hr => first | (go_simp; done) | (go_simp; rfl)); intro gb138 hg w32 hbox hb; have n0_ := Aside0.mk (below_step (by repeat (first | (with_reducible first | exact HB.out | apply below_alloc | apply pw_below_drewN | apply below_drew1) | exact HB.out)) hb); have n1_ := Aside0.mk (hbox); have n2_ := Aside0.mk ((by rw [hg]; exact (below_size (by repeat (first | (with_reducible first | exact HB.out | apply below_alloc | apply pw_below_drewN | apply below_drew1) | exact HB.out))) : w.heap.size ≤ gb138)); have n3_ := Aside0.mk ((by rw [hg]; exact (below_size (by repeat (first | (with_reducible first | exact HB.out | apply below_alloc | apply pw_below_drewN | apply below_drew1) | exact HB.out))) : w.heap.size ≤ gb138)); clear HB; have HB := n0_; have BK138 := n1_; have GW138 := n2_; have GE138 := n3_; clear n0_ n1_ n2_ n3_; clear hb hbox hg; have hcz33_0 : w32.cell? ⟨gb138, 0, none⟩ = some (.int .i64 a0_0) := (blk_cell BK138.out 0).trans rfl; have hcz33_1 : w32.cell? ⟨gb138, 1, none⟩ = some (.int .i64 a0_1) := (blk_cell BK138.out 1).trans rfl; have hcz33_2 : w32.cell? ⟨gb138, 2, none⟩ = some (.int .i64 a0_2) := (blk_cell BK138.out 2).trans rfl; have hcz33_3 : w32.cell? ⟨gb138, 3, none⟩ = some (.int .i64 a0_3) := (blk_cell BK138.out 3).trans rfl; have hcz33_4 : w32.cell? ⟨gb138, 4, none⟩ = some (.int .i64 a0_4) := (blk_cell BK138.out 4).trans rfl; have hcz33_5 : w32.cell? ⟨gb138, 5, none⟩ = some (.int .i64 a0_5) := (blk_cell BK138.out 5).trans rfl; have hcz33_6 : w32.cell? ⟨gb138, 6, none⟩ = some (.int .i64 a0_6) := (blk_cell BK138.out 6).trans rfl; have hcz33_7 : w32.cell? ⟨gb138, 7, none⟩ = some (.int .i64 a0_7) := (blk_cell BK138.out 7).trans rfl; have hcz33_8 : w32.cell? ⟨gb138, 8, none⟩ = some (.int .i64 a0_8) := (blk_cell BK138.out 8).trans rfl; have hfz33_0 := blk_frozen BK138.out 0; have hfz33_1 := blk_frozen BK138.out 1; have hfz33_2 := blk_frozen BK138.out 2; have hfz33_3 := blk_frozen BK138.out 3; have hfz33_4 := blk_frozen BK138.out 4; have hfz33_5 := blk_frozen BK138.out 5; have hfz33_6 := blk_frozen BK138.out 6; have hfz33_7 := blk_frozen BK138.out 7; have hfz33_8 := blk_frozen BK138.out 8) | ((with_reducible refine gate_callee (f := 26) rfl ?_); refine goesL_ (some 5) rfl rfl Try.func26 (by kernel_rfl) rfl #[.int .i64 a0_0, .int .i64 0, .int .i64 15] rfl (by (try simp only [List.map_toArray, List.map_cons, List.map_nil]); first | done | rfl | (simp only [List.length_drop, List.length_take]; rfl)) ?_; (with_reducible refine (subchannel_between.calls a0_0 0 15 true _ A2.out).mono ?_); rintro e w' ⟨rfl, ⟨nd, rfl⟩⟩; refine ⟨_, rfl, ?_⟩) | (go_at_call 26; (with_reducible refine (subchannel_between.calls a0_1 0 99 true _ A4.out).mono ?_); rintro e w' ⟨rfl, ⟨nd, rfl⟩⟩) | (go_at_call 26; (with_reducible refine (subchannel_between.calls a0_2 0 99 false _ A6.out).mono ?_); rintro e w' ⟨rfl, ⟨nd, rfl⟩⟩) | (go_at_call 26; (with_reducible refine (subchannel_between.calls a0_2 160 162 false _ A19.out).mono ?_); rintro e w' ⟨rfl, ⟨nd, rfl⟩⟩))
         go_ret
         exact ⟨by first | rfl | (simp [errW_none, errW_some] <;> rfl) | (simp [*, errW_none, errW_some] <;> rfl), by repeat (first | (with_reducible first | exact HB.out | apply below_alloc | apply pw_below_drewN | apply below_drew1 | refine below_set ?_ GE138.out) | exact HB.out)⟩
   · replace c5 := Bool.eq_false_iff.mpr c5
     subst c5
     have H1 : (if a0_1 = 170 then ((subchannel_between.f a0_2 0 99).bind fun t147 => (if t147 = true then ((address_Valid.f a0_3 a0_4 a0_5).bind fun t148 => (if t148 = true then ((address_Valid.f a0_6 a0_7 a0_8).bind fun t149 => (some t149)) else (some false))) else ((subchannel_between.f a0_2 160 162).bind fun t150 => (if t150 = true then ((address_Valid.f a0_3 a0_4 a0_5).bind fun t151 => (if t151 = true then ((address_Valid.f a0_6 a0_7 a0_8).bind fun t152 => (some t152)) else (some false))) else (some false))))) else (some false)) = some r := by rw [if_neg (show ¬ (false = true) by decide)] at H; exact H
     clear H
     have H := H1
     clear H1
     by_cases c34 : a0_1 = 170
     · rw [if_pos c34] at H
       have c34b0 : (a0_1 == 170) = true := beq_iff_eq.mpr c34
       have c34b1 : (a0_1 != 170) = false := bne_eq_false_iff_eq.mpr c34
       clear c34
       replace H := Option.bind_eq_some_iff.mp H
       obtain ⟨t147, A350, H⟩ := H
       replace H : (if t147 = true then ((address_Valid.f a0_3 a0_4 a0_5).bind fun t148 => (if t148 = true then ((address_Valid.f a0_6 a0_7 a0_8).bind fun t149 => (some t149)) else (some false))) else ((subchannel_between.f a0_2 160 162).bind fun t150 => (if t150 = true then ((address_Valid.f a0_3 a0_4 a0_5).bind fun t151 => (if t151 = true then ((address_Valid.f a0_6 a0_7 a0_8).bind fun t152 => (some t152)) else (some false))) else (some false)))) = some r := H
       have A35 := Aside0.mk A350
       clear A350
       by_cases c36 : t147 = true
       · subst c36
         have H1 : ((address_Valid.f a0_3 a0_4 a0_5).bind fun t148 => (if t148 = true then ((address_Valid.f a0_6 a0_7 a0_8).bind fun t149 => (some t149)) else (some false))) = some r := by rw [if_pos rfl] at H; exact H
         clear H
         have H := H1
         clear H1
         replace H := Option.bind_eq_some_iff.mp H
         obtain ⟨t148, A370, H⟩ := H
         replace H : (if t148 = true then ((address_Valid.f a0_6 a0_7 a0_8).bind fun t149 => (some t149)) else (some false)) = some r := H
         have A37 := Aside0.mk A370
         clear A370
         by_cases c38 : t148 = true
         · subst c38
           have H1 : ((address_Valid.f a0_6 a0_7 a0_8).bind fun t149 => (some t149)) = some r := by rw [if_pos rfl] at H; exact H
           clear H
           have H := H1
           clear H1
           replace H := Option.bind_eq_some_iff.mp H
           obtain ⟨t149, A390, H⟩ := H
           replace H : (some t149) = some r := H
           have A39 := Aside0.mk A390
           clear A390
           obtain rfl := Option.some.inj H
           go_enter Try.func39, Try.ntmps39
           go_wp2_with (first | ((with_reducible refine gate_dst (N := 1) rfl ?_); refine box_event ?hg (N := 1) ?hd (cs := #[.int .i64 a0_0, .int .i64 a0_1, .int .i64 a0_2, .int .i64 a0_3, .int .i64 a0_4, .int .i64 a0_5, .int .i64 a0_6, .int .i64 a0_7, .int .i64 a0_8]) (t := 27) ?hr ?_; (case hd => rfl); (case hg => rfl); (case hr => first | (go_simp; done) | (go_simp; rfl)); intro gb138 hg w40 hbox hb; have n0_ := Aside0.mk (below_step (by repeat (first | (with_reducible first | exact HB.out | apply below_alloc | apply pw_below_drewN | apply below_drew1) | exact HB.out)) hb); have n1_ := Aside0.mk (hbox); have n2_ := Aside0.mk ((by rw [hg]; exact (below_size (by repeat (first | (with_reducible first | exact HB.out | apply below_alloc | apply pw_below_drewN | apply below_drew1) | exact HB.out))) : w.heap.size ≤ gb138)); have n3_ := Aside0.mk ((by rw [hg]; exact (below_size (by repeat (first | (with_reducible first | exact HB.out | apply below_alloc | apply pw_below_drewN | apply below_drew1) | exact HB.out))) : w.heap.size ≤ gb138)); clear HB; have HB := n0_; have BK138 := n1_; have GW138 := n2_; have GE138 := n3_; clear n0_ n1_ n2_ n3_; clear hb hbox hg; have hcz41_0 : w40.cell? ⟨gb138, 0, none⟩ = some (.int .i64 a0_0) := (blk_cell BK138.out 0).trans rfl; have hcz41_1 : w40.cell? ⟨gb138, 1, none⟩ = some (.int .i64 a0_1) := (blk_cell BK138.out 1).trans rfl; have hcz41_2 : w40.cell? ⟨gb138, 2, none⟩ = some (.int .i64 a0_2) := (blk_cell BK138.out 2).trans rfl; have hcz41_3 : w40.cell? ⟨gb138, 3, none⟩ = some (.int .i64 a0_3) := (blk_cell BK138.out 3).trans rfl; have hcz41_4 : w40.cell? ⟨gb138, 4, none⟩ = some (.int .i64 a0_4) := (blk_cell BK138.out 4).trans rfl; have hcz41_5 : w40.cell? ⟨gb138, 5, none⟩ = some (.int .i64 a0_5) := (blk_cell BK138.out 5).trans rfl; have hcz41_6 : w40.cell? ⟨gb138, 6, none⟩ = some (.int .i64 a0_6) := (blk_cell BK138.out 6).trans rfl; have hcz41_7 : w40.cell? ⟨gb138, 7, none⟩ = some (.int .i64 a0_7) := (blk_cell BK138.out 7).trans rfl; have hcz41_8 : w40.cell? ⟨gb138, 8, none⟩ = some (.int .i64 a0_8) := (blk_cell BK138.out 8).trans rfl; have hfz41_0 := blk_frozen BK138.out 0; have hfz41_1 := blk_frozen BK138.out 1; have hfz41_2 := blk_frozen BK138.out 2; have hfz41_3 := blk_frozen BK138.out 3; have hfz41_4 := blk_frozen BK138.out 4; have hfz41_5 := blk_frozen BK138.out 5; have hfz41_6 := blk_frozen BK138.out 6; have hfz41_7 := blk_frozen BK138.out 7; have hfz41_8 := blk_frozen BK138.out 8) | ((with_reducible refine gate_callee (f := 26) rfl ?_); refine goesL_ (some 5) rfl rfl Try.func26 (by kernel_rfl) rfl #[.int .i64 a0_0, .int .i64 0, .int .i64 15] rfl (by (try simp only [List.map_toArray, List.map_cons, List.map_nil]); first | done | rfl | (simp only [List.length_drop, List.length_take]; rfl)) ?_; (with_reducible refine (subchannel_between.calls a0_0 0 15 true _ A2.out).mono ?_); rintro e w' ⟨rfl, ⟨nd, rfl⟩⟩; refine ⟨_, rfl, ?_⟩) | (go_at_call 26; (with_reducible refine (subchannel_between.calls a0_1 0 99 false _ A4.out).mono ?_); rintro e w' ⟨rfl, ⟨nd, rfl⟩⟩) | (go_at_call 26; (with_reducible refine (subchannel_between.calls a0_2 0 99 true _ A35.out).mono ?_); rintro e w' ⟨rfl, ⟨nd, rfl⟩⟩) | (go_at_call 37; (with_reducible refine (address_Valid.calls a0_3 a0_4 a0_5 true _ A37.out).mono ?_); rintro e w42 ⟨rfl, hb⟩; have n0_ := Aside0.mk (blk_below (g := gb138) (o := .cells #[.int .i64 a0_0, .int .i64 a0_1, .int .i64 a0_2, .int .i64 a0_3, .int .i64 a0_4, .int .i64 a0_5, .int .i64 a0_6, .int .i64 a0_7, .int .i64 a0_8] 27 (0, 0)) (by (with_reducible repeat (first | refine blk_drewN ?_ _ | refine blk_drew ?_ | refine blk_alloc ?_ _)); exact BK138.out) hb); have n1_ := Aside0.mk (below_step (by repeat (first | (with_reducible first | exact HB.out | apply below_alloc | apply pw_below_drewN | apply below_drew1 | refine below_set ?_ GE138.out) | exact HB.out)) hb); clear BK138; clear HB; have BK138 := n0_; have HB := n1_; clear n0_ n1_; (try clear hb); (try clear hb2); (try clear hk); (try clear hi); have hcz43_0 : w42.cell? ⟨gb138, 0, none⟩ = some (.int .i64 a0_0) := (blk_cell BK138.out 0).trans rfl; have hcz43_1 : w42.cell? ⟨gb138, 1, none⟩ = some (.int .i64 a0_1) := (blk_cell BK138.out 1).trans rfl; have hcz43_2 : w42.cell? ⟨gb138, 2, none⟩ = some (.int .i64 a0_2) := (blk_cell BK138.out 2).trans rfl; have hcz43_3 : w42.cell? ⟨gb138, 3, none⟩ = some (.int .i64 a0_3) := (blk_cell BK138.out 3).trans rfl; have hcz43_4 : w42.cell? ⟨gb138, 4, none⟩ = some (.int .i64 a0_4) := (blk_cell BK138.out 4).trans rfl; have hcz43_5 : w42.cell? ⟨gb138, 5, none⟩ = some (.int .i64 a0_5) := (blk_cell BK138.out 5).trans rfl; have hcz43_6 : w42.cell? ⟨gb138, 6, none⟩ = some (.int .i64 a0_6) := (blk_cell BK138.out 6).trans rfl; have hcz43_7 : w42.cell? ⟨gb138, 7, none⟩ = some (.int .i64 a0_7) := (blk_cell BK138.out 7).trans rfl; have hcz43_8 : w42.cell? ⟨gb138, 8, none⟩ = some (.int .i64 a0_8) := (blk_cell BK138.out 8).trans rfl; have hfz43_0 := blk_frozen BK138.out 0; have hfz43_1 := blk_frozen BK138.out 1; have hfz43_2 := blk_frozen BK138.out 2; have hfz43_3 := blk_frozen BK138.out 3; have hfz43_4 := blk_frozen BK138.out 4; have hfz43_5 := blk_frozen BK138.out 5; have hfz43_6 := blk_frozen BK138.out 6; have hfz43_7 := blk_frozen BK138.out 7; have hfz43_8 := blk_frozen BK138.out 8) | (go_at_call 37; (with_reducible refine (address_Valid.calls a0_6 a0_7 a0_8 t149 _ A39.out).mono ?_); rintro e w44 ⟨rfl, hb⟩; have n0_ := Aside0.mk (blk_below (g := gb138) (o := .cells #[.int .i64 a0_0, .int .i64 a0_1, .int .i64 a0_2, .int .i64 a0_3, .int .i64 a0_4, .int .i64 a0_5, .int .i64 a0_6, .int .i64 a0_7, .int .i64 a0_8] 27 (0, 0)) (by (with_reducible repeat (first | refine blk_drewN ?_ _ | refine blk_drew ?_ | refine blk_alloc ?_ _)); exact BK138.out) hb); have n1_ := Aside0.mk (below_step (by repeat (first | (with_reducible first | exact HB.out | apply below_alloc | apply pw_below_drewN | apply below_drew1 | refine below_set ?_ GE138.out) | exact HB.out)) hb); clear BK138; clear HB; have BK138 := n0_; have HB := n1_; clear n0_ n1_; (try clear hb); (try clear hb2); (try clear hk); (try clear hi)))
           go_ret
           exact ⟨by first | rfl | (simp [errW_none, errW_some] <;> rfl) | (simp [*, errW_none, errW_some] <;> rfl), by repeat (first | (with_reducible first | exact HB.out | apply below_alloc | apply pw_below_drewN | apply below_drew1 | refine below_set ?_ GE138.out) | exact HB.out)⟩
         · replace c38 := Bool.eq_false_iff.mpr c38
           subst c38
           have H1 : (some false) = some r := by rw [if_neg (show ¬ (false = true) by decide)] at H; exact H
           clear H
           have H := H1
           clear H1
           obtain rfl := Option.some.inj H
           go_enter Try.func39, Try.ntmps39
           go_wp2_with (first | ((with_reducible refine gate_dst (N := 1) rfl ?_); refine box_event ?hg (N := 1) ?hd (cs := #[.int .i64 a0_0, .int .i64 a0_1, .int .i64 a0_2, .int .i64 a0_3, .int .i64 a0_4, .int .i64 a0_5, .int .i64 a0_6, .int .i64 a0_7, .int .i64 a0_8]) (t := 27) ?hr ?_; (case hd => rfl); (case hg => rfl); (case hr => first | (go_simp; done) | (go_simp; rfl)); intro gb138 hg w45 hbox hb; have n0_ := Aside0.mk (below_step (by repeat (first | (with_reducible first | exact HB.out | apply below_alloc | apply pw_below_drewN | apply below_drew1) | exact HB.out)) hb); have n1_ := Aside0.mk (hbox); have n2_ := Aside0.mk ((by rw [hg]; exact (below_size (by repeat (first | (with_reducible first | exact HB.out | apply below_alloc | apply pw_below_drewN | apply below_drew1) | exact HB.out))) : w.heap.size ≤ gb138)); have n3_ := Aside0.mk ((by rw [hg]; exact (below_size (by repeat (first | (with_reducible first | exact HB.out | apply below_alloc | apply pw_below_drewN | apply below_drew1) | exact HB.out))) : w.heap.size ≤ gb138)); clear HB; have HB := n0_; have BK138 := n1_; have GW138 := n2_; have GE138 := n3_; clear n0_ n1_ n2_ n3_; clear hb hbox hg; have hcz46_0 : w45.cell? ⟨gb138, 0, none⟩ = some (.int .i64 a0_0) := (blk_cell BK138.out 0).trans rfl; have hcz46_1 : w45.cell? ⟨gb138, 1, none⟩ = some (.int .i64 a0_1) := (blk_cell BK138.out 1).trans rfl; have hcz46_2 : w45.cell? ⟨gb138, 2, none⟩ = some (.int .i64 a0_2) := (blk_cell BK138.out 2).trans rfl; have hcz46_3 : w45.cell? ⟨gb138, 3, none⟩ = some (.int .i64 a0_3) := (blk_cell BK138.out 3).trans rfl; have hcz46_4 : w45.cell? ⟨gb138, 4, none⟩ = some (.int .i64 a0_4) := (blk_cell BK138.out 4).trans rfl; have hcz46_5 : w45.cell? ⟨gb138, 5, none⟩ = some (.int .i64 a0_5) := (blk_cell BK138.out 5).trans rfl; have hcz46_6 : w45.cell? ⟨gb138, 6, none⟩ = some (.int .i64 a0_6) := (blk_cell BK138.out 6).trans rfl; have hcz46_7 : w45.cell? ⟨gb138, 7, none⟩ = some (.int .i64 a0_7) := (blk_cell BK138.out 7).trans rfl; have hcz46_8 : w45.cell? ⟨gb138, 8, none⟩ = some (.int .i64 a0_8) := (blk_cell BK138.out 8).trans rfl; have hfz46_0 := blk_frozen BK138.out 0; have hfz46_1 := blk_frozen BK138.out 1; have hfz46_2 := blk_frozen BK138.out 2; have hfz46_3 := blk_frozen BK138.out 3; have hfz46_4 := blk_frozen BK138.out 4; have hfz46_5 := blk_frozen BK138.out 5; have hfz46_6 := blk_frozen BK138.out 6; have hfz46_7 := blk_frozen BK138.out 7; have hfz46_8 := blk_frozen BK138.out 8) | ((with_reducible refine gate_callee (f := 26) rfl ?_); refine goesL_ (some 5) rfl rfl Try.func26 (by kernel_rfl) rfl #[.int .i64 a0_0, .int .i64 0, .int .i64 15] rfl (by (try simp only [List.map_toArray, List.map_cons, List.map_nil]); first | done | rfl | (simp only [List.length_drop, List.length_take]; rfl)) ?_; (with_reducible refine (subchannel_between.calls a0_0 0 15 true _ A2.out).mono ?_); rintro e w' ⟨rfl, ⟨nd, rfl⟩⟩; refine ⟨_, rfl, ?_⟩) | (go_at_call 26; (with_reducible refine (subchannel_between.calls a0_1 0 99 false _ A4.out).mono ?_); rintro e w' ⟨rfl, ⟨nd, rfl⟩⟩) | (go_at_call 26; (with_reducible refine (subchannel_between.calls a0_2 0 99 true _ A35.out).mono ?_); rintro e w' ⟨rfl, ⟨nd, rfl⟩⟩) | (go_at_call 37; (with_reducible refine (address_Valid.calls a0_3 a0_4 a0_5 false _ A37.out).mono ?_); rintro e w47 ⟨rfl, hb⟩; have n0_ := Aside0.mk (blk_below (g := gb138) (o := .cells #[.int .i64 a0_0, .int .i64 a0_1, .int .i64 a0_2, .int .i64 a0_3, .int .i64 a0_4, .int .i64 a0_5, .int .i64 a0_6, .int .i64 a0_7, .int .i64 a0_8] 27 (0, 0)) (by (with_reducible repeat (first | refine blk_drewN ?_ _ | refine blk_drew ?_ | refine blk_alloc ?_ _)); exact BK138.out) hb); have n1_ := Aside0.mk (below_step (by repeat (first | (with_reducible first | exact HB.out | apply below_alloc | apply pw_below_drewN | apply below_drew1 | refine below_set ?_ GE138.out) | exact HB.out)) hb); clear BK138; clear HB; have BK138 := n0_; have HB := n1_; clear n0_ n1_; (try clear hb); (try clear hb2); (try clear hk); (try clear hi)))
           go_ret
           exact ⟨by first | rfl | (simp [errW_none, errW_some] <;> rfl) | (simp [*, errW_none, errW_some] <;> rfl), by repeat (first | (with_reducible first | exact HB.out | apply below_alloc | apply pw_below_drewN | apply below_drew1 | refine below_set ?_ GE138.out) | exact HB.out)⟩
       · replace c36 := Bool.eq_false_iff.mpr c36
         subst c36
         have H1 : ((subchannel_between.f a0_2 160 162).bind fun t150 => (if t150 = true then ((address_Valid.f a0_3 a0_4 a0_5).bind fun t151 => (if t151 = true then ((address_Valid.f a0_6 a0_7 a0_8).bind fun t152 => (some t152)) else (some false))) else (some false))) = some r := by rw [if_neg (show ¬ (false = true) by decide)] at H; exact H
         clear H
         have H := H1
         clear H1
         replace H := Option.bind_eq_some_iff.mp H
         obtain ⟨t150, A480, H⟩ := H
         replace H : (if t150 = true then ((address_Valid.f a0_3 a0_4 a0_5).bind fun t151 => (if t151 = true then ((address_Valid.f a0_6 a0_7 a0_8).bind fun t152 => (some t152)) else (some false))) else (some false)) = some r := H
         have A48 := Aside0.mk A480
         clear A480
         by_cases c49 : t150 = true
         · subst c49
           have H1 : ((address_Valid.f a0_3 a0_4 a0_5).bind fun t151 => (if t151 = true then ((address_Valid.f a0_6 a0_7 a0_8).bind fun t152 => (some t152)) else (some false))) = some r := by rw [if_pos rfl] at H; exact H
           clear H
           have H := H1
           clear H1
           replace H := Option.bind_eq_some_iff.mp H
           obtain ⟨t151, A500, H⟩ := H
           replace H : (if t151 = true then ((address_Valid.f a0_6 a0_7 a0_8).bind fun t152 => (some t152)) else (some false)) = some r := H
           have A50 := Aside0.mk A500
           clear A500
           by_cases c51 : t151 = true
           · subst c51
             have H1 : ((address_Valid.f a0_6 a0_7 a0_8).bind fun t152 => (some t152)) = some r := by rw [if_pos rfl] at H; exact H
             clear H
             have H := H1
             clear H1
             replace H := Option.bind_eq_some_iff.mp H
             obtain ⟨t152, A520, H⟩ := H
             replace H : (some t152) = some r := H
             have A52 := Aside0.mk A520
             clear A520
             obtain rfl := Option.some.inj H
             go_enter Try.func39, Try.ntmps39
             go_wp2_with (first | ((with_reducible refine gate_dst (N := 1) rfl ?_); refine box_event ?hg (N := 1) ?hd (cs := #[.int .i64 a0_0, .int .i64 a0_1, .int .i64 a0_2, .int .i64 a0_3, .int .i64 a0_4, .int .i64 a0_5, .int .i64 a0_6, .int .i64 a0_7, .int .i64 a0_8]) (t := 27) ?hr ?_; (case hd => rfl); (case hg => rfl); (case hr => first | (go_simp; done) | (go_simp; rfl)); intro gb138 hg w53 hbox hb; have n0_ := Aside0.mk (below_step (by repeat (first | (with_reducible first | exact HB.out | apply below_alloc | apply pw_below_drewN | apply below_drew1) | exact HB.out)) hb); have n1_ := Aside0.mk (hbox); have n2_ := Aside0.mk ((by rw [hg]; exact (below_size (by repeat (first | (with_reducible first | exact HB.out | apply below_alloc | apply pw_below_drewN | apply below_drew1) | exact HB.out))) : w.heap.size ≤ gb138)); have n3_ := Aside0.mk ((by rw [hg]; exact (below_size (by repeat (first | (with_reducible first | exact HB.out | apply below_alloc | apply pw_below_drewN | apply below_drew1) | exact HB.out))) : w.heap.size ≤ gb138)); clear HB; have HB := n0_; have BK138 := n1_; have GW138 := n2_; have GE138 := n3_; clear n0_ n1_ n2_ n3_; clear hb hbox hg; have hcz54_0 : w53.cell? ⟨gb138, 0, none⟩ = some (.int .i64 a0_0) := (blk_cell BK138.out 0).trans rfl; have hcz54_1 : w53.cell? ⟨gb138, 1, none⟩ = some (.int .i64 a0_1) := (blk_cell BK138.out 1).trans rfl; have hcz54_2 : w53.cell? ⟨gb138, 2, none⟩ = some (.int .i64 a0_2) := (blk_cell BK138.out 2).trans rfl; have hcz54_3 : w53.cell? ⟨gb138, 3, none⟩ = some (.int .i64 a0_3) := (blk_cell BK138.out 3).trans rfl; have hcz54_4 : w53.cell? ⟨gb138, 4, none⟩ = some (.int .i64 a0_4) := (blk_cell BK138.out 4).trans rfl; have hcz54_5 : w53.cell? ⟨gb138, 5, none⟩ = some (.int .i64 a0_5) := (blk_cell BK138.out 5).trans rfl; have hcz54_6 : w53.cell? ⟨gb138, 6, none⟩ = some (.int .i64 a0_6) := (blk_cell BK138.out 6).trans rfl; have hcz54_7 : w53.cell? ⟨gb138, 7, none⟩ = some (.int .i64 a0_7) := (blk_cell BK138.out 7).trans rfl; have hcz54_8 : w53.cell? ⟨gb138, 8, none⟩ = some (.int .i64 a0_8) := (blk_cell BK138.out 8).trans rfl; have hfz54_0 := blk_frozen BK138.out 0; have hfz54_1 := blk_frozen BK138.out 1; have hfz54_2 := blk_frozen BK138.out 2; have hfz54_3 := blk_frozen BK138.out 3; have hfz54_4 := blk_frozen BK138.out 4; have hfz54_5 := blk_frozen BK138.out 5; have hfz54_6 := blk_frozen BK138.out 6; have hfz54_7 := blk_frozen BK138.out 7; have hfz54_8 := blk_frozen BK138.out 8) | ((with_reducible refine gate_callee (f := 26) rfl ?_); refine goesL_ (some 5) rfl rfl Try.func26 (by kernel_rfl) rfl #[.int .i64 a0_0, .int .i64 0, .int .i64 15] rfl (by (try simp only [List.map_toArray, List.map_cons, List.map_nil]); first | done | rfl | (simp only [List.length_drop, List.length_take]; rfl)) ?_; (with_reducible refine (subchannel_between.calls a0_0 0 15 true _ A2.out).mono ?_); rintro e w' ⟨rfl, ⟨nd, rfl⟩⟩; refine ⟨_, rfl, ?_⟩) | (go_at_call 26; (with_reducible refine (subchannel_between.calls a0_1 0 99 false _ A4.out).mono ?_); rintro e w' ⟨rfl, ⟨nd, rfl⟩⟩) | (go_at_call 26; (with_reducible refine (subchannel_between.calls a0_2 0 99 false _ A35.out).mono ?_); rintro e w' ⟨rfl, ⟨nd, rfl⟩⟩) | (go_at_call 26; (with_reducible refine (subchannel_between.calls a0_2 160 162 true _ A48.out).mono ?_); rintro e w' ⟨rfl, ⟨nd, rfl⟩⟩) | (go_at_call 37; (with_reducible refine (address_Valid.calls a0_3 a0_4 a0_5 true _ A50.out).mono ?_); rintro e w55 ⟨rfl, hb⟩; have n0_ := Aside0.mk (blk_below (g := gb138) (o := .cells #[.int .i64 a0_0, .int .i64 a0_1, .int .i64 a0_2, .int .i64 a0_3, .int .i64 a0_4, .int .i64 a0_5, .int .i64 a0_6, .int .i64 a0_7, .int .i64 a0_8] 27 (0, 0)) (by (with_reducible repeat (first | refine blk_drewN ?_ _ | refine blk_drew ?_ | refine blk_alloc ?_ _)); exact BK138.out) hb); have n1_ := Aside0.mk (below_step (by repeat (first | (with_reducible first | exact HB.out | apply below_alloc | apply pw_below_drewN | apply below_drew1 | refine below_set ?_ GE138.out) | exact HB.out)) hb); clear BK138; clear HB; have BK138 := n0_; have HB := n1_; clear n0_ n1_; (try clear hb); (try clear hb2); (try clear hk); (try clear hi); have hcz56_0 : w55.cell? ⟨gb138, 0, none⟩ = some (.int .i64 a0_0) := (blk_cell BK138.out 0).trans rfl; have hcz56_1 : w55.cell? ⟨gb138, 1, none⟩ = some (.int .i64 a0_1) := (blk_cell BK138.out 1).trans rfl; have hcz56_2 : w55.cell? ⟨gb138, 2, none⟩ = some (.int .i64 a0_2) := (blk_cell BK138.out 2).trans rfl; have hcz56_3 : w55.cell? ⟨gb138, 3, none⟩ = some (.int .i64 a0_3) := (blk_cell BK138.out 3).trans rfl; have hcz56_4 : w55.cell? ⟨gb138, 4, none⟩ = some (.int .i64 a0_4) := (blk_cell BK138.out 4).trans rfl; have hcz56_5 : w55.cell? ⟨gb138, 5, none⟩ = some (.int .i64 a0_5) := (blk_cell BK138.out 5).trans rfl; have hcz56_6 : w55.cell? ⟨gb138, 6, none⟩ = some (.int .i64 a0_6) := (blk_cell BK138.out 6).trans rfl; have hcz56_7 : w55.cell? ⟨gb138, 7, none⟩ = some (.int .i64 a0_7) := (blk_cell BK138.out 7).trans rfl; have hcz56_8 : w55.cell? ⟨gb138, 8, none⟩ = some (.int .i64 a0_8) := (blk_cell BK138.out 8).trans rfl; have hfz56_0 := blk_frozen BK138.out 0; have hfz56_1 := blk_frozen BK138.out 1; have hfz56_2 := blk_frozen BK138.out 2; have hfz56_3 := blk_frozen BK138.out 3; have hfz56_4 := blk_frozen BK138.out 4; have hfz56_5 := blk_frozen BK138.out 5; have hfz56_6 := blk_frozen BK138.out 6; have hfz56_7 := blk_frozen BK138.out 7; have hfz56_8 := blk_frozen BK138.out 8) | (go_at_call 37; (with_reducible refine (address_Valid.calls a0_6 a0_7 a0_8 t152 _ A52.out).mono ?_); rintro e w57 ⟨rfl, hb⟩; have n0_ := Aside0.mk (blk_below (g := gb138) (o := .cells #[.int .i64 a0_0, .int .i64 a0_1, .int .i64 a0_2, .int .i64 a0_3, .int .i64 a0_4, .int .i64 a0_5, .int .i64 a0_6, .int .i64 a0_7, .int .i64 a0_8] 27 (0, 0)) (by (with_reducible repeat (first | refine blk_drewN ?_ _ | refine blk_drew ?_ | refine blk_alloc ?_ _)); exact BK138.out) hb); have n1_ := Aside0.mk (below_step (by repeat (first | (with_reducible first | exact HB.out | apply below_alloc | apply pw_below_drewN | apply below_drew1 | refine below_set ?_ GE138.out) | exact HB.out)) hb); clear BK138; clear HB; have BK138 := n0_; have HB := n1_; clear n0_ n1_; (try clear hb); (try clear hb2); (try clear hk); (try clear hi)))
             go_ret
             exact ⟨by first | rfl | (simp [errW_none, errW_some] <;> rfl) | (simp [*, errW_none, errW_some] <;> rfl), by repeat (first | (with_reducible first | exact HB.out | apply below_alloc | apply pw_below_drewN | apply below_drew1 | refine below_set ?_ GE138.out) | exact HB.out)⟩
           · replace c51 := Bool.eq_false_iff.mpr c51
             subst c51
             have H1 : (some false) = some r := by rw [if_neg (show ¬ (false = true) by decide)] at H; exact H
             clear H
             have H := H1
             clear H1
             obtain rfl := Option.some.inj H
             go_enter Try.func39, Try.ntmps39
             go_wp2_with (first | ((with_reducible refine gate_dst (N := 1) rfl ?_); refine box_event ?hg (N := 1) ?hd (cs := #[.int .i64 a0_0, .int .i64 a0_1, .int .i64 a0_2, .int .i64 a0_3, .int .i64 a0_4, .int .i64 a0_5, .int .i64 a0_6, .int .i64 a0_7, .int .i64 a0_8]) (t := 27) ?hr ?_; (case hd => rfl); (case hg => rfl); (case hr => first | (go_simp; done) | (go_simp; rfl)); intro gb138 hg w58 hbox hb; have n0_ := Aside0.mk (below_step (by repeat (first | (with_reducible first | exact HB.out | apply below_alloc | apply pw_below_drewN | apply below_drew1) | exact HB.out)) hb); have n1_ := Aside0.mk (hbox); have n2_ := Aside0.mk ((by rw [hg]; exact (below_size (by repeat (first | (with_reducible first | exact HB.out | apply below_alloc | apply pw_below_drewN | apply below_drew1) | exact HB.out))) : w.heap.size ≤ gb138)); have n3_ := Aside0.mk ((by rw [hg]; exact (below_size (by repeat (first | (with_reducible first | exact HB.out | apply below_alloc | apply pw_below_drewN | apply below_drew1) | exact HB.out))) : w.heap.size ≤ gb138)); clear HB; have HB := n0_; have BK138 := n1_; have GW138 := n2_; have GE138 := n3_; clear n0_ n1_ n2_ n3_; clear hb hbox hg; have hcz59_0 : w58.cell? ⟨gb138, 0, none⟩ = some (.int .i64 a0_0) := (blk_cell BK138.out 0).trans rfl; have hcz59_1 : w58.cell? ⟨gb138, 1, none⟩ = some (.int .i64 a0_1) := (blk_cell BK138.out 1).trans rfl; have hcz59_2 : w58.cell? ⟨gb138, 2, none⟩ = some (.int .i64 a0_2) := (blk_cell BK138.out 2).trans rfl; have hcz59_3 : w58.cell? ⟨gb138, 3, none⟩ = some (.int .i64 a0_3) := (blk_cell BK138.out 3).trans rfl; have hcz59_4 : w58.cell? ⟨gb138, 4, none⟩ = some (.int .i64 a0_4) := (blk_cell BK138.out 4).trans rfl; have hcz59_5 : w58.cell? ⟨gb138, 5, none⟩ = some (.int .i64 a0_5) := (blk_cell BK138.out 5).trans rfl; have hcz59_6 : w58.cell? ⟨gb138, 6, none⟩ = some (.int .i64 a0_6) := (blk_cell BK138.out 6).trans rfl; have hcz59_7 : w58.cell? ⟨gb138, 7, none⟩ = some (.int .i64 a0_7) := (blk_cell BK138.out 7).trans rfl; have hcz59_8 : w58.cell? ⟨gb138, 8, none⟩ = some (.int .i64 a0_8) := (blk_cell BK138.out 8).trans rfl; have hfz59_0 := blk_frozen BK138.out 0; have hfz59_1 := blk_frozen BK138.out 1; have hfz59_2 := blk_frozen BK138.out 2; have hfz59_3 := blk_frozen BK138.out 3; have hfz59_4 := blk_frozen BK138.out 4; have hfz59_5 := blk_frozen BK138.out 5; have hfz59_6 := blk_frozen BK138.out 6; have hfz59_7 := blk_frozen BK138.out 7; have hfz59_8 := blk_frozen BK138.out 8) | ((with_reducible refine gate_callee (f := 26) rfl ?_); refine goesL_ (some 5) rfl rfl Try.func26 (by kernel_rfl) rfl #[.int .i64 a0_0, .int .i64 0, .int .i64 15] rfl (by (try simp only [List.map_toArray, List.map_cons, List.map_nil]); first | done | rfl | (simp only [List.length_drop, List.length_take]; rfl)) ?_; (with_reducible refine (subchannel_between.calls a0_0 0 15 true _ A2.out).mono ?_); rintro e w' ⟨rfl, ⟨nd, rfl⟩⟩; refine ⟨_, rfl, ?_⟩) | (go_at_call 26; (with_reducible refine (subchannel_between.calls a0_1 0 99 false _ A4.out).mono ?_); rintro e w' ⟨rfl, ⟨nd, rfl⟩⟩) | (go_at_call 26; (with_reducible refine (subchannel_between.calls a0_2 0 99 false _ A35.out).mono ?_); rintro e w' ⟨rfl, ⟨nd, rfl⟩⟩) | (go_at_call 26; (with_reducible refine (subchannel_between.calls a0_2 160 162 true _ A48.out).mono ?_); rintro e w' ⟨rfl, ⟨nd, rfl⟩⟩) | (go_at_call 37; (with_reducible refine (address_Valid.calls a0_3 a0_4 a0_5 false _ A50.out).mono ?_); rintro e w60 ⟨rfl, hb⟩; have n0_ := Aside0.mk (blk_below (g := gb138) (o := .cells #[.int .i64 a0_0, .int .i64 a0_1, .int .i64 a0_2, .int .i64 a0_3, .int .i64 a0_4, .int .i64 a0_5, .int .i64 a0_6, .int .i64 a0_7, .int .i64 a0_8] 27 (0, 0)) (by (with_reducible repeat (first | refine blk_drewN ?_ _ | refine blk_drew ?_ | refine blk_alloc ?_ _)); exact BK138.out) hb); have n1_ := Aside0.mk (below_step (by repeat (first | (with_reducible first | exact HB.out | apply below_alloc | apply pw_below_drewN | apply below_drew1 | refine below_set ?_ GE138.out) | exact HB.out)) hb); clear BK138; clear HB; have BK138 := n0_; have HB := n1_; clear n0_ n1_; (try clear hb); (try clear hb2); (try clear hk); (try clear hi)))
             go_ret
             exact ⟨by first | rfl | (simp [errW_none, errW_some] <;> rfl) | (simp [*, errW_none, errW_some] <;> rfl), by repeat (first | (with_reducible first | exact HB.out | apply below_alloc | apply pw_below_drewN | apply below_drew1 | refine below_set ?_ GE138.out) | exact HB.out)⟩
         · replace c49 := Bool.eq_false_iff.mpr c49
           subst c49
           have H1 : (some false) = some r := by rw [if_neg (show ¬ (false = true) by decide)] at H; exact H
           clear H
           have H := H1
           clear H1
           obtain rfl := Option.some.inj H
           go_enter Try.func39, Try.ntmps39
           go_wp2_with (first | ((with_reducible refine gate_dst (N := 1) rfl ?_); refine box_event ?hg (N := 1) ?hd (cs := #[.int .i64 a0_0, .int .i64 a0_1, .int .i64 a0_2, .int .i64 a0_3, .int .i64 a0_4, .int .i64 a0_5, .int .i64 a0_6, .int .i64 a0_7, .int .i64 a0_8]) (t := 27) ?hr ?_; (case hd => rfl); (case hg => rfl); (case hr => first | (go_simp; done) | (go_simp; rfl)); intro gb138 hg w61 hbox hb; have n0_ := Aside0.mk (below_step (by repeat (first | (with_reducible first | exact HB.out | apply below_alloc | apply pw_below_drewN | apply below_drew1) | exact HB.out)) hb); have n1_ := Aside0.mk (hbox); have n2_ := Aside0.mk ((by rw [hg]; exact (below_size (by repeat (first | (with_reducible first | exact HB.out | apply below_alloc | apply pw_below_drewN | apply below_drew1) | exact HB.out))) : w.heap.size ≤ gb138)); have n3_ := Aside0.mk ((by rw [hg]; exact (below_size (by repeat (first | (with_reducible first | exact HB.out | apply below_alloc | apply pw_below_drewN | apply below_drew1) | exact HB.out))) : w.heap.size ≤ gb138)); clear HB; have HB := n0_; have BK138 := n1_; have GW138 := n2_; have GE138 := n3_; clear n0_ n1_ n2_ n3_; clear hb hbox hg; have hcz62_0 : w61.cell? ⟨gb138, 0, none⟩ = some (.int .i64 a0_0) := (blk_cell BK138.out 0).trans rfl; have hcz62_1 : w61.cell? ⟨gb138, 1, none⟩ = some (.int .i64 a0_1) := (blk_cell BK138.out 1).trans rfl; have hcz62_2 : w61.cell? ⟨gb138, 2, none⟩ = some (.int .i64 a0_2) := (blk_cell BK138.out 2).trans rfl; have hcz62_3 : w61.cell? ⟨gb138, 3, none⟩ = some (.int .i64 a0_3) := (blk_cell BK138.out 3).trans rfl; have hcz62_4 : w61.cell? ⟨gb138, 4, none⟩ = some (.int .i64 a0_4) := (blk_cell BK138.out 4).trans rfl; have hcz62_5 : w61.cell? ⟨gb138, 5, none⟩ = some (.int .i64 a0_5) := (blk_cell BK138.out 5).trans rfl; have hcz62_6 : w61.cell? ⟨gb138, 6, none⟩ = some (.int .i64 a0_6) := (blk_cell BK138.out 6).trans rfl; have hcz62_7 : w61.cell? ⟨gb138, 7, none⟩ = some (.int .i64 a0_7) := (blk_cell BK138.out 7).trans rfl; have hcz62_8 : w61.cell? ⟨gb138, 8, none⟩ = some (.int .i64 a0_8) := (blk_cell BK138.out 8).trans rfl; have hfz62_0 := blk_frozen BK138.out 0; have hfz62_1 := blk_frozen BK138.out 1; have hfz62_2 := blk_frozen BK138.out 2; have hfz62_3 := blk_frozen BK138.out 3; have hfz62_4 := blk_frozen BK138.out 4; have hfz62_5 := blk_frozen BK138.out 5; have hfz62_6 := blk_frozen BK138.out 6; have hfz62_7 := blk_frozen BK138.out 7; have hfz62_8 := blk_frozen BK138.out 8) | ((with_reducible refine gate_callee (f := 26) rfl ?_); refine goesL_ (some 5) rfl rfl Try.func26 (by kernel_rfl) rfl #[.int .i64 a0_0, .int .i64 0, .int .i64 15] rfl (by (try simp only [List.map_toArray, List.map_cons, List.map_nil]); first | done | rfl | (simp only [List.length_drop, List.length_take]; rfl)) ?_; (with_reducible refine (subchannel_between.calls a0_0 0 15 true _ A2.out).mono ?_); rintro e w' ⟨rfl, ⟨nd, rfl⟩⟩; refine ⟨_, rfl, ?_⟩) | (go_at_call 26; (with_reducible refine (subchannel_between.calls a0_1 0 99 false _ A4.out).mono ?_); rintro e w' ⟨rfl, ⟨nd, rfl⟩⟩) | (go_at_call 26; (with_reducible refine (subchannel_between.calls a0_2 0 99 false _ A35.out).mono ?_); rintro e w' ⟨rfl, ⟨nd, rfl⟩⟩) | (go_at_call 26; (with_reducible refine (subchannel_between.calls a0_2 160 162 false _ A48.out).mono ?_); rintro e w' ⟨rfl, ⟨nd, rfl⟩⟩))
           go_ret
           exact ⟨by first | rfl | (simp [errW_none, errW_some] <;> rfl) | (simp [*, errW_none, errW_some] <;> rfl), by repeat (first | (with_reducible first | exact HB.out | apply below_alloc | apply pw_below_drewN | apply below_drew1 | refine below_set ?_ GE138.out) | exact HB.out)⟩
     · rw [if_neg c34] at H
       have c34b0 : (a0_1 == 170) = false := beq_eq_false_iff_ne.mpr c34
       have c34b1 : (a0_1 != 170) = true := bne_iff_ne.mpr c34
       obtain rfl := Option.some.inj H
       go_enter Try.func39, Try.ntmps39
       go_wp2_with (first | ((with_reducible refine gate_dst (N := 1) rfl ?_); refine box_event ?hg (N := 1) ?hd (cs := #[.int .i64 a0_0, .int .i64 a0_1, .int .i64 a0_2, .int .i64 a0_3, .int .i64 a0_4, .int .i64 a0_5, .int .i64 a0_6, .int .i64 a0_7, .int .i64 a0_8]) (t := 27) ?hr ?_; (case hd => rfl); (case hg => rfl); (case hr => first | (go_simp; done) | (go_simp; rfl)); intro gb138 hg w63 hbox hb; have n0_ := Aside0.mk (below_step (by repeat (first | (with_reducible first | exact HB.out | apply below_alloc | apply pw_below_drewN | apply below_drew1) | exact HB.out)) hb); have n1_ := Aside0.mk (hbox); have n2_ := Aside0.mk ((by rw [hg]; exact (below_size (by repeat (first | (with_reducible first | exact HB.out | apply below_alloc | apply pw_below_drewN | apply below_drew1) | exact HB.out))) : w.heap.size ≤ gb138)); have n3_ := Aside0.mk ((by rw [hg]; exact (below_size (by repeat (first | (with_reducible first | exact HB.out | apply below_alloc | apply pw_below_drewN | apply below_drew1) | exact HB.out))) : w.heap.size ≤ gb138)); clear HB; have HB := n0_; have BK138 := n1_; have GW138 := n2_; have GE138 := n3_; clear n0_ n1_ n2_ n3_; clear hb hbox hg; have hcz64_0 : w63.cell? ⟨gb138, 0, none⟩ = some (.int .i64 a0_0) := (blk_cell BK138.out 0).trans rfl; have hcz64_1 : w63.cell? ⟨gb138, 1, none⟩ = some (.int .i64 a0_1) := (blk_cell BK138.out 1).trans rfl; have hcz64_2 : w63.cell? ⟨gb138, 2, none⟩ = some (.int .i64 a0_2) := (blk_cell BK138.out 2).trans rfl; have hcz64_3 : w63.cell? ⟨gb138, 3, none⟩ = some (.int .i64 a0_3) := (blk_cell BK138.out 3).trans rfl; have hcz64_4 : w63.cell? ⟨gb138, 4, none⟩ = some (.int .i64 a0_4) := (blk_cell BK138.out 4).trans rfl; have hcz64_5 : w63.cell? ⟨gb138, 5, none⟩ = some (.int .i64 a0_5) := (blk_cell BK138.out 5).trans rfl; have hcz64_6 : w63.cell? ⟨gb138, 6, none⟩ = some (.int .i64 a0_6) := (blk_cell BK138.out 6).trans rfl; have hcz64_7 : w63.cell? ⟨gb138, 7, none⟩ = some (.int .i64 a0_7) := (blk_cell BK138.out 7).trans rfl; have hcz64_8 : w63.cell? ⟨gb138, 8, none⟩ = some (.int .i64 a0_8) := (blk_cell BK138.out 8).trans rfl; have hfz64_0 := blk_frozen BK138.out 0; have hfz64_1 := blk_frozen BK138.out 1; have hfz64_2 := blk_frozen BK138.out 2; have hfz64_3 := blk_frozen BK138.out 3; have hfz64_4 := blk_frozen BK138.out 4; have hfz64_5 := blk_frozen BK138.out 5; have hfz64_6 := blk_frozen BK138.out 6; have hfz64_7 := blk_frozen BK138.out 7; have hfz64_8 := blk_frozen BK138.out 8) | ((with_reducible refine gate_callee (f := 26) rfl ?_); refine goesL_ (some 5) rfl rfl Try.func26 (by kernel_rfl) rfl #[.int .i64 a0_0, .int .i64 0, .int .i64 15] rfl (by (try simp only [List.map_toArray, List.map_cons, List.map_nil]); first | done | rfl | (simp only [List.length_drop, List.length_take]; rfl)) ?_; (with_reducible refine (subchannel_between.calls a0_0 0 15 true _ A2.out).mono ?_); rintro e w' ⟨rfl, ⟨nd, rfl⟩⟩; refine ⟨_, rfl, ?_⟩) | (go_at_call 26; (with_reducible refine (subchannel_between.calls a0_1 0 99 false _ A4.out).mono ?_); rintro e w' ⟨rfl, ⟨nd, rfl⟩⟩))
       go_ret
       exact ⟨by first | rfl | (simp [errW_none, errW_some] <;> rfl) | (simp [*, errW_none, errW_some] <;> rfl), by repeat (first | (with_reducible first | exact HB.out | apply below_alloc | apply pw_below_drewN | apply below_drew1 | refine below_set ?_ GE138.out) | exact HB.out)⟩
 · replace c3 := Bool.eq_false_iff.mpr c3
   subst c3
   have H1 : (some false) = some r := by rw [if_neg (show ¬ (false = true) by decide)] at H; exact H
   clear H
   have H := H1
   clear H1
   obtain rfl := Option.some.inj H
   go_enter Try.func39, Try.ntmps39
   go_wp2_with (first | ((with_reducible refine gate_dst (N := 1) rfl ?_); refine box_event ?hg (N := 1) ?hd (cs := #[.int .i64 a0_0, .int .i64 a0_1, .int .i64 a0_2, .int .i64 a0_3, .int .i64 a0_4, .int .i64 a0_5, .int .i64 a0_6, .int .i64 a0_7, .int .i64 a0_8]) (t := 27) ?hr ?_; (case hd => rfl); (case hg => rfl); (case hr => first | (go_simp; done) | (go_simp; rfl)); intro gb138 hg w65 hbox hb; have n0_ := Aside0.mk (below_step (by repeat (first | (with_reducible first | exact HB.out | apply below_alloc | apply pw_below_drewN | apply below_drew1) | exact HB.out)) hb); have n1_ := Aside0.mk (hbox); have n2_ := Aside0.mk ((by rw [hg]; exact (below_size (by repeat (first | (with_reducible first | exact HB.out | apply below_alloc | apply pw_below_drewN | apply below_drew1) | exact HB.out))) : w.heap.size ≤ gb138)); have n3_ := Aside0.mk ((by rw [hg]; exact (below_size (by repeat (first | (with_reducible first | exact HB.out | apply below_alloc | apply pw_below_drewN | apply below_drew1) | exact HB.out))) : w.heap.size ≤ gb138)); clear HB; have HB := n0_; have BK138 := n1_; have GW138 := n2_; have GE138 := n3_; clear n0_ n1_ n2_ n3_; clear hb hbox hg; have hcz66_0 : w65.cell? ⟨gb138, 0, none⟩ = some (.int .i64 a0_0) := (blk_cell BK138.out 0).trans rfl; have hcz66_1 : w65.cell? ⟨gb138, 1, none⟩ = some (.int .i64 a0_1) := (blk_cell BK138.out 1).trans rfl; have hcz66_2 : w65.cell? ⟨gb138, 2, none⟩ = some (.int .i64 a0_2) := (blk_cell BK138.out 2).trans rfl; have hcz66_3 : w65.cell? ⟨gb138, 3, none⟩ = some (.int .i64 a0_3) := (blk_cell BK138.out 3).trans rfl; have hcz66_4 : w65.cell? ⟨gb138, 4, none⟩ = some (.int .i64 a0_4) := (blk_cell BK138.out 4).trans rfl; have hcz66_5 : w65.cell? ⟨gb138, 5, none⟩ = some (.int .i64 a0_5) := (blk_cell BK138.out 5).trans rfl; have hcz66_6 : w65.cell? ⟨gb138, 6, none⟩ = some (.int .i64 a0_6) := (blk_cell BK138.out 6).trans rfl; have hcz66_7 : w65.cell? ⟨gb138, 7, none⟩ = some (.int .i64 a0_7) := (blk_cell BK138.out 7).trans rfl; have hcz66_8 : w65.cell? ⟨gb138, 8, none⟩ = some (.int .i64 a0_8) := (blk_cell BK138.out 8).trans rfl; have hfz66_0 := blk_frozen BK138.out 0; have hfz66_1 := blk_frozen BK138.out 1; have hfz66_2 := blk_frozen BK138.out 2; have hfz66_3 := blk_frozen BK138.out 3; have hfz66_4 := blk_frozen BK138.out 4; have hfz66_5 := blk_frozen BK138.out 5; have hfz66_6 := blk_frozen BK138.out 6; have hfz66_7 := blk_frozen BK138.out 7; have hfz66_8 := blk_frozen BK138.out 8) | ((with_reducible refine gate_callee (f := 26) rfl ?_); refine goesL_ (some 5) rfl rfl Try.func26 (by kernel_rfl) rfl #[.int .i64 a0_0, .int .i64 0, .int .i64 15] rfl (by (try simp only [List.map_toArray, List.map_cons, List.map_nil]); first | done | rfl | (simp only [List.length_drop, List.length_take]; rfl)) ?_; (with_reducible refine (subchannel_between.calls a0_0 0 15 false _ A2.out).mono ?_); rintro e w' ⟨rfl, ⟨nd, rfl⟩⟩; refine ⟨_, rfl, ?_⟩))
   go_ret
   exact ⟨by first | rfl | (simp [errW_none, errW_some] <;> rfl) | (simp [*, errW_none, errW_some] <;> rfl), by repeat (first | (with_reducible first | exact HB.out | apply below_alloc | apply pw_below_drewN | apply below_drew1 | refine below_set ?_ GE138.out) | exact HB.out)⟩
end Go.Proofs.Ytpmkibggmkibeaa.G
namespace Go.Proofs.Ytpmkibggmkibeaa.G
open Go.RowKit Go.Proofs.YtpmkibggmkibeaaW.PrintWords Go.Proofs.YtpmkibggmkibeaaW.PrintLast Go.Proofs.YtpmkibggmkibeaaW.PrintMore
attribute [local go_sem] max2_int min2_int max_two min_two max_three min_three max_four min_four   -- for this text's walks alone
set_option linter.unusedVariables false
set_option linter.unusedSimpArgs false
def subchannel_Encode.f (a0_0 : Int) (a0_1 : Int) (a0_2 : Int) (a0_3 : Int) (a0_4 : Int) (a0_5 : Int) (a0_6 : Int) (a0_7 : Int) (a0_8 : Int) : Option (ByteArray × Int) := (subchannel_valid.f a0_0 a0_1 a0_2 a0_3 a0_4 a0_5 a0_6 a0_7 a0_8).bind fun t160 => (if t160 = true then ((subchannel_number.f a0_1).bind fun t161 => ((subchannel_number.f a0_2).bind fun t162 => ((some (([(Go.bits .or .i64 (wrap64 (a0_0 * 16)) 1) % 256, t161, t162] : List Int) : List Int)).bind fun y163 => ((subchannel_Encode_1.f a0_3 a0_4 a0_5).bind fun t166 => (if (strOfNums y163).size + t166.size ≤ 9223372036854775807 then (if ((strOfNums y163) ++ t166).size + 1 ≤ 9223372036854775807 then ((subchannel_Encode_1.f a0_6 a0_7 a0_8).bind fun t167 => (if (((strOfNums y163) ++ t166) ++ (⟨#[0]⟩ : ByteArray)).size + t167.size ≤ 9223372036854775807 then ((subchannel_check.f ((((strOfNums y163) ++ t166) ++ (⟨#[0]⟩ : ByteArray)) ++ t167)).bind fun t168 => (if ((((strOfNums y163) ++ t166) ++ (⟨#[0]⟩ : ByteArray)) ++ t167).size + t168.size ≤ 9223372036854775807 then (some (((((strOfNums y163) ++ t166) ++ (⟨#[0]⟩ : ByteArray)) ++ t167) ++ t168, 0)) else (none))) else (none))) else (none)) else (none)))))) else (some ((⟨#[]⟩ : ByteArray), 1)))
def subchannel_Encode.T4 : Bool × List (List Nat × List Nat) := (true, [([], []), ([0], [0]), ([1], [1]), ([2], [2]), ([3], [3]), ([], []), ([5], [5]), ([6], [6]), ([], []), ([8], [8]), ([9, 7], [9]), ([4, 7, 10], [4, 7, 10]), ([11], [11]), ([], []), ([], []), ([14], [14]), ([13, 15, 10], [13, 15]), ([12, 16], [12, 16]), ([17], [17]), ([], []), ([], []), ([20], [20]), ([19, 21, 16], [19, 21]), ([18, 22], [18, 22]), ([23, 22, 0, 1, 2, 3, 4, 5, 6, 7, 8, 9, 10, 11, 12, 13, 14, 15, 16, 17, 18, 19, 20, 21, 22, 23], [23])])
def subchannel_Encode.B4 : List Nat := [0, 1, 3, 7, 15, 0, 32, 96, 0, 256, 992, 2047, 4095, 0, 0, 16384, 59360, 131071, 262143, 0, 0, 1048576, 3794912, 8388607, 16777215]
theorem subchannel_Encode.tab4 : rtab .any (opsOf Try.f18 4) = subchannel_Encode.T4 := by kernel_rfl
theorem subchannel_Encode.bits4 : waitsOk subchannel_Encode.T4.2 subchannel_Encode.B4 = true := by kernel_rfl
set_option maxHeartbeats 8000000 in
set_option maxRecDepth 100000 in
theorem subchannel_Encode.calls (a0_0 : Int) (a0_1 : Int) (a0_2 : Int) (a0_3 : Int) (a0_4 : Int) (a0_5 : Int) (a0_6 : Int) (a0_7 : Int) (a0_8 : Int) (r1 : ByteArray) (r2 : Int) (w : World) (h : subchannel_Encode.f a0_0 a0_1 a0_2 a0_3 a0_4 a0_5 a0_6 a0_7 a0_8 = some (r1, r2)) :
 Calls Try.prog 18 #[.agg #[.int .i64 a0_0, .int .i64 a0_1, .int .i64 a0_2, .int .i64 a0_3, .int .i64 a0_4, .int .i64 a0_5, .int .i64 a0_6, .int .i64 a0_7, .int .i64 a0_8]] w fun e w' => e = .returned (.tuple #[.string r1, .int .i64 r2]) ∧ Below w.heap.size w w' := by
 have hu27 := Try.underlying27
 have hu25 := Try.underlying25
 have HB := Aside0.mk (Below.refl w.heap.size w)
 have H : ((subchannel_valid.f a0_0 a0_1 a0_2 a0_3 a0_4 a0_5 a0_6 a0_7 a0_8).bind fun t160 => (if t160 = true then ((subchannel_number.f a0_1).bind fun t161 => ((subchannel_number.f a0_2).bind fun t162 => ((some (([(Go.bits .or .i64 (wrap64 (a0_0 * 16)) 1) % 256, t161, t162] : List Int) : List Int)).bind fun y163 => ((subchannel_Encode_1.f a0_3 a0_4 a0_5).bind fun t166 => (if (strOfNums y163).size + t166.size ≤ 9223372036854775807 then (if ((strOfNums y163) ++ t166).size + 1 ≤ 9223372036854775807 then ((subchannel_Encode_1.f a0_6 a0_7 a0_8).bind fun t167 => (if (((strOfNums y163) ++ t166) ++ (⟨#[0]⟩ : ByteArray)).size + t167.size ≤ 9223372036854775807 then ((subchannel_check.f ((((strOfNums y163) ++ t166) ++ (⟨#[0]⟩ : ByteArray)) ++ t167)).bind fun t168 => (if ((((strOfNums y163) ++ t166) ++ (⟨#[0]⟩ : ByteArray)) ++ t167).size + t168.size ≤ 9223372036854775807 then (some (((((strOfNums y163) ++ t166) ++ (⟨#[0]⟩ : ByteArray)) ++ t167) ++ t168, 0)) else (none))) else (none))) else (none)) else (none)))))) else (some ((⟨#[]⟩ : ByteArray), 1)))) = some (r1, r2) := h
 clear h
 replace H := Option.bind_eq_some_iff.mp H
 obtain ⟨t160, A20, H⟩ := H
 replace H : (if t160 = true then ((subchannel_number.f a0_1).bind fun t161 => ((subchannel_number.f a0_2).bind fun t162 => ((some (([(Go.bits .or .i64 (wrap64 (a0_0 * 16)) 1) % 256, t161, t162] : List Int) : List Int)).bind fun y163 => ((subchannel_Encode_1.f a0_3 a0_4 a0_5).bind fun t166 => (if (strOfNums y163).size + t166.size ≤ 9223372036854775807 then (if ((strOfNums y163) ++ t166).size + 1 ≤ 9223372036854775807 then ((subchannel_Encode_1.f a0_6 a0_7 a0_8).bind fun t167 => (if (((strOfNums y163) ++ t166) ++ (⟨#[0]⟩ : ByteArray)).size + t167.size ≤ 9223372036854775807 then ((subchannel_check.f ((((strOfNums y163) ++ t166) ++ (⟨#[0]⟩ : ByteArray)) ++ t167)).bind fun t168 => (if ((((strOfNums y163) ++ t166) ++ (⟨#[0]⟩ : ByteArray)) ++ t167).size + t168.size ≤ 9223372036854775807 then (some (((((strOfNums y163) ++ t166) ++ (⟨#[0]⟩ : ByteArray)) ++ t167) ++ t168, 0)) else (none))) else (none))) else (none)) else (none)))))) else (some ((⟨#[]⟩ : ByteArray), 1))) = some (r1, r2) := H
 have A2 := Aside0.mk A20
 clear A20
 by_cases c3 : t160 = true
 · subst c3
   have H1 : ((subchannel_number.f a0_1).bind fun t161 => ((subchannel_number.f a0_2).bind fun t162 => ((some (([(Go.bits .or .i64 (wrap64 (a0_0 * 16)) 1) % 256, t161, t162] : List Int) : List Int)).bind fun y163 => ((subchannel_Encode_1.f a0_3 a0_4 a0_5).bind fun t166 => (if (strOfNums y163).size + t166.size ≤ 9223372036854775807 then (if ((strOfNums y163) ++ t166).size + 1 ≤ 9223372036854775807 then ((subchannel_Encode_1.f a0_6 a0_7 a0_8).bind fun t167 => (if (((strOfNums y163) ++ t166) ++ (⟨#[0]⟩ : ByteArray)).size + t167.size ≤ 9223372036854775807 then ((subchannel_check.f ((((strOfNums y163) ++ t166) ++ (⟨#[0]⟩ : ByteArray)) ++ t167)).bind fun t168 => (if ((((strOfNums y163) ++ t166) ++ (⟨#[0]⟩ : ByteArray)) ++ t167).size + t168.size ≤ 9223372036854775807 then (some (((((strOfNums y163) ++ t166) ++ (⟨#[0]⟩ : ByteArray)) ++ t167) ++ t168, 0)) else (none))) else (none))) else (none)) else (none)))))) = some (r1, r2) := by rw [if_pos rfl] at H; exact H
   clear H
   have H := H1
   clear H1
   replace H := Option.bind_eq_some_iff.mp H
   obtain ⟨t161, A40, H⟩ := H
   replace H : ((subchannel_number.f a0_2).bind fun t162 => ((some (([(Go.bits .or .i64 (wrap64 (a0_0 * 16)) 1) % 256, t161, t162] : List Int) : List Int)).bind fun y163 => ((subchannel_Encode_1.f a0_3 a0_4 a0_5).bind fun t166 => (if (strOfNums y163).size + t166.size ≤ 9223372036854775807 then (if ((strOfNums y163) ++ t166).size + 1 ≤ 9223372036854775807 then ((subchannel_Encode_1.f a0_6 a0_7 a0_8).bind fun t167 => (if (((strOfNums y163) ++ t166) ++ (⟨#[0]⟩ : ByteArray)).size + t167.size ≤ 9223372036854775807 then ((subchannel_check.f ((((strOfNums y163) ++ t166) ++ (⟨#[0]⟩ : ByteArray)) ++ t167)).bind fun t168 => (if ((((strOfNums y163) ++ t166) ++ (⟨#[0]⟩ : ByteArray)) ++ t167).size + t168.size ≤ 9223372036854775807 then (some (((((strOfNums y163) ++ t166) ++ (⟨#[0]⟩ : ByteArray)) ++ t167) ++ t168, 0)) else (none))) else (none))) else (none)) else (none))))) = some (r1, r2) := H
   have A4 := Aside0.mk A40
   clear A40
   replace H := Option.bind_eq_some_iff.mp H
   obtain ⟨t162, A50, H⟩ := H
   replace H : ((some (([(Go.bits .or .i64 (wrap64 (a0_0 * 16)) 1) % 256, t161, t162] : List Int) : List Int)).bind fun y163 => ((subchannel_Encode_1.f a0_3 a0_4 a0_5).bind fun t166 => (if (strOfNums y163).size + t166.size ≤ 9223372036854775807 then (if ((strOfNums y163) ++ t166).size + 1 ≤ 9223372036854775807 then ((subchannel_Encode_1.f a0_6 a0_7 a0_8).bind fun t167 => (if (((strOfNums y163) ++ t166) ++ (⟨#[0]⟩ : ByteArray)).size + t167.size ≤ 9223372036854775807 then ((subchannel_check.f ((((strOfNums y163) ++ t166) ++ (⟨#[0]⟩ : ByteArray)) ++ t167)).bind fun t168 => (if ((((strOfNums y163) ++ t166) ++ (⟨#[0]⟩ : ByteArray)) ++ t167).size + t168.size ≤ 9223372036854775807 then (some (((((strOfNums y163) ++ t166) ++ (⟨#[0]⟩ : ByteArray)) ++ t167) ++ t168, 0)) else (none))) else (none))) else (none)) else (none)))) = some (r1, r2) := H
   have A5 := Aside0.mk A50
   clear A50
   obtain ⟨y163, hy163⟩ : ∃ y_ : List Int, y_ = (([(Go.bits .or .i64 (wrap64 (a0_0 * 16)) 1) % 256, t161, t162] : List Int)) := ⟨_, rfl⟩
   replace H : ((subchannel_Encode_1.f a0_3 a0_4 a0_5).bind fun t166 => (if (strOfNums y163).size + t166.size ≤ 9223372036854775807 then (if ((strOfNums y163) ++ t166).size + 1 ≤ 9223372036854775807 then ((subchannel_Encode_1.f a0_6 a0_7 a0_8).bind fun t167 => (if (((strOfNums y163) ++ t166) ++ (⟨#[0]⟩ : ByteArray)).size + t167.size ≤ 9223372036854775807 then ((subchannel_check.f ((((strOfNums y163) ++ t166) ++ (⟨#[0]⟩ : ByteArray)) ++ t167)).bind fun t168 => (if ((((strOfNums y163) ++ t166) ++ (⟨#[0]⟩ : ByteArray)) ++ t167).size + t168.size ≤ 9223372036854775807 then (some (((((strOfNums y163) ++ t166) ++ (⟨#[0]⟩ : ByteArray)) ++ t167) ++ t168, 0)) else (none))) else (none))) else (none)) else (none))) = some (r1, r2) := by first | (rw [hy163]; with_reducible exact H) | (have H2_ := (Option.bind_some _ _).symm.trans H; rw [hy163]; with_reducible exact H2_) | (have H2_ := (Option.bind_some _ _).symm.trans H; with_reducible exact H2_) | with_reducible exact H | (rw [hy163]; exact H) | exact H
   have Ny163 := Aside0.mk hy163
   clear hy163
   replace H := Option.bind_eq_some_iff.mp H
   obtain ⟨t166, A60, H⟩ := H
   replace H : (if (strOfNums y163).size + t166.size ≤ 9223372036854775807 then (if ((strOfNums y163) ++ t166).size + 1 ≤ 9223372036854775807 then ((subchannel_Encode_1.f a0_6 a0_7 a0_8).bind fun t167 => (if (((strOfNums y163) ++ t166) ++ (⟨#[0]⟩ : ByteArray)).size + t167.size ≤ 9223372036854775807 then ((subchannel_check.f ((((strOfNums y163) ++ t166) ++ (⟨#[0]⟩ : ByteArray)) ++ t167)).bind fun t168 => (if ((((strOfNums y163) ++ t166) ++ (⟨#[0]⟩ : ByteArray)) ++ t167).size + t168.size ≤ 9223372036854775807 then (some (((((strOfNums y163) ++ t166) ++ (⟨#[0]⟩ : ByteArray)) ++ t167) ++ t168, 0)) else (none))) else (none))) else (none)) else (none)) = some (r1, r2) := H
   have A6 := Aside0.mk A60
   clear A60
   by_cases c7 : (strOfNums y163).size + t166.size ≤ 9223372036854775807
   · rw [if_pos c7] at H
     have c7b0 := eq_true c7
     have c7b1 : decide ((strOfNums y163).size + t166.size ≤ 9223372036854775807) = true := decide_eq_true c7
     try have c7b2 : (9223372036854775807 < (strOfNums y163).size + t166.size) = False := eq_false (Nat.not_lt.2 c7)
     by_cases c8 : ((strOfNums y163) ++ t166).size + 1 ≤ 9223372036854775807
     · rw [if_pos c8] at H
       have c8b0 := eq_true c8
       have c8b1 : decide (((strOfNums y163) ++ t166).size + 1 ≤ 9223372036854775807) = true := decide_eq_true c8
       try have c8b2 : (9223372036854775807 < ((strOfNums y163) ++ t166).size + 1) = False := eq_false (Nat.not_lt.2 c8)
       try have c8b3 : (9223372036854775807 < (strOfNums y163).size + t166.size + 1) = False := eq_false (Nat.not_lt.2 (by have h_ := c8; simp only [ByteArray.size_append] at h_; exact h_))
       replace H := Option.bind_eq_some_iff.mp H
       obtain ⟨t167, A90, H⟩ := H
       replace H : (if (((strOfNums y163) ++ t166) ++ (⟨#[0]⟩ : ByteArray)).size + t167.size ≤ 9223372036854775807 then ((subchannel_check.f ((((strOfNums y163) ++ t166) ++ (⟨#[0]⟩ : ByteArray)) ++ t167)).bind fun t168 => (if ((((strOfNums y163) ++ t166) ++ (⟨#[0]⟩ : ByteArray)) ++ t167).size + t168.size ≤ 9223372036854775807 then (some (((((strOfNums y163) ++ t166) ++ (⟨#[0]⟩ : ByteArray)) ++ t167) ++ t168, 0)) else (none))) else (none)) = some (r1, r2) := H
       have A9 := Aside0.mk A90
       clear A90
       by_cases c10 : (((strOfNums y163) ++ t166) ++ (⟨#[0]⟩ : ByteArray)).size + t167.size ≤ 9223372036854775807
       · rw [if_pos c10] at H
         have c10b0 := eq_true c10
         have c10b1 : decide ((((strOfNums y163) ++ t166) ++ (⟨#[0]⟩ : ByteArray)).size + t167.size ≤ 9223372036854775807) = true := decide_eq_true c10
         try have c10b2 : (9223372036854775807 < (((strOfNums y163) ++ t166) ++ (⟨#[0]⟩ : ByteArray)).size + t167.size) = False := eq_false (Nat.not_lt.2 c10)
         try have c10b3 : (9223372036854775807 < (strOfNums y163).size + t166.size + 1 + t167.size) = False := eq_false (Nat.not_lt.2 (by have h_ := c10; simp only [ByteArray.size_append] at h_; exact h_))
         replace H := Option.bind_eq_some_iff.mp H
         obtain ⟨t168, A110, H⟩ := H
         replace H : (if ((((strOfNums y163) ++ t166) ++ (⟨#[0]⟩ : ByteArray)) ++ t167).size + t168.size ≤ 9223372036854775807 then (some (((((strOfNums y163) ++ t166) ++ (⟨#[0]⟩ : ByteArray)) ++ t167) ++ t168, 0)) else (none)) = some (r1, r2) := H
         have A11 := Aside0.mk A110
         clear A110
         by_cases c12 : ((((strOfNums y163) ++ t166) ++ (⟨#[0]⟩ : ByteArray)) ++ t167).size + t168.size ≤ 9223372036854775807
         · rw [if_pos c12] at H
           have c12b0 := eq_true c12
           have c12b1 : decide (((((strOfNums y163) ++ t166) ++ (⟨#[0]⟩ : ByteArray)) ++ t167).size + t168.size ≤ 9223372036854775807) = true := decide_eq_true c12
           try have c12b2 : (9223372036854775807 < ((((strOfNums y163) ++ t166) ++ (⟨#[0]⟩ : ByteArray)) ++ t167).size + t168.size) = False := eq_false (Nat.not_lt.2 c12)
           try have c12b3 : (9223372036854775807 < (strOfNums y163).size + t166.size + 1 + t167.size + t168.size) = False := eq_false (Nat.not_lt.2 (by have h_ := c12; simp only [ByteArray.size_append] at h_; exact h_))
           simp only [Option.some.injEq, Prod.mk.injEq] at H
           obtain ⟨rfl, rfl⟩ := H
           go_enter Try.func18, Try.ntmps18
           try go_wp2_with (first | ((with_reducible refine gate_dst (N := 1) rfl ?_); refine box_event ?hg (N := 1) ?hd (cs := #[.int .i64 a0_0, .int .i64 a0_1, .int .i64 a0_2, .int .i64 a0_3, .int .i64 a0_4, .int .i64 a0_5, .int .i64 a0_6, .int .i64 a0_7, .int .i64 a0_8]) (t := 27) ?hr ?_; (case hd => rfl); (case hg => rfl); (case hr => first | (go_simp; done) | (go_simp; rfl)); intro gb159 hg w13 hbox hb; have n0_ := Aside0.mk (below_step (by repeat (first | (with_reducible first | exact HB.out | apply below_alloc | apply pw_below_drewN | apply below_drew1) | exact HB.out)) hb); have n1_ := Aside0.mk (hbox); have n2_ := Aside0.mk ((by rw [hg]; exact (below_size (by repeat (first | (with_reducible first | exact HB.out | apply below_alloc | apply pw_below_drewN | apply below_drew1) | exact HB.out))) : w.heap.size ≤ gb159)); have n3_ := Aside0.mk ((by rw [hg]; exact (below_size (by repeat (first | (with_reducible first | exact HB.out | apply below_alloc | apply pw_below_drewN | apply below_drew1) | exact HB.out))) : w.heap.size ≤ gb159)); clear HB; have HB := n0_; have BK159 := n1_; have GW159 := n2_; have GE159 := n3_; clear n0_ n1_ n2_ n3_; clear hb hbox hg; have hcz14_0 : w13.cell? ⟨gb159, 0, none⟩ = some (.int .i64 a0_0) := (blk_cell BK159.out 0).trans rfl; have hcz14_1 : w13.cell? ⟨gb159, 1, none⟩ = some (.int .i64 a0_1) := (blk_cell BK159.out 1).trans rfl; have hcz14_2 : w13.cell? ⟨gb159, 2, none⟩ = some (.int .i64 a0_2) := (blk_cell BK159.out 2).trans rfl; have hcz14_3 : w13.cell? ⟨gb159, 3, none⟩ = some (.int .i64 a0_3) := (blk_cell BK159.out 3).trans rfl; have hcz14_4 : w13.cell? ⟨gb159, 4, none⟩ = some (.int .i64 a0_4) := (blk_cell BK159.out 4).trans rfl; have hcz14_5 : w13.cell? ⟨gb159, 5, none⟩ = some (.int .i64 a0_5) := (blk_cell BK159.out 5).trans rfl; have hcz14_6 : w13.cell? ⟨gb159, 6, none⟩ = some (.int .i64 a0_6) := (blk_cell BK159.out 6).trans rfl; have hcz14_7 : w13.cell? ⟨gb159, 7, none⟩ = some (.int .i64 a0_7) := (blk_cell BK159.out 7).trans rfl; have hcz14_8 : w13.cell? ⟨gb159, 8, none⟩ = some (.int .i64 a0_8) := (blk_cell BK159.out 8).trans rfl; have hfz14_0 := blk_frozen BK159.out 0; have hfz14_1 := blk_frozen BK159.out 1; have hfz14_2 := blk_frozen BK159.out 2; have hfz14_3 := blk_frozen BK159.out 3; have hfz14_4 := blk_frozen BK159.out 4; have hfz14_5 := blk_frozen BK159.out 5; have hfz14_6 := blk_frozen BK159.out 6; have hfz14_7 := blk_frozen BK159.out 7; have hfz14_8 := blk_frozen BK159.out 8) | ((with_reducible refine gate_callee (f := 39) rfl ?_); refine goesL_ (some 7) rfl rfl Try.func39 (by kernel_rfl) rfl #[.agg #[.int .i64 a0_0, .int .i64 a0_1, .int .i64 a0_2, .int .i64 a0_3, .int .i64 a0_4, .int .i64 a0_5, .int .i64 a0_6, .int .i64 a0_7, .int .i64 a0_8]] rfl (by (try simp only [List.map_toArray, List.map_cons, List.map_nil]); first | done | rfl | (simp only [List.length_drop, List.length_take]; rfl)) ?_; (with_reducible refine (subchannel_valid.calls a0_0 a0_1 a0_2 a0_3 a0_4 a0_5 a0_6 a0_7 a0_8 true _ A2.out).mono ?_); rintro e w15 ⟨rfl, hb⟩; refine ⟨_, rfl, ?_⟩; have n0_ := Aside0.mk (blk_below (g := gb159) (o := .cells #[.int .i64 a0_0, .int .i64 a0_1, .int .i64 a0_2, .int .i64 a0_3, .int .i64 a0_4, .int .i64 a0_5, .int .i64 a0_6, .int .i64 a0_7, .int .i64 a0_8] 27 (0, 0)) (by (with_reducible repeat (first | refine blk_drewN ?_ _ | refine blk_drew ?_ | refine blk_alloc ?_ _)); exact BK159.out) hb); have n1_ := Aside0.mk (below_step (by repeat (first | (with_reducible first | exact HB.out | apply below_alloc | apply pw_below_drewN | apply below_drew1 | refine below_set ?_ GE159.out) | exact HB.out)) hb); clear BK159; clear HB; have BK159 := n0_; have HB := n1_; clear n0_ n1_; (try clear hb); (try clear hb2); (try clear hk); (try clear hi)))
           have n0_ := Aside0.mk (blk_drew BK159.out)
           have n1_ := Aside0.mk (below_drew1 HB.out)
           clear BK159
           clear HB
           have BK159 := n0_
           have HB := n1_
           clear n0_ n1_
           refine start_ (n := 25) (S := fun w' => w'.cell? ⟨gb159, 0, none⟩ = some (.int .i64 a0_0) ∧ w'.cell? ⟨gb159, 1, none⟩ = some (.int .i64 a0_1) ∧ w'.cell? ⟨gb159, 2, none⟩ = some (.int .i64 a0_2) ∧ w'.cell? ⟨gb159, 3, none⟩ = some (.int .i64 a0_3) ∧ w'.cell? ⟨gb159, 4, none⟩ = some (.int .i64 a0_4) ∧ w'.cell? ⟨gb159, 5, none⟩ = some (.int .i64 a0_5) ∧ w'.cell? ⟨gb159, 6, none⟩ = some (.int .i64 a0_6) ∧ w'.cell? ⟨gb159, 7, none⟩ = some (.int .i64 a0_7) ∧ w'.cell? ⟨gb159, 8, none⟩ = some (.int .i64 a0_8)) (ds := []) #[false, false, false, false, false, false, false, false, false, false, false, false, false, false, false, false, false, false, false, false, false, false, false, false, false] (by kernel_rfl) rfl rfl ⟨(blk_cell BK159.out 0).trans rfl, (blk_cell BK159.out 1).trans rfl, (blk_cell BK159.out 2).trans rfl, (blk_cell BK159.out 3).trans rfl, (blk_cell BK159.out 4).trans rfl, (blk_cell BK159.out 5).trans rfl, (blk_cell BK159.out 6).trans rfl, (blk_cell BK159.out 7).trans rfl, (blk_cell BK159.out 8).trans rfl⟩ (fun hHeld => ?_); refine with_tabW subchannel_Encode.tab4 subchannel_Encode.bits4 (fun HT_ HW_ => ?_)
           generalize w15.drew = w16 at BK159 HB hHeld ⊢
           refine pure_ (i := 0) (N := some 9) (v := ?_) (a' := ?_) (mS 25 1) rfl rfl (any_of HT_.out (by kernel_rfl)) (fun _ _ _ h => h) (Or.inl ⟨by rfl, ?_⟩) ?_ ?_
           rotate_left
           · intro w'
             go_simp
             with_reducible rfl
           rotate_left
           · simp only [Act.put, List.setIfInBounds_toArray, List.set_cons_zero, List.set_cons_succ, i64_w, i32_w]
             rfl
           refine pure_ (i := 5) (N := some 14) (v := ?_) (a' := ?_) (mS 25 33) rfl rfl (any_of HT_.out (by kernel_rfl)) (fun _ _ _ h => h) (Or.inl ⟨by rfl, ?_⟩) ?_ ?_
           rotate_left
           · intro w'
             go_simp
             with_reducible rfl
           rotate_left
           · simp only [Act.put, List.setIfInBounds_toArray, List.set_cons_zero, List.set_cons_succ, i64_w, i32_w]
             rfl
           refine pure_ (i := 8) (N := some 17) (v := ?_) (a' := ?_) (mS 25 289) rfl rfl (any_of HT_.out (by kernel_rfl)) (fun _ _ _ h => h) (Or.inl ⟨by rfl, ?_⟩) ?_ ?_
           rotate_left
           · intro w'
             go_simp
             with_reducible rfl
           rotate_left
           · simp only [Act.put, List.setIfInBounds_toArray, List.set_cons_zero, List.set_cons_succ, i64_w, i32_w]
             rfl
           refine pure_ (i := 13) (N := some 22) (v := ?_) (a' := ?_) (mS 25 8481) rfl rfl (any_of HT_.out (by kernel_rfl)) (fun _ _ _ h => h) (Or.inl ⟨by rfl, ?_⟩) ?_ ?_
           rotate_left
           · intro w'
             go_simp
             with_reducible rfl
           rotate_left
           · simp only [Act.put, List.setIfInBounds_toArray, List.set_cons_zero, List.set_cons_succ, i64_w, i32_w]
             rfl
           refine pure_ (i := 14) (N := some 23) (v := ?_) (a' := ?_) (mS 25 24865) rfl rfl (any_of HT_.out (by kernel_rfl)) (fun _ _ _ h => h) (Or.inl ⟨by rfl, ?_⟩) ?_ ?_
           rotate_left
           · intro w'
             go_simp
             with_reducible rfl
           rotate_left
           · simp only [Act.put, List.setIfInBounds_toArray, List.set_cons_zero, List.set_cons_succ, i64_w, i32_w]
             rfl
           refine pure_ (i := 19) (N := some 28) (v := ?_) (a' := ?_) (mS 25 549153) rfl rfl (any_of HT_.out (by kernel_rfl)) (fun _ _ _ h => h) (Or.inl ⟨by rfl, ?_⟩) ?_ ?_
           rotate_left
           · intro w'
             go_simp
             with_reducible rfl
           rotate_left
           · simp only [Act.put, List.setIfInBounds_toArray, List.set_cons_zero, List.set_cons_succ, i64_w, i32_w]
             rfl
           refine pure_ (i := 20) (N := some 29) (v := ?_) (a' := ?_) (mS 25 1597729) rfl rfl (any_of HT_.out (by kernel_rfl)) (fun _ _ _ h => h) (Or.inl ⟨by rfl, ?_⟩) ?_ ?_
           rotate_left
           · intro w'
             go_simp
             with_reducible rfl
           rotate_left
           · simp only [Act.put, List.setIfInBounds_toArray, List.set_cons_zero, List.set_cons_succ, i64_w, i32_w]
             rfl
           refine take_ (i := 1) (N := some 10) (v := ?_) (a' := ?_) (mS 25 1597731) rfl rfl (take_ofW HT_.out HW_.out (by kernel_rfl)) (fun _ _ _ h => h) (Or.inl ⟨by rfl, ?_⟩) hHeld ?_ ?_
           rotate_left
           · rintro w' ⟨s0, s1, s2, s3, s4, s5, s6, s7, s8⟩
             go_simp
             with_reducible rfl
           rotate_left
           · simp only [Act.put, List.setIfInBounds_toArray, List.set_cons_zero, List.set_cons_succ, i64_w, i32_w]
             rfl
           refine pure_ (i := 2) (N := some 11) (v := ?_) (a' := ?_) (mS 25 1597735) rfl rfl (any_of HT_.out (by kernel_rfl)) (fun _ _ _ h => h) (Or.inl ⟨by rfl, ?_⟩) ?_ ?_
           rotate_left
           · intro w'
             go_simp
             with_reducible rfl
           rotate_left
           · simp only [Act.put, List.setIfInBounds_toArray, List.set_cons_zero, List.set_cons_succ, i64_w, i32_w]
             rfl
           refine pure_ (i := 3) (N := some 12) (v := ?_) (a' := ?_) (mS 25 1597743) rfl rfl (any_of HT_.out (by kernel_rfl)) (fun _ _ _ h => h) (Or.inl ⟨by rfl, ?_⟩) ?_ ?_
           rotate_left
           · intro w'
             go_simp
             with_reducible rfl
           rotate_left
           · simp only [Act.put, List.setIfInBounds_toArray, List.set_cons_zero, List.set_cons_succ, i64_w, i32_w]
             rfl
           refine pure_ (i := 4) (N := some 13) (v := ?_) (a' := ?_) (mS 25 1597759) rfl rfl (any_of HT_.out (by kernel_rfl)) (fun _ _ _ h => h) (Or.inl ⟨by rfl, ?_⟩) ?_ ?_
           rotate_left
           · intro w'
             go_simp
             with_reducible rfl
           rotate_left
           · simp only [Act.put, List.setIfInBounds_toArray, List.set_cons_zero, List.set_cons_succ, i64_w, i32_w]
             rfl
           refine take_ (i := 6) (N := some 15) (v := ?_) (a' := ?_) (mS 25 1597823) rfl rfl (take_ofW HT_.out HW_.out (by kernel_rfl)) (fun _ _ _ h => h) (Or.inl ⟨by rfl, ?_⟩) hHeld ?_ ?_
           rotate_left
           · rintro w' ⟨s0, s1, s2, s3, s4, s5, s6, s7, s8⟩
             go_simp
             with_reducible rfl
           rotate_left
           · simp only [Act.put, List.setIfInBounds_toArray, List.set_cons_zero, List.set_cons_succ, i64_w, i32_w]
             rfl
           refine take_ (i := 9) (N := some 18) (v := ?_) (a' := ?_) (mS 25 1598335) rfl rfl (take_ofW HT_.out HW_.out (by kernel_rfl)) (fun _ _ _ h => h) (Or.inl ⟨by rfl, ?_⟩) hHeld ?_ ?_
           rotate_left
           · rintro w' ⟨s0, s1, s2, s3, s4, s5, s6, s7, s8⟩
             go_simp
             with_reducible rfl
           rotate_left
           · simp only [Act.put, List.setIfInBounds_toArray, List.set_cons_zero, List.set_cons_succ, i64_w, i32_w]
             rfl
           refine take_ (i := 15) (N := some 24) (v := ?_) (a' := ?_) (mS 25 1631103) rfl rfl (take_ofW HT_.out HW_.out (by kernel_rfl)) (fun _ _ _ h => h) (Or.inl ⟨by rfl, ?_⟩) hHeld ?_ ?_
           rotate_left
           · rintro w' ⟨s0, s1, s2, s3, s4, s5, s6, s7, s8⟩
             go_simp
             with_reducible rfl
           rotate_left
           · simp only [Act.put, List.setIfInBounds_toArray, List.set_cons_zero, List.set_cons_succ, i64_w, i32_w]
             rfl
           refine take_ (i := 21) (N := some 30) (v := ?_) (a' := ?_) (mS 25 3728255) rfl rfl (take_ofW HT_.out HW_.out (by kernel_rfl)) (fun _ _ _ h => h) (Or.inl ⟨by rfl, ?_⟩) hHeld ?_ ?_
           rotate_left
           · rintro w' ⟨s0, s1, s2, s3, s4, s5, s6, s7, s8⟩
             go_simp
             with_reducible rfl
           rotate_left
           · simp only [Act.put, List.setIfInBounds_toArray, List.set_cons_zero, List.set_cons_succ, i64_w, i32_w]
             rfl
           refine one_ (i := 7) (N := some 16) (mS 25 3728383) rfl rfl (one_of HT_.out (by kernel_rfl)) (by decide) (fun K hK => ?_)
           refine goes_ Try.func42 (by kernel_rfl) rfl #[.int .i64 a0_1] (by rfl) rfl rfl (by (try simp only [List.map_toArray, List.map_cons, List.map_nil]); first | done | rfl | (simp only [List.length_drop, List.length_take]; rfl)) ?_
           with_reducible refine (subchannel_number.calls a0_1 t161 _ A4.out).mono ?_
           rintro e w17 ⟨rfl, hb⟩
           refine ⟨_, rfl, ?_⟩
           have n0_ := Aside0.mk (blk_below (g := gb159) (o := .cells #[.int .i64 a0_0, .int .i64 a0_1, .int .i64 a0_2, .int .i64 a0_3, .int .i64 a0_4, .int .i64 a0_5, .int .i64 a0_6, .int .i64 a0_7, .int .i64 a0_8] 27 (0, 0)) (by (with_reducible repeat (first | refine blk_drewN ?_ _ | refine blk_drew ?_ | refine blk_alloc ?_ _)); exact BK159.out) hb)
           have n1_ := Aside0.mk (below_step (by repeat (first | (with_reducible first | exact HB.out | apply below_alloc | apply pw_below_drewN | apply below_drew1 | refine below_set ?_ GE159.out) | exact HB.out)) hb)
           clear BK159
           clear HB
           have BK159 := n0_
           have HB := n1_
           clear n0_ n1_
           (try clear hb)
           (try clear hb2)
           (try clear hk)
           (try clear hi)
           refine hK.out _ _ ⟨(blk_cell BK159.out 0).trans rfl, (blk_cell BK159.out 1).trans rfl, (blk_cell BK159.out 2).trans rfl, (blk_cell BK159.out 3).trans rfl, (blk_cell BK159.out 4).trans rfl, (blk_cell BK159.out 5).trans rfl, (blk_cell BK159.out 6).trans rfl, (blk_cell BK159.out 7).trans rfl, (blk_cell BK159.out 8).trans rfl⟩ (fun hHeld => ?_)
           clear hK K
           refine norm_ (a' := ?_) ?_ ?_
           rotate_left
           · show Act.put _ (some 16) _ = _
             simp only [Act.put, List.setIfInBounds_toArray, List.set_cons_zero, List.set_cons_succ, i64_w, i32_w]
             rfl
           refine one_ (i := 10) (N := some 19) (mS 25 3729407) rfl rfl (one_of HT_.out (by kernel_rfl)) (by decide) (fun K hK => ?_)
           refine goes_ Try.func42 (by kernel_rfl) rfl #[.int .i64 a0_2] (by rfl) rfl rfl (by (try simp only [List.map_toArray, List.map_cons, List.map_nil]); first | done | rfl | (simp only [List.length_drop, List.length_take]; rfl)) ?_
           with_reducible refine (subchannel_number.calls a0_2 t162 _ A5.out).mono ?_
           rintro e w18 ⟨rfl, hb⟩
           refine ⟨_, rfl, ?_⟩
           have n0_ := Aside0.mk (blk_below (g := gb159) (o := .cells #[.int .i64 a0_0, .int .i64 a0_1, .int .i64 a0_2, .int .i64 a0_3, .int .i64 a0_4, .int .i64 a0_5, .int .i64 a0_6, .int .i64 a0_7, .int .i64 a0_8] 27 (0, 0)) (by (with_reducible repeat (first | refine blk_drewN ?_ _ | refine blk_drew ?_ | refine blk_alloc ?_ _)); exact BK159.out) hb)
           have n1_ := Aside0.mk (below_step (by repeat (first | (with_reducible first | exact HB.out | apply below_alloc | apply pw_below_drewN | apply below_drew1 | refine below_set ?_ GE159.out) | exact HB.out)) hb)
           clear BK159
           clear HB
           have BK159 := n0_
           have HB := n1_
           clear n0_ n1_
           (try clear hb)
           (try clear hb2)
           (try clear hk)
           (try clear hi)
           refine hK.out _ _ ⟨(blk_cell BK159.out 0).trans rfl, (blk_cell BK159.out 1).trans rfl, (blk_cell BK159.out 2).trans rfl, (blk_cell BK159.out 3).trans rfl, (blk_cell BK159.out 4).trans rfl, (blk_cell BK159.out 5).trans rfl, (blk_cell BK159.out 6).trans rfl, (blk_cell BK159.out 7).trans rfl, (blk_cell BK159.out 8).trans rfl⟩ (fun hHeld => ?_)
           clear hK K
           refine norm_ (a' := ?_) ?_ ?_
           rotate_left
           · show Act.put _ (some 19) _ = _
             simp only [Act.put, List.setIfInBounds_toArray, List.set_cons_zero, List.set_cons_succ, i64_w, i32_w]
             rfl
           refine join_ (σ := Value) 2 #[true, true, true, true, true, true, true, true, true, true, true, true, true, true, true, true, true, true, true, true, true, true, true, false, false] (fun s_ => [(20, s_), (21, .string (strOfNums y163)), (25, .string t166), (31, .string t167), (26, .string ((strOfNums y163) ++ t166)), (27, .string (((strOfNums y163) ++ t166) ++ (⟨#[0]⟩ : ByteArray)))]) (fun s_ w' => (w'.cell? ⟨gb159, 0, none⟩ = some (.int .i64 a0_0) ∧ w'.cell? ⟨gb159, 1, none⟩ = some (.int .i64 a0_1) ∧ w'.cell? ⟨gb159, 2, none⟩ = some (.int .i64 a0_2) ∧ w'.cell? ⟨gb159, 3, none⟩ = some (.int .i64 a0_3) ∧ w'.cell? ⟨gb159, 4, none⟩ = some (.int .i64 a0_4) ∧ w'.cell? ⟨gb159, 5, none⟩ = some (.int .i64 a0_5) ∧ w'.cell? ⟨gb159, 6, none⟩ = some (.int .i64 a0_6) ∧ w'.cell? ⟨gb159, 7, none⟩ = some (.int .i64 a0_7) ∧ w'.cell? ⟨gb159, 8, none⟩ = some (.int .i64 a0_8)) ∧ (Kd.R (Kd.int .u8) 5 w' w.heap.size (fun _ => True) s_ y163) ∧ (w'.heap[gb159]? = some (.cells #[.int .i64 a0_0, .int .i64 a0_1, .int .i64 a0_2, .int .i64 a0_3, .int .i64 a0_4, .int .i64 a0_5, .int .i64 a0_6, .int .i64 a0_7, .int .i64 a0_8] 27 (0, 0))) ∧ (Below w.heap.size w w')) ?_ ?_
           rotate_left
           · intro hJ11_12_16_22
             refine join_ (σ := Value) 3 #[true, true, true, true, true, true, true, true, true, true, true, true, true, true, true, true, true, true, true, true, true, true, false, false, false] (fun s_ => [(20, s_), (21, .string (strOfNums y163)), (25, .string t166), (26, .string ((strOfNums y163) ++ t166)), (27, .string (((strOfNums y163) ++ t166) ++ (⟨#[0]⟩ : ByteArray)))]) (fun s_ w' => (w'.cell? ⟨gb159, 0, none⟩ = some (.int .i64 a0_0) ∧ w'.cell? ⟨gb159, 1, none⟩ = some (.int .i64 a0_1) ∧ w'.cell? ⟨gb159, 2, none⟩ = some (.int .i64 a0_2) ∧ w'.cell? ⟨gb159, 3, none⟩ = some (.int .i64 a0_3) ∧ w'.cell? ⟨gb159, 4, none⟩ = some (.int .i64 a0_4) ∧ w'.cell? ⟨gb159, 5, none⟩ = some (.int .i64 a0_5) ∧ w'.cell? ⟨gb159, 6, none⟩ = some (.int .i64 a0_6) ∧ w'.cell? ⟨gb159, 7, none⟩ = some (.int .i64 a0_7) ∧ w'.cell? ⟨gb159, 8, none⟩ = some (.int .i64 a0_8)) ∧ (Kd.R (Kd.int .u8) 5 w' w.heap.size (fun _ => True) s_ y163) ∧ (w'.heap[gb159]? = some (.cells #[.int .i64 a0_0, .int .i64 a0_1, .int .i64 a0_2, .int .i64 a0_3, .int .i64 a0_4, .int .i64 a0_5, .int .i64 a0_6, .int .i64 a0_7, .int .i64 a0_8] 27 (0, 0))) ∧ (Below w.heap.size w w')) ?_ ?_
             rotate_left
             · intro hJ11_12_16
               refine join_ (σ := Value) 5 #[true, true, true, true, true, true, true, true, true, true, true, true, false, true, true, true, true, false, false, true, true, true, true, false, false] (fun s_ => [(20, s_), (25, .string t166), (31, .string t167)]) (fun s_ w' => (w'.cell? ⟨gb159, 0, none⟩ = some (.int .i64 a0_0) ∧ w'.cell? ⟨gb159, 1, none⟩ = some (.int .i64 a0_1) ∧ w'.cell? ⟨gb159, 2, none⟩ = some (.int .i64 a0_2) ∧ w'.cell? ⟨gb159, 3, none⟩ = some (.int .i64 a0_3) ∧ w'.cell? ⟨gb159, 4, none⟩ = some (.int .i64 a0_4) ∧ w'.cell? ⟨gb159, 5, none⟩ = some (.int .i64 a0_5) ∧ w'.cell? ⟨gb159, 6, none⟩ = some (.int .i64 a0_6) ∧ w'.cell? ⟨gb159, 7, none⟩ = some (.int .i64 a0_7) ∧ w'.cell? ⟨gb159, 8, none⟩ = some (.int .i64 a0_8)) ∧ (Kd.R (Kd.int .u8) 5 w' w.heap.size (fun _ => True) s_ y163) ∧ (w'.heap[gb159]? = some (.cells #[.int .i64 a0_0, .int .i64 a0_1, .int .i64 a0_2, .int .i64 a0_3, .int .i64 a0_4, .int .i64 a0_5, .int .i64 a0_6, .int .i64 a0_7, .int .i64 a0_8] 27 (0, 0))) ∧ (Below w.heap.size w w')) ?_ ?_
               rotate_left
               · intro hJ11_16_22
                 refine join_ (σ := Value) 6 #[true, true, true, true, true, true, true, true, true, true, true, true, true, true, true, true, false, false, false, true, true, true, false, false, false] (fun s_ => [(20, s_), (21, .string (strOfNums y163))]) (fun s_ w' => (w'.cell? ⟨gb159, 0, none⟩ = some (.int .i64 a0_0) ∧ w'.cell? ⟨gb159, 1, none⟩ = some (.int .i64 a0_1) ∧ w'.cell? ⟨gb159, 2, none⟩ = some (.int .i64 a0_2) ∧ w'.cell? ⟨gb159, 3, none⟩ = some (.int .i64 a0_3) ∧ w'.cell? ⟨gb159, 4, none⟩ = some (.int .i64 a0_4) ∧ w'.cell? ⟨gb159, 5, none⟩ = some (.int .i64 a0_5) ∧ w'.cell? ⟨gb159, 6, none⟩ = some (.int .i64 a0_6) ∧ w'.cell? ⟨gb159, 7, none⟩ = some (.int .i64 a0_7) ∧ w'.cell? ⟨gb159, 8, none⟩ = some (.int .i64 a0_8)) ∧ (Kd.R (Kd.int .u8) 5 w' w.heap.size (fun _ => True) s_ y163) ∧ (w'.heap[gb159]? = some (.cells #[.int .i64 a0_0, .int .i64 a0_1, .int .i64 a0_2, .int .i64 a0_3, .int .i64 a0_4, .int .i64 a0_5, .int .i64 a0_6, .int .i64 a0_7, .int .i64 a0_8] 27 (0, 0))) ∧ (Below w.heap.size w w')) ?_ ?_
                 rotate_left
                 · intro hJ11_12
                   refine join_ (σ := Value) 6 #[true, true, true, true, true, true, true, true, true, true, true, true, false, true, true, true, true, false, false, true, true, true, false, false, false] (fun s_ => [(20, s_), (25, .string t166)]) (fun s_ w' => (w'.cell? ⟨gb159, 0, none⟩ = some (.int .i64 a0_0) ∧ w'.cell? ⟨gb159, 1, none⟩ = some (.int .i64 a0_1) ∧ w'.cell? ⟨gb159, 2, none⟩ = some (.int .i64 a0_2) ∧ w'.cell? ⟨gb159, 3, none⟩ = some (.int .i64 a0_3) ∧ w'.cell? ⟨gb159, 4, none⟩ = some (.int .i64 a0_4) ∧ w'.cell? ⟨gb159, 5, none⟩ = some (.int .i64 a0_5) ∧ w'.cell? ⟨gb159, 6, none⟩ = some (.int .i64 a0_6) ∧ w'.cell? ⟨gb159, 7, none⟩ = some (.int .i64 a0_7) ∧ w'.cell? ⟨gb159, 8, none⟩ = some (.int .i64 a0_8)) ∧ (Kd.R (Kd.int .u8) 5 w' w.heap.size (fun _ => True) s_ y163) ∧ (w'.heap[gb159]? = some (.cells #[.int .i64 a0_0, .int .i64 a0_1, .int .i64 a0_2, .int .i64 a0_3, .int .i64 a0_4, .int .i64 a0_5, .int .i64 a0_6, .int .i64 a0_7, .int .i64 a0_8] 27 (0, 0))) ∧ (Below w.heap.size w w')) ?_ ?_
                   rotate_left
                   · intro hJ11_16
                     refine join_ (σ := Unit) 6 #[true, true, true, true, true, true, true, true, true, true, true, false, false, true, true, true, true, false, false, true, true, true, true, false, false] (fun s_ => [(25, .string t166), (31, .string t167)]) (fun s_ w' => (w'.cell? ⟨gb159, 0, none⟩ = some (.int .i64 a0_0) ∧ w'.cell? ⟨gb159, 1, none⟩ = some (.int .i64 a0_1) ∧ w'.cell? ⟨gb159, 2, none⟩ = some (.int .i64 a0_2) ∧ w'.cell? ⟨gb159, 3, none⟩ = some (.int .i64 a0_3) ∧ w'.cell? ⟨gb159, 4, none⟩ = some (.int .i64 a0_4) ∧ w'.cell? ⟨gb159, 5, none⟩ = some (.int .i64 a0_5) ∧ w'.cell? ⟨gb159, 6, none⟩ = some (.int .i64 a0_6) ∧ w'.cell? ⟨gb159, 7, none⟩ = some (.int .i64 a0_7) ∧ w'.cell? ⟨gb159, 8, none⟩ = some (.int .i64 a0_8)) ∧ (w'.heap[gb159]? = some (.cells #[.int .i64 a0_0, .int .i64 a0_1, .int .i64 a0_2, .int .i64 a0_3, .int .i64 a0_4, .int .i64 a0_5, .int .i64 a0_6, .int .i64 a0_7, .int .i64 a0_8] 27 (0, 0))) ∧ (Below w.heap.size w w')) ?_ ?_
                     rotate_left
                     · intro hJ16_22
                       refine join_ (σ := Value) 7 #[true, true, true, true, true, true, true, true, true, true, true, true, false, true, true, true, false, false, false, true, true, true, false, false, false] (fun s_ => [(20, s_)]) (fun s_ w' => (w'.cell? ⟨gb159, 0, none⟩ = some (.int .i64 a0_0) ∧ w'.cell? ⟨gb159, 1, none⟩ = some (.int .i64 a0_1) ∧ w'.cell? ⟨gb159, 2, none⟩ = some (.int .i64 a0_2) ∧ w'.cell? ⟨gb159, 3, none⟩ = some (.int .i64 a0_3) ∧ w'.cell? ⟨gb159, 4, none⟩ = some (.int .i64 a0_4) ∧ w'.cell? ⟨gb159, 5, none⟩ = some (.int .i64 a0_5) ∧ w'.cell? ⟨gb159, 6, none⟩ = some (.int .i64 a0_6) ∧ w'.cell? ⟨gb159, 7, none⟩ = some (.int .i64 a0_7) ∧ w'.cell? ⟨gb159, 8, none⟩ = some (.int .i64 a0_8)) ∧ (Kd.R (Kd.int .u8) 5 w' w.heap.size (fun _ => True) s_ y163) ∧ (w'.heap[gb159]? = some (.cells #[.int .i64 a0_0, .int .i64 a0_1, .int .i64 a0_2, .int .i64 a0_3, .int .i64 a0_4, .int .i64 a0_5, .int .i64 a0_6, .int .i64 a0_7, .int .i64 a0_8] 27 (0, 0))) ∧ (Below w.heap.size w w')) ?_ ?_
                       rotate_left
                       · intro hJ11
                         refine join_ (σ := Unit) 7 #[true, true, true, true, true, true, true, true, true, true, true, false, false, true, true, true, true, false, false, true, true, true, false, false, false] (fun s_ => [(25, .string t166)]) (fun s_ w' => (w'.cell? ⟨gb159, 0, none⟩ = some (.int .i64 a0_0) ∧ w'.cell? ⟨gb159, 1, none⟩ = some (.int .i64 a0_1) ∧ w'.cell? ⟨gb159, 2, none⟩ = some (.int .i64 a0_2) ∧ w'.cell? ⟨gb159, 3, none⟩ = some (.int .i64 a0_3) ∧ w'.cell? ⟨gb159, 4, none⟩ = some (.int .i64 a0_4) ∧ w'.cell? ⟨gb159, 5, none⟩ = some (.int .i64 a0_5) ∧ w'.cell? ⟨gb159, 6, none⟩ = some (.int .i64 a0_6) ∧ w'.cell? ⟨gb159, 7, none⟩ = some (.int .i64 a0_7) ∧ w'.cell? ⟨gb159, 8, none⟩ = some (.int .i64 a0_8)) ∧ (w'.heap[gb159]? = some (.cells #[.int .i64 a0_0, .int .i64 a0_1, .int .i64 a0_2, .int .i64 a0_3, .int .i64 a0_4, .int .i64 a0_5, .int .i64 a0_6, .int .i64 a0_7, .int .i64 a0_8] 27 (0, 0))) ∧ (Below w.heap.size w w')) ?_ ?_
                         rotate_left
                         · intro hJ16
                           refine two_ (i := 11) (j := 16) (Ni := some 20) (Nj := some 25) #[true, true, true, true, true, true, true, true, true, true, true, true, false, true, true, true, false, false, false, true, true, true, false, false, false] (mS 25 3794943) rfl rfl rfl rfl (two_of HT_.out (by kernel_rfl)) (by decide) (by decide) (fun K hK => ?_) (fun K hK => ?_)
                           · skip
                             refine Kd.R_lit_step (Kd.int .u8) _ 5 ?hg (N := 20) ?hd (xs := ([(Go.bits .or .i64 (wrap64 (a0_0 * 16)) 1) % 256, t161, t162] : List Int)) (inner := [.int .u8 ((Go.bits .or .i64 (wrap64 (a0_0 * 16)) 1) % 256), .int .u8 t161, .int .u8 t162]) (ok := fun _ => True) (okp := fun _ => True) ?hr ?hp (fun _ hk => hk) trivial (Below.refl _ _) (Nat.le_refl _) (by simp) ?_; (case hd => rfl); (case hg => rfl); (case hr => first | (go_simp; done) | (go_simp; rfl)); (case hp => exact (Reps.one (show Kd.M (Kd.int .u8) _ _ _ ((Go.bits .or .i64 (wrap64 (a0_0 * 16)) 1) % 256) [.int .u8 ((Go.bits .or .i64 (wrap64 (a0_0 * 16)) 1) % 256)] from rfl) (Reps.one (show Kd.M (Kd.int .u8) _ _ _ t161 [.int .u8 t161] from rfl) (Reps.one (show Kd.M (Kd.int .u8) _ _ _ t162 [.int .u8 t162] from rfl) (Reps.none _ _)))))
                             intro v164 w19 ho20 hb hg_ hnew_
                             clear hg_ hnew_
                             (first | rw [← Ny163.out] at ho20 | (simp only [Int.reduceToNat] at ho20; rw [← Ny163.out] at ho20))
                             have n0_ := Aside0.mk (Kd.R_lower ho20 (below_size (by repeat (first | (with_reducible first | exact HB.out | apply below_alloc | apply pw_below_drewN | apply below_drew1 | refine below_set ?_ GE159.out) | exact HB.out))))
                             have n1_ := Aside0.mk (blk_below (g := gb159) (o := .cells #[.int .i64 a0_0, .int .i64 a0_1, .int .i64 a0_2, .int .i64 a0_3, .int .i64 a0_4, .int .i64 a0_5, .int .i64 a0_6, .int .i64 a0_7, .int .i64 a0_8] 27 (0, 0)) (by (with_reducible repeat (first | refine blk_drewN ?_ _ | refine blk_drew ?_ | refine blk_alloc ?_ _)); exact BK159.out) hb)
                             have n2_ := Aside0.mk (below_step (by repeat (first | (with_reducible first | exact HB.out | apply below_alloc | apply pw_below_drewN | apply below_drew1 | refine below_set ?_ GE159.out) | exact HB.out)) hb)
                             clear BK159
                             clear HB
                             have HO165 := n0_
                             have BK159 := n1_
                             have HB := n2_
                             clear n0_ n1_ n2_
                             clear hb ho20
                             refine hK.out _ _ ⟨(blk_cell BK159.out 0).trans rfl, (blk_cell BK159.out 1).trans rfl, (blk_cell BK159.out 2).trans rfl, (blk_cell BK159.out 3).trans rfl, (blk_cell BK159.out 4).trans rfl, (blk_cell BK159.out 5).trans rfl, (blk_cell BK159.out 6).trans rfl, (blk_cell BK159.out 7).trans rfl, (blk_cell BK159.out 8).trans rfl⟩ (fun hHeld => ?_)
                             clear hK K
                             refine norm_ (a' := ?_) ?_ ?_
                             rotate_left
                             · show Act.put _ (some 20) _ = _
                               simp only [Act.put, List.setIfInBounds_toArray, List.set_cons_zero, List.set_cons_succ, i64_w, i32_w]
                               rfl
                             exact norm_ (by first | (simp only [putAll, Act.put, List.setIfInBounds_toArray, List.set_cons_zero, List.set_cons_succ]; done) | (simp only [putAll, Act.put, List.setIfInBounds_toArray, List.set_cons_zero, List.set_cons_succ]; rfl)) (hJ11 (v164) _ ⟨hHeld, (by (with_reducible repeat (first | apply Kd.R_alloc | apply Kd.R_drewN | apply Kd.R_drew)); exact HO165.out), (by (with_reducible repeat (first | refine blk_drewN ?_ _ | refine blk_drew ?_ | refine blk_alloc ?_ _)); exact BK159.out), (by repeat (first | (with_reducible first | exact HB.out | apply below_alloc | apply pw_below_drewN | apply below_drew1 | refine below_set ?_ GE159.out) | exact HB.out))⟩)
                           · skip
                             refine goesV_ Try.func40 (by kernel_rfl) rfl #[.agg #[.int .i64 a0_3, .int .i64 a0_4, .int .i64 a0_5]] (by rfl) rfl rfl rfl (by (try simp only [List.map_toArray, List.map_cons, List.map_nil]); first | done | rfl | (simp only [List.length_drop, List.length_take]; rfl)) ?_
                             with_reducible refine (subchannel_Encode_1.calls a0_3 a0_4 a0_5 t166 _ A6.out).mono ?_
                             rintro e w19 ⟨rfl, hb⟩
                             refine ⟨_, rfl, ?_⟩
                             have n0_ := Aside0.mk (blk_below (g := gb159) (o := .cells #[.int .i64 a0_0, .int .i64 a0_1, .int .i64 a0_2, .int .i64 a0_3, .int .i64 a0_4, .int .i64 a0_5, .int .i64 a0_6, .int .i64 a0_7, .int .i64 a0_8] 27 (0, 0)) (by (with_reducible repeat (first | refine blk_drewN ?_ _ | refine blk_drew ?_ | refine blk_alloc ?_ _)); exact BK159.out) hb)
                             have n1_ := Aside0.mk (below_step (by repeat (first | (with_reducible first | exact HB.out | apply below_alloc | apply pw_below_drewN | apply below_drew1 | refine below_set ?_ GE159.out) | exact HB.out)) hb)
                             clear BK159
                             clear HB
                             have BK159 := n0_
                             have HB := n1_
                             clear n0_ n1_
                             (try clear hb)
                             (try clear hb2)
                             (try clear hk)
                             (try clear hi)
                             refine hK.out _ _ ⟨(blk_cell BK159.out 0).trans rfl, (blk_cell BK159.out 1).trans rfl, (blk_cell BK159.out 2).trans rfl, (blk_cell BK159.out 3).trans rfl, (blk_cell BK159.out 4).trans rfl, (blk_cell BK159.out 5).trans rfl, (blk_cell BK159.out 6).trans rfl, (blk_cell BK159.out 7).trans rfl, (blk_cell BK159.out 8).trans rfl⟩ (fun hHeld => ?_)
                             clear hK K
                             refine norm_ (a' := ?_) ?_ ?_
                             rotate_left
                             · show Act.put _ (some 25) _ = _
                               simp only [Act.put, List.setIfInBounds_toArray, List.set_cons_zero, List.set_cons_succ, i64_w, i32_w]
                               rfl
                             exact norm_ (by first | (simp only [putAll, Act.put, List.setIfInBounds_toArray, List.set_cons_zero, List.set_cons_succ]; done) | (simp only [putAll, Act.put, List.setIfInBounds_toArray, List.set_cons_zero, List.set_cons_succ]; rfl)) (hJ16 () _ ⟨hHeld, (by (with_reducible repeat (first | refine blk_drewN ?_ _ | refine blk_drew ?_ | refine blk_alloc ?_ _)); exact BK159.out), (by repeat (first | (with_reducible first | exact HB.out | apply below_alloc | apply pw_below_drewN | apply below_drew1 | refine below_set ?_ GE159.out) | exact HB.out))⟩)
                         · skip
                           rintro _ w20 ⟨hS_, h0_, h1_⟩
                           have n0_ : Aside0 (w20.heap[gb159]? = some (.cells #[.int .i64 a0_0, .int .i64 a0_1, .int .i64 a0_2, .int .i64 a0_3, .int .i64 a0_4, .int .i64 a0_5, .int .i64 a0_6, .int .i64 a0_7, .int .i64 a0_8] 27 (0, 0))) := ⟨h0_⟩
                           have n1_ : Aside0 (Below w.heap.size w w20) := ⟨h1_⟩
                           clear BK159
                           clear HB
                           clear h0_ h1_
                           have BK159 := n0_
                           have HB := n1_
                           clear n0_ n1_
                           have hHeld : w20.cell? ⟨gb159, 0, none⟩ = some (.int .i64 a0_0) ∧ w20.cell? ⟨gb159, 1, none⟩ = some (.int .i64 a0_1) ∧ w20.cell? ⟨gb159, 2, none⟩ = some (.int .i64 a0_2) ∧ w20.cell? ⟨gb159, 3, none⟩ = some (.int .i64 a0_3) ∧ w20.cell? ⟨gb159, 4, none⟩ = some (.int .i64 a0_4) ∧ w20.cell? ⟨gb159, 5, none⟩ = some (.int .i64 a0_5) ∧ w20.cell? ⟨gb159, 6, none⟩ = some (.int .i64 a0_6) ∧ w20.cell? ⟨gb159, 7, none⟩ = some (.int .i64 a0_7) ∧ w20.cell? ⟨gb159, 8, none⟩ = some (.int .i64 a0_8) := hS_
                           refine norm_ (a' := ?_) ?_ ?_
                           rotate_left
                           · simp only [putAll, Act.put, List.setIfInBounds_toArray, List.set_cons_zero, List.set_cons_succ]
                             rfl
                           refine two_ (i := 11) (j := 22) (Ni := some 20) (Nj := some 31) #[true, true, true, true, true, true, true, true, true, true, true, true, false, true, true, true, true, false, false, true, true, true, false, false, false] (mS 25 7989247) rfl rfl rfl rfl (two_of HT_.out (by kernel_rfl)) (by decide) (by decide) (fun K hK => ?_) (fun K hK => ?_)
                           · skip
                             refine Kd.R_lit_step (Kd.int .u8) _ 5 ?hg (N := 20) ?hd (xs := ([(Go.bits .or .i64 (wrap64 (a0_0 * 16)) 1) % 256, t161, t162] : List Int)) (inner := [.int .u8 ((Go.bits .or .i64 (wrap64 (a0_0 * 16)) 1) % 256), .int .u8 t161, .int .u8 t162]) (ok := fun _ => True) (okp := fun _ => True) ?hr ?hp (fun _ hk => hk) trivial (Below.refl _ _) (Nat.le_refl _) (by simp) ?_; (case hd => rfl); (case hg => rfl); (case hr => first | (go_simp; done) | (go_simp; rfl)); (case hp => exact (Reps.one (show Kd.M (Kd.int .u8) _ _ _ ((Go.bits .or .i64 (wrap64 (a0_0 * 16)) 1) % 256) [.int .u8 ((Go.bits .or .i64 (wrap64 (a0_0 * 16)) 1) % 256)] from rfl) (Reps.one (show Kd.M (Kd.int .u8) _ _ _ t161 [.int .u8 t161] from rfl) (Reps.one (show Kd.M (Kd.int .u8) _ _ _ t162 [.int .u8 t162] from rfl) (Reps.none _ _)))))
                             intro v164 w21 ho22 hb hg_ hnew_
                             clear hg_ hnew_
                             (first | rw [← Ny163.out] at ho22 | (simp only [Int.reduceToNat] at ho22; rw [← Ny163.out] at ho22))
                             have n0_ := Aside0.mk (Kd.R_lower ho22 (below_size (by repeat (first | (with_reducible first | exact HB.out | apply below_alloc | apply pw_below_drewN | apply below_drew1 | refine below_set ?_ GE159.out) | exact HB.out))))
                             have n1_ := Aside0.mk (blk_below (g := gb159) (o := .cells #[.int .i64 a0_0, .int .i64 a0_1, .int .i64 a0_2, .int .i64 a0_3, .int .i64 a0_4, .int .i64 a0_5, .int .i64 a0_6, .int .i64 a0_7, .int .i64 a0_8] 27 (0, 0)) (by (with_reducible repeat (first | refine blk_drewN ?_ _ | refine blk_drew ?_ | refine blk_alloc ?_ _)); exact BK159.out) hb)
                             have n2_ := Aside0.mk (below_step (by repeat (first | (with_reducible first | exact HB.out | apply below_alloc | apply pw_below_drewN | apply below_drew1 | refine below_set ?_ GE159.out) | exact HB.out)) hb)
                             clear BK159
                             clear HB
                             have HO165 := n0_
                             have BK159 := n1_
                             have HB := n2_
                             clear n0_ n1_ n2_
                             clear hb ho22
                             refine hK.out _ _ ⟨(blk_cell BK159.out 0).trans rfl, (blk_cell BK159.out 1).trans rfl, (blk_cell BK159.out 2).trans rfl, (blk_cell BK159.out 3).trans rfl, (blk_cell BK159.out 4).trans rfl, (blk_cell BK159.out 5).trans rfl, (blk_cell BK159.out 6).trans rfl, (blk_cell BK159.out 7).trans rfl, (blk_cell BK159.out 8).trans rfl⟩ (fun hHeld => ?_)
                             clear hK K
                             refine norm_ (a' := ?_) ?_ ?_
                             rotate_left
                             · show Act.put _ (some 20) _ = _
                               simp only [Act.put, List.setIfInBounds_toArray, List.set_cons_zero, List.set_cons_succ, i64_w, i32_w]
                               rfl
                             exact norm_ (by first | (simp only [putAll, Act.put, List.setIfInBounds_toArray, List.set_cons_zero, List.set_cons_succ]; done) | (simp only [putAll, Act.put, List.setIfInBounds_toArray, List.set_cons_zero, List.set_cons_succ]; rfl)) (hJ11_16 (v164) _ ⟨hHeld, (by (with_reducible repeat (first | apply Kd.R_alloc | apply Kd.R_drewN | apply Kd.R_drew)); exact HO165.out), (by (with_reducible repeat (first | refine blk_drewN ?_ _ | refine blk_drew ?_ | refine blk_alloc ?_ _)); exact BK159.out), (by repeat (first | (with_reducible first | exact HB.out | apply below_alloc | apply pw_below_drewN | apply below_drew1 | refine below_set ?_ GE159.out) | exact HB.out))⟩)
                           · skip
                             refine goesV_ Try.func40 (by kernel_rfl) rfl #[.agg #[.int .i64 a0_6, .int .i64 a0_7, .int .i64 a0_8]] (by rfl) rfl rfl rfl (by (try simp only [List.map_toArray, List.map_cons, List.map_nil]); first | done | rfl | (simp only [List.length_drop, List.length_take]; rfl)) ?_
                             with_reducible refine (subchannel_Encode_1.calls a0_6 a0_7 a0_8 t167 _ A9.out).mono ?_
                             rintro e w21 ⟨rfl, hb⟩
                             refine ⟨_, rfl, ?_⟩
                             have n0_ := Aside0.mk (blk_below (g := gb159) (o := .cells #[.int .i64 a0_0, .int .i64 a0_1, .int .i64 a0_2, .int .i64 a0_3, .int .i64 a0_4, .int .i64 a0_5, .int .i64 a0_6, .int .i64 a0_7, .int .i64 a0_8] 27 (0, 0)) (by (with_reducible repeat (first | refine blk_drewN ?_ _ | refine blk_drew ?_ | refine blk_alloc ?_ _)); exact BK159.out) hb)
                             have n1_ := Aside0.mk (below_step (by repeat (first | (with_reducible first | exact HB.out | apply below_alloc | apply pw_below_drewN | apply below_drew1 | refine below_set ?_ GE159.out) | exact HB.out)) hb)
                             clear BK159
                             clear HB
                             have BK159 := n0_
                             have HB := n1_
                             clear n0_ n1_
                             (try clear hb)
                             (try clear hb2)
                             (try clear hk)
                             (try clear hi)
                             refine hK.out _ _ ⟨(blk_cell BK159.out 0).trans rfl, (blk_cell BK159.out 1).trans rfl, (blk_cell BK159.out 2).trans rfl, (blk_cell BK159.out 3).trans rfl, (blk_cell BK159.out 4).trans rfl, (blk_cell BK159.out 5).trans rfl, (blk_cell BK159.out 6).trans rfl, (blk_cell BK159.out 7).trans rfl, (blk_cell BK159.out 8).trans rfl⟩ (fun hHeld => ?_)
                             clear hK K
                             refine norm_ (a' := ?_) ?_ ?_
                             rotate_left
                             · show Act.put _ (some 31) _ = _
                               simp only [Act.put, List.setIfInBounds_toArray, List.set_cons_zero, List.set_cons_succ, i64_w, i32_w]
                               rfl
                             exact norm_ (by first | (simp only [putAll, Act.put, List.setIfInBounds_toArray, List.set_cons_zero, List.set_cons_succ]; done) | (simp only [putAll, Act.put, List.setIfInBounds_toArray, List.set_cons_zero, List.set_cons_succ]; rfl)) (hJ16_22 () _ ⟨hHeld, (by (with_reducible repeat (first | refine blk_drewN ?_ _ | refine blk_drew ?_ | refine blk_alloc ?_ _)); exact BK159.out), (by repeat (first | (with_reducible first | exact HB.out | apply below_alloc | apply pw_below_drewN | apply below_drew1 | refine below_set ?_ GE159.out) | exact HB.out))⟩)
                       · skip
                         rintro v164 w21 ⟨hS_, h0_, h1_, h2_⟩
                         have n0_ : Aside0 (Kd.R (Kd.int .u8) 5 w21 w.heap.size (fun _ => True) v164 y163) := ⟨h0_⟩
                         have n1_ : Aside0 (w21.heap[gb159]? = some (.cells #[.int .i64 a0_0, .int .i64 a0_1, .int .i64 a0_2, .int .i64 a0_3, .int .i64 a0_4, .int .i64 a0_5, .int .i64 a0_6, .int .i64 a0_7, .int .i64 a0_8] 27 (0, 0))) := ⟨h1_⟩
                         have n2_ : Aside0 (Below w.heap.size w w21) := ⟨h2_⟩
                         clear BK159
                         clear HB
                         clear h0_ h1_ h2_
                         have HO165 := n0_
                         have BK159 := n1_
                         have HB := n2_
                         clear n0_ n1_ n2_
                         have hHeld : w21.cell? ⟨gb159, 0, none⟩ = some (.int .i64 a0_0) ∧ w21.cell? ⟨gb159, 1, none⟩ = some (.int .i64 a0_1) ∧ w21.cell? ⟨gb159, 2, none⟩ = some (.int .i64 a0_2) ∧ w21.cell? ⟨gb159, 3, none⟩ = some (.int .i64 a0_3) ∧ w21.cell? ⟨gb159, 4, none⟩ = some (.int .i64 a0_4) ∧ w21.cell? ⟨gb159, 5, none⟩ = some (.int .i64 a0_5) ∧ w21.cell? ⟨gb159, 6, none⟩ = some (.int .i64 a0_6) ∧ w21.cell? ⟨gb159, 7, none⟩ = some (.int .i64 a0_7) ∧ w21.cell? ⟨gb159, 8, none⟩ = some (.int .i64 a0_8) := hS_
                         refine norm_ (a' := ?_) ?_ ?_
                         rotate_left
                         · simp only [putAll, Act.put, List.setIfInBounds_toArray, List.set_cons_zero, List.set_cons_succ]
                           rfl
                         refine two_ (i := 12) (j := 16) (Ni := some 21) (Nj := some 25) #[true, true, true, true, true, true, true, true, true, true, true, true, true, true, true, true, false, false, false, true, true, true, false, false, false] (mS 25 3796991) rfl rfl rfl rfl (two_of HT_.out (by kernel_rfl)) (by decide) (by decide) (fun K hK => ?_) (fun K hK => ?_)
                         · skip
                           have hcv22 := own_string (P := Try.prog) Try.underlying49 Try.underlying5 Try.underlying9 (Kd.own_of_R HO165.out)
                           refine value_ (w1 := ?_) (v := ?_) (by rfl) rfl ?_ ?_
                           rotate_left 2
                           · go_simp
                             constructor
                             · rfl
                             · rfl
                           clear hcv22
                           refine hK.out _ _ ⟨(blk_cell BK159.out 0).trans rfl, (blk_cell BK159.out 1).trans rfl, (blk_cell BK159.out 2).trans rfl, (blk_cell BK159.out 3).trans rfl, (blk_cell BK159.out 4).trans rfl, (blk_cell BK159.out 5).trans rfl, (blk_cell BK159.out 6).trans rfl, (blk_cell BK159.out 7).trans rfl, (blk_cell BK159.out 8).trans rfl⟩ (fun hHeld => ?_)
                           clear hK K
                           refine norm_ (a' := ?_) ?_ ?_
                           rotate_left
                           · show Act.put _ (some 21) _ = _
                             simp only [Act.put, List.setIfInBounds_toArray, List.set_cons_zero, List.set_cons_succ, i64_w, i32_w]
                             rfl
                           exact norm_ (by first | (simp only [putAll, Act.put, List.setIfInBounds_toArray, List.set_cons_zero, List.set_cons_succ]; done) | (simp only [putAll, Act.put, List.setIfInBounds_toArray, List.set_cons_zero, List.set_cons_succ]; rfl)) (hJ11_12 (v164) _ ⟨hHeld, (by (with_reducible repeat (first | apply Kd.R_alloc | apply Kd.R_drewN | apply Kd.R_drew)); exact HO165.out), (by (with_reducible repeat (first | refine blk_drewN ?_ _ | refine blk_drew ?_ | refine blk_alloc ?_ _)); exact BK159.out), (by repeat (first | (with_reducible first | exact HB.out | apply below_alloc | apply pw_below_drewN | apply below_drew1 | refine below_set ?_ GE159.out) | exact HB.out))⟩)
                         · skip
                           refine goesV_ Try.func40 (by kernel_rfl) rfl #[.agg #[.int .i64 a0_3, .int .i64 a0_4, .int .i64 a0_5]] (by rfl) rfl rfl rfl (by (try simp only [List.map_toArray, List.map_cons, List.map_nil]); first | done | rfl | (simp only [List.length_drop, List.length_take]; rfl)) ?_
                           with_reducible refine (subchannel_Encode_1.calls a0_3 a0_4 a0_5 t166 _ A6.out).mono ?_
                           rintro e w22 ⟨rfl, hb⟩
                           refine ⟨_, rfl, ?_⟩
                           have n0_ := Aside0.mk (Kd.R_below (by (with_reducible repeat (first | apply Kd.R_alloc | apply Kd.R_drewN | apply Kd.R_drew)); exact HO165.out) hb)
                           have n1_ := Aside0.mk (blk_below (g := gb159) (o := .cells #[.int .i64 a0_0, .int .i64 a0_1, .int .i64 a0_2, .int .i64 a0_3, .int .i64 a0_4, .int .i64 a0_5, .int .i64 a0_6, .int .i64 a0_7, .int .i64 a0_8] 27 (0, 0)) (by (with_reducible repeat (first | refine blk_drewN ?_ _ | refine blk_drew ?_ | refine blk_alloc ?_ _)); exact BK159.out) hb)
                           have n2_ := Aside0.mk (below_step (by repeat (first | (with_reducible first | exact HB.out | apply below_alloc | apply pw_below_drewN | apply below_drew1 | refine below_set ?_ GE159.out) | exact HB.out)) hb)
                           clear HO165
                           clear BK159
                           clear HB
                           have HO165 := n0_
                           have BK159 := n1_
                           have HB := n2_
                           clear n0_ n1_ n2_
                           (try clear hb)
                           (try clear hb2)
                           (try clear hk)
                           (try clear hi)
                           refine hK.out _ _ ⟨(blk_cell BK159.out 0).trans rfl, (blk_cell BK159.out 1).trans rfl, (blk_cell BK159.out 2).trans rfl, (blk_cell BK159.out 3).trans rfl, (blk_cell BK159.out 4).trans rfl, (blk_cell BK159.out 5).trans rfl, (blk_cell BK159.out 6).trans rfl, (blk_cell BK159.out 7).trans rfl, (blk_cell BK159.out 8).trans rfl⟩ (fun hHeld => ?_)
                           clear hK K
                           refine norm_ (a' := ?_) ?_ ?_
                           rotate_left
                           · show Act.put _ (some 25) _ = _
                             simp only [Act.put, List.setIfInBounds_toArray, List.set_cons_zero, List.set_cons_succ, i64_w, i32_w]
                             rfl
                           exact norm_ (by first | (simp only [putAll, Act.put, List.setIfInBounds_toArray, List.set_cons_zero, List.set_cons_succ]; done) | (simp only [putAll, Act.put, List.setIfInBounds_toArray, List.set_cons_zero, List.set_cons_succ]; rfl)) (hJ11_16 (v164) _ ⟨hHeld, (by (with_reducible repeat (first | apply Kd.R_alloc | apply Kd.R_drewN | apply Kd.R_drew)); exact HO165.out), (by (with_reducible repeat (first | refine blk_drewN ?_ _ | refine blk_drew ?_ | refine blk_alloc ?_ _)); exact BK159.out), (by repeat (first | (with_reducible first | exact HB.out | apply below_alloc | apply pw_below_drewN | apply below_drew1 | refine below_set ?_ GE159.out) | exact HB.out))⟩)
                     · skip
                       rintro _ w21 ⟨hS_, h0_, h1_⟩
                       have n0_ : Aside0 (w21.heap[gb159]? = some (.cells #[.int .i64 a0_0, .int .i64 a0_1, .int .i64 a0_2, .int .i64 a0_3, .int .i64 a0_4, .int .i64 a0_5, .int .i64 a0_6, .int .i64 a0_7, .int .i64 a0_8] 27 (0, 0))) := ⟨h0_⟩
                       have n1_ : Aside0 (Below w.heap.size w w21) := ⟨h1_⟩
                       clear BK159
                       clear HB
                       clear h0_ h1_
                       have BK159 := n0_
                       have HB := n1_
                       clear n0_ n1_
                       have hHeld : w21.cell? ⟨gb159, 0, none⟩ = some (.int .i64 a0_0) ∧ w21.cell? ⟨gb159, 1, none⟩ = some (.int .i64 a0_1) ∧ w21.cell? ⟨gb159, 2, none⟩ = some (.int .i64 a0_2) ∧ w21.cell? ⟨gb159, 3, none⟩ = some (.int .i64 a0_3) ∧ w21.cell? ⟨gb159, 4, none⟩ = some (.int .i64 a0_4) ∧ w21.cell? ⟨gb159, 5, none⟩ = some (.int .i64 a0_5) ∧ w21.cell? ⟨gb159, 6, none⟩ = some (.int .i64 a0_6) ∧ w21.cell? ⟨gb159, 7, none⟩ = some (.int .i64 a0_7) ∧ w21.cell? ⟨gb159, 8, none⟩ = some (.int .i64 a0_8) := hS_
                       refine norm_ (a' := ?_) ?_ ?_
                       rotate_left
                       · simp only [putAll, Act.put, List.setIfInBounds_toArray, List.set_cons_zero, List.set_cons_succ]
                         rfl
                       refine one_ (i := 11) (N := some 20) (mS 25 7991295) rfl rfl (one_of HT_.out (by kernel_rfl)) (by decide) (fun K hK => ?_)
                       refine Kd.R_lit_step (Kd.int .u8) _ 5 ?hg (N := 20) ?hd (xs := ([(Go.bits .or .i64 (wrap64 (a0_0 * 16)) 1) % 256, t161, t162] : List Int)) (inner := [.int .u8 ((Go.bits .or .i64 (wrap64 (a0_0 * 16)) 1) % 256), .int .u8 t161, .int .u8 t162]) (ok := fun _ => True) (okp := fun _ => True) ?hr ?hp (fun _ hk => hk) trivial (Below.refl _ _) (Nat.le_refl _) (by simp) ?_; (case hd => rfl); (case hg => rfl); (case hr => first | (go_simp; done) | (go_simp; rfl)); (case hp => exact (Reps.one (show Kd.M (Kd.int .u8) _ _ _ ((Go.bits .or .i64 (wrap64 (a0_0 * 16)) 1) % 256) [.int .u8 ((Go.bits .or .i64 (wrap64 (a0_0 * 16)) 1) % 256)] from rfl) (Reps.one (show Kd.M (Kd.int .u8) _ _ _ t161 [.int .u8 t161] from rfl) (Reps.one (show Kd.M (Kd.int .u8) _ _ _ t162 [.int .u8 t162] from rfl) (Reps.none _ _)))))
                       intro v164 w22 ho23 hb hg_ hnew_
                       clear hg_ hnew_
                       (first | rw [← Ny163.out] at ho23 | (simp only [Int.reduceToNat] at ho23; rw [← Ny163.out] at ho23))
                       have n0_ := Aside0.mk (Kd.R_lower ho23 (below_size (by repeat (first | (with_reducible first | exact HB.out | apply below_alloc | apply pw_below_drewN | apply below_drew1 | refine below_set ?_ GE159.out) | exact HB.out))))
                       have n1_ := Aside0.mk (blk_below (g := gb159) (o := .cells #[.int .i64 a0_0, .int .i64 a0_1, .int .i64 a0_2, .int .i64 a0_3, .int .i64 a0_4, .int .i64 a0_5, .int .i64 a0_6, .int .i64 a0_7, .int .i64 a0_8] 27 (0, 0)) (by (with_reducible repeat (first | refine blk_drewN ?_ _ | refine blk_drew ?_ | refine blk_alloc ?_ _)); exact BK159.out) hb)
                       have n2_ := Aside0.mk (below_step (by repeat (first | (with_reducible first | exact HB.out | apply below_alloc | apply pw_below_drewN | apply below_drew1 | refine below_set ?_ GE159.out) | exact HB.out)) hb)
                       clear BK159
                       clear HB
                       have HO165 := n0_
                       have BK159 := n1_
                       have HB := n2_
                       clear n0_ n1_ n2_
                       clear hb ho23
                       refine hK.out _ _ ⟨(blk_cell BK159.out 0).trans rfl, (blk_cell BK159.out 1).trans rfl, (blk_cell BK159.out 2).trans rfl, (blk_cell BK159.out 3).trans rfl, (blk_cell BK159.out 4).trans rfl, (blk_cell BK159.out 5).trans rfl, (blk_cell BK159.out 6).trans rfl, (blk_cell BK159.out 7).trans rfl, (blk_cell BK159.out 8).trans rfl⟩ (fun hHeld => ?_)
                       clear hK K
                       refine norm_ (a' := ?_) ?_ ?_
                       rotate_left
                       · show Act.put _ (some 20) _ = _
                         simp only [Act.put, List.setIfInBounds_toArray, List.set_cons_zero, List.set_cons_succ, i64_w, i32_w]
                         rfl
                       exact norm_ (by first | (simp only [putAll, Act.put, List.setIfInBounds_toArray, List.set_cons_zero, List.set_cons_succ]; done) | (simp only [putAll, Act.put, List.setIfInBounds_toArray, List.set_cons_zero, List.set_cons_succ]; rfl)) (hJ11_16_22 (v164) _ ⟨hHeld, (by (with_reducible repeat (first | apply Kd.R_alloc | apply Kd.R_drewN | apply Kd.R_drew)); exact HO165.out), (by (with_reducible repeat (first | refine blk_drewN ?_ _ | refine blk_drew ?_ | refine blk_alloc ?_ _)); exact BK159.out), (by repeat (first | (with_reducible first | exact HB.out | apply below_alloc | apply pw_below_drewN | apply below_drew1 | refine below_set ?_ GE159.out) | exact HB.out))⟩)
                   · skip
                     rintro v164 w22 ⟨hS_, h0_, h1_, h2_⟩
                     have n0_ : Aside0 (Kd.R (Kd.int .u8) 5 w22 w.heap.size (fun _ => True) v164 y163) := ⟨h0_⟩
                     have n1_ : Aside0 (w22.heap[gb159]? = some (.cells #[.int .i64 a0_0, .int .i64 a0_1, .int .i64 a0_2, .int .i64 a0_3, .int .i64 a0_4, .int .i64 a0_5, .int .i64 a0_6, .int .i64 a0_7, .int .i64 a0_8] 27 (0, 0))) := ⟨h1_⟩
                     have n2_ : Aside0 (Below w.heap.size w w22) := ⟨h2_⟩
                     clear BK159
                     clear HB
                     clear h0_ h1_ h2_
                     have HO165 := n0_
                     have BK159 := n1_
                     have HB := n2_
                     clear n0_ n1_ n2_
                     have hHeld : w22.cell? ⟨gb159, 0, none⟩ = some (.int .i64 a0_0) ∧ w22.cell? ⟨gb159, 1, none⟩ = some (.int .i64 a0_1) ∧ w22.cell? ⟨gb159, 2, none⟩ = some (.int .i64 a0_2) ∧ w22.cell? ⟨gb159, 3, none⟩ = some (.int .i64 a0_3) ∧ w22.cell? ⟨gb159, 4, none⟩ = some (.int .i64 a0_4) ∧ w22.cell? ⟨gb159, 5, none⟩ = some (.int .i64 a0_5) ∧ w22.cell? ⟨gb159, 6, none⟩ = some (.int .i64 a0_6) ∧ w22.cell? ⟨gb159, 7, none⟩ = some (.int .i64 a0_7) ∧ w22.cell? ⟨gb159, 8, none⟩ = some (.int .i64 a0_8) := hS_
                     refine norm_ (a' := ?_) ?_ ?_
                     rotate_left
                     · simp only [putAll, Act.put, List.setIfInBounds_toArray, List.set_cons_zero, List.set_cons_succ]
                       rfl
                     refine two_ (i := 12) (j := 22) (Ni := some 21) (Nj := some 31) #[true, true, true, true, true, true, true, true, true, true, true, true, true, true, true, true, true, false, false, true, true, true, false, false, false] (mS 25 7991295) rfl rfl rfl rfl (two_of HT_.out (by kernel_rfl)) (by decide) (by decide) (fun K hK => ?_) (fun K hK => ?_)
                     · skip
                       have hcv23 := own_string (P := Try.prog) Try.underlying49 Try.underlying5 Try.underlying9 (Kd.own_of_R HO165.out)
                       refine value_ (w1 := ?_) (v := ?_) (by rfl) rfl ?_ ?_
                       rotate_left 2
                       · go_simp
                         constructor
                         · rfl
                         · rfl
                       clear hcv23
                       refine hK.out _ _ ⟨(blk_cell BK159.out 0).trans rfl, (blk_cell BK159.out 1).trans rfl, (blk_cell BK159.out 2).trans rfl, (blk_cell BK159.out 3).trans rfl, (blk_cell BK159.out 4).trans rfl, (blk_cell BK159.out 5).trans rfl, (blk_cell BK159.out 6).trans rfl, (blk_cell BK159.out 7).trans rfl, (blk_cell BK159.out 8).trans rfl⟩ (fun hHeld => ?_)
                       clear hK K
                       refine norm_ (a' := ?_) ?_ ?_
                       rotate_left
                       · show Act.put _ (some 21) _ = _
                         simp only [Act.put, List.setIfInBounds_toArray, List.set_cons_zero, List.set_cons_succ, i64_w, i32_w]
                         rfl
                       refine pure_ (i := 17) (N := some 26) (v := ?_) (a' := ?_) (mS 25 3932159) rfl rfl (any_of HT_.out (by kernel_rfl)) (fun _ _ _ h => h) (Or.inl ⟨by rfl, ?_⟩) ?_ ?_
                       rotate_left
                       · intro w'
                         go_simp
                         with_reducible rfl
                       rotate_left
                       · simp only [Act.put, List.setIfInBounds_toArray, List.set_cons_zero, List.set_cons_succ, i64_w, i32_w]
                         rfl
                       refine pure_ (i := 18) (N := some 27) (v := ?_) (a' := ?_) (mS 25 4194303) rfl rfl (any_of HT_.out (by kernel_rfl)) (fun _ _ _ h => h) (Or.inl ⟨by rfl, ?_⟩) ?_ ?_
                       rotate_left
                       · intro w'
                         go_simp
                         with_reducible rfl
                       rotate_left
                       · simp only [Act.put, List.setIfInBounds_toArray, List.set_cons_zero, List.set_cons_succ, i64_w, i32_w]
                         rfl
                       exact norm_ (by first | (simp only [putAll, Act.put, List.setIfInBounds_toArray, List.set_cons_zero, List.set_cons_succ]; done) | (simp only [putAll, Act.put, List.setIfInBounds_toArray, List.set_cons_zero, List.set_cons_succ]; rfl)) (hJ11_12_16 (v164) _ ⟨hHeld, (by (with_reducible repeat (first | apply Kd.R_alloc | apply Kd.R_drewN | apply Kd.R_drew)); exact HO165.out), (by (with_reducible repeat (first | refine blk_drewN ?_ _ | refine blk_drew ?_ | refine blk_alloc ?_ _)); exact BK159.out), (by repeat (first | (with_reducible first | exact HB.out | apply below_alloc | apply pw_below_drewN | apply below_drew1 | refine below_set ?_ GE159.out) | exact HB.out))⟩)
                     · skip
                       refine goesV_ Try.func40 (by kernel_rfl) rfl #[.agg #[.int .i64 a0_6, .int .i64 a0_7, .int .i64 a0_8]] (by rfl) rfl rfl rfl (by (try simp only [List.map_toArray, List.map_cons, List.map_nil]); first | done | rfl | (simp only [List.length_drop, List.length_take]; rfl)) ?_
                       with_reducible refine (subchannel_Encode_1.calls a0_6 a0_7 a0_8 t167 _ A9.out).mono ?_
                       rintro e w23 ⟨rfl, hb⟩
                       refine ⟨_, rfl, ?_⟩
                       have n0_ := Aside0.mk (Kd.R_below (by (with_reducible repeat (first | apply Kd.R_alloc | apply Kd.R_drewN | apply Kd.R_drew)); exact HO165.out) hb)
                       have n1_ := Aside0.mk (blk_below (g := gb159) (o := .cells #[.int .i64 a0_0, .int .i64 a0_1, .int .i64 a0_2, .int .i64 a0_3, .int .i64 a0_4, .int .i64 a0_5, .int .i64 a0_6, .int .i64 a0_7, .int .i64 a0_8] 27 (0, 0)) (by (with_reducible repeat (first | refine blk_drewN ?_ _ | refine blk_drew ?_ | refine blk_alloc ?_ _)); exact BK159.out) hb)
                       have n2_ := Aside0.mk (below_step (by repeat (first | (with_reducible first | exact HB.out | apply below_alloc | apply pw_below_drewN | apply below_drew1 | refine below_set ?_ GE159.out) | exact HB.out)) hb)
                       clear HO165
                       clear BK159
                       clear HB
                       have HO165 := n0_
                       have BK159 := n1_
                       have HB := n2_
                       clear n0_ n1_ n2_
                       (try clear hb)
                       (try clear hb2)
                       (try clear hk)
                       (try clear hi)
                       refine hK.out _ _ ⟨(blk_cell BK159.out 0).trans rfl, (blk_cell BK159.out 1).trans rfl, (blk_cell BK159.out 2).trans rfl, (blk_cell BK159.out 3).trans rfl, (blk_cell BK159.out 4).trans rfl, (blk_cell BK159.out 5).trans rfl, (blk_cell BK159.out 6).trans rfl, (blk_cell BK159.out 7).trans rfl, (blk_cell BK159.out 8).trans rfl⟩ (fun hHeld => ?_)
                       clear hK K
                       refine norm_ (a' := ?_) ?_ ?_
                       rotate_left
                       · show Act.put _ (some 31) _ = _
                         simp only [Act.put, List.setIfInBounds_toArray, List.set_cons_zero, List.set_cons_succ, i64_w, i32_w]
                         rfl
                       exact norm_ (by first | (simp only [putAll, Act.put, List.setIfInBounds_toArray, List.set_cons_zero, List.set_cons_succ]; done) | (simp only [putAll, Act.put, List.setIfInBounds_toArray, List.set_cons_zero, List.set_cons_succ]; rfl)) (hJ11_16_22 (v164) _ ⟨hHeld, (by (with_reducible repeat (first | apply Kd.R_alloc | apply Kd.R_drewN | apply Kd.R_drew)); exact HO165.out), (by (with_reducible repeat (first | refine blk_drewN ?_ _ | refine blk_drew ?_ | refine blk_alloc ?_ _)); exact BK159.out), (by repeat (first | (with_reducible first | exact HB.out | apply below_alloc | apply pw_below_drewN | apply below_drew1 | refine below_set ?_ GE159.out) | exact HB.out))⟩)
                 · skip
                   rintro v164 w22 ⟨hS_, h0_, h1_, h2_⟩
                   have n0_ : Aside0 (Kd.R (Kd.int .u8) 5 w22 w.heap.size (fun _ => True) v164 y163) := ⟨h0_⟩
                   have n1_ : Aside0 (w22.heap[gb159]? = some (.cells #[.int .i64 a0_0, .int .i64 a0_1, .int .i64 a0_2, .int .i64 a0_3, .int .i64 a0_4, .int .i64 a0_5, .int .i64 a0_6, .int .i64 a0_7, .int .i64 a0_8] 27 (0, 0))) := ⟨h1_⟩
                   have n2_ : Aside0 (Below w.heap.size w w22) := ⟨h2_⟩
                   clear BK159
                   clear HB
                   clear h0_ h1_ h2_
                   have HO165 := n0_
                   have BK159 := n1_
                   have HB := n2_
                   clear n0_ n1_ n2_
                   have hHeld : w22.cell? ⟨gb159, 0, none⟩ = some (.int .i64 a0_0) ∧ w22.cell? ⟨gb159, 1, none⟩ = some (.int .i64 a0_1) ∧ w22.cell? ⟨gb159, 2, none⟩ = some (.int .i64 a0_2) ∧ w22.cell? ⟨gb159, 3, none⟩ = some (.int .i64 a0_3) ∧ w22.cell? ⟨gb159, 4, none⟩ = some (.int .i64 a0_4) ∧ w22.cell? ⟨gb159, 5, none⟩ = some (.int .i64 a0_5) ∧ w22.cell? ⟨gb159, 6, none⟩ = some (.int .i64 a0_6) ∧ w22.cell? ⟨gb159, 7, none⟩ = some (.int .i64 a0_7) ∧ w22.cell? ⟨gb159, 8, none⟩ = some (.int .i64 a0_8) := hS_
                   refine norm_ (a' := ?_) ?_ ?_
                   rotate_left
                   · simp only [putAll, Act.put, List.setIfInBounds_toArray, List.set_cons_zero, List.set_cons_succ]
                     rfl
                   refine one_ (i := 16) (N := some 25) (mS 25 3801087) rfl rfl (one_of HT_.out (by kernel_rfl)) (by decide) (fun K hK => ?_)
                   refine goesV_ Try.func40 (by kernel_rfl) rfl #[.agg #[.int .i64 a0_3, .int .i64 a0_4, .int .i64 a0_5]] (by rfl) rfl rfl rfl (by (try simp only [List.map_toArray, List.map_cons, List.map_nil]); first | done | rfl | (simp only [List.length_drop, List.length_take]; rfl)) ?_
                   with_reducible refine (subchannel_Encode_1.calls a0_3 a0_4 a0_5 t166 _ A6.out).mono ?_
                   rintro e w23 ⟨rfl, hb⟩
                   refine ⟨_, rfl, ?_⟩
                   have n0_ := Aside0.mk (Kd.R_below (by (with_reducible repeat (first | apply Kd.R_alloc | apply Kd.R_drewN | apply Kd.R_drew)); exact HO165.out) hb)
                   have n1_ := Aside0.mk (blk_below (g := gb159) (o := .cells #[.int .i64 a0_0, .int .i64 a0_1, .int .i64 a0_2, .int .i64 a0_3, .int .i64 a0_4, .int .i64 a0_5, .int .i64 a0_6, .int .i64 a0_7, .int .i64 a0_8] 27 (0, 0)) (by (with_reducible repeat (first | refine blk_drewN ?_ _ | refine blk_drew ?_ | refine blk_alloc ?_ _)); exact BK159.out) hb)
                   have n2_ := Aside0.mk (below_step (by repeat (first | (with_reducible first | exact HB.out | apply below_alloc | apply pw_below_drewN | apply below_drew1 | refine below_set ?_ GE159.out) | exact HB.out)) hb)
                   clear HO165
                   clear BK159
                   clear HB
                   have HO165 := n0_
                   have BK159 := n1_
                   have HB := n2_
                   clear n0_ n1_ n2_
                   (try clear hb)
                   (try clear hb2)
                   (try clear hk)
                   (try clear hi)
                   refine hK.out _ _ ⟨(blk_cell BK159.out 0).trans rfl, (blk_cell BK159.out 1).trans rfl, (blk_cell BK159.out 2).trans rfl, (blk_cell BK159.out 3).trans rfl, (blk_cell BK159.out 4).trans rfl, (blk_cell BK159.out 5).trans rfl, (blk_cell BK159.out 6).trans rfl, (blk_cell BK159.out 7).trans rfl, (blk_cell BK159.out 8).trans rfl⟩ (fun hHeld => ?_)
                   clear hK K
                   refine norm_ (a' := ?_) ?_ ?_
                   rotate_left
                   · show Act.put _ (some 25) _ = _
                     simp only [Act.put, List.setIfInBounds_toArray, List.set_cons_zero, List.set_cons_succ, i64_w, i32_w]
                     rfl
                   refine pure_ (i := 17) (N := some 26) (v := ?_) (a' := ?_) (mS 25 3932159) rfl rfl (any_of HT_.out (by kernel_rfl)) (fun _ _ _ h => h) (Or.inl ⟨by rfl, ?_⟩) ?_ ?_
                   rotate_left
                   · intro w'
                     go_simp
                     with_reducible rfl
                   rotate_left
                   · simp only [Act.put, List.setIfInBounds_toArray, List.set_cons_zero, List.set_cons_succ, i64_w, i32_w]
                     rfl
                   refine pure_ (i := 18) (N := some 27) (v := ?_) (a' := ?_) (mS 25 4194303) rfl rfl (any_of HT_.out (by kernel_rfl)) (fun _ _ _ h => h) (Or.inl ⟨by rfl, ?_⟩) ?_ ?_
                   rotate_left
                   · intro w'
                     go_simp
                     with_reducible rfl
                   rotate_left
                   · simp only [Act.put, List.setIfInBounds_toArray, List.set_cons_zero, List.set_cons_succ, i64_w, i32_w]
                     rfl
                   exact norm_ (by first | (simp only [putAll, Act.put, List.setIfInBounds_toArray, List.set_cons_zero, List.set_cons_succ]; done) | (simp only [putAll, Act.put, List.setIfInBounds_toArray, List.set_cons_zero, List.set_cons_succ]; rfl)) (hJ11_12_16 (v164) _ ⟨hHeld, (by (with_reducible repeat (first | apply Kd.R_alloc | apply Kd.R_drewN | apply Kd.R_drew)); exact HO165.out), (by (with_reducible repeat (first | refine blk_drewN ?_ _ | refine blk_drew ?_ | refine blk_alloc ?_ _)); exact BK159.out), (by repeat (first | (with_reducible first | exact HB.out | apply below_alloc | apply pw_below_drewN | apply below_drew1 | refine below_set ?_ GE159.out) | exact HB.out))⟩)
               · skip
                 rintro v164 w23 ⟨hS_, h0_, h1_, h2_⟩
                 have n0_ : Aside0 (Kd.R (Kd.int .u8) 5 w23 w.heap.size (fun _ => True) v164 y163) := ⟨h0_⟩
                 have n1_ : Aside0 (w23.heap[gb159]? = some (.cells #[.int .i64 a0_0, .int .i64 a0_1, .int .i64 a0_2, .int .i64 a0_3, .int .i64 a0_4, .int .i64 a0_5, .int .i64 a0_6, .int .i64 a0_7, .int .i64 a0_8] 27 (0, 0))) := ⟨h1_⟩
                 have n2_ : Aside0 (Below w.heap.size w w23) := ⟨h2_⟩
                 clear BK159
                 clear HB
                 clear h0_ h1_ h2_
                 have HO165 := n0_
                 have BK159 := n1_
                 have HB := n2_
                 clear n0_ n1_ n2_
                 have hHeld : w23.cell? ⟨gb159, 0, none⟩ = some (.int .i64 a0_0) ∧ w23.cell? ⟨gb159, 1, none⟩ = some (.int .i64 a0_1) ∧ w23.cell? ⟨gb159, 2, none⟩ = some (.int .i64 a0_2) ∧ w23.cell? ⟨gb159, 3, none⟩ = some (.int .i64 a0_3) ∧ w23.cell? ⟨gb159, 4, none⟩ = some (.int .i64 a0_4) ∧ w23.cell? ⟨gb159, 5, none⟩ = some (.int .i64 a0_5) ∧ w23.cell? ⟨gb159, 6, none⟩ = some (.int .i64 a0_6) ∧ w23.cell? ⟨gb159, 7, none⟩ = some (.int .i64 a0_7) ∧ w23.cell? ⟨gb159, 8, none⟩ = some (.int .i64 a0_8) := hS_
                 refine norm_ (a' := ?_) ?_ ?_
                 rotate_left
                 · simp only [putAll, Act.put, List.setIfInBounds_toArray, List.set_cons_zero, List.set_cons_succ]
                   rfl
                 refine one_ (i := 12) (N := some 21) (mS 25 7995391) rfl rfl (one_of HT_.out (by kernel_rfl)) (by decide) (fun K hK => ?_)
                 have hcv24 := own_string (P := Try.prog) Try.underlying49 Try.underlying5 Try.underlying9 (Kd.own_of_R HO165.out)
                 refine value_ (w1 := ?_) (v := ?_) (by rfl) rfl ?_ ?_
                 rotate_left 2
                 · go_simp
                   constructor
                   · rfl
                   · rfl
                 clear hcv24
                 refine hK.out _ _ ⟨(blk_cell BK159.out 0).trans rfl, (blk_cell BK159.out 1).trans rfl, (blk_cell BK159.out 2).trans rfl, (blk_cell BK159.out 3).trans rfl, (blk_cell BK159.out 4).trans rfl, (blk_cell BK159.out 5).trans rfl, (blk_cell BK159.out 6).trans rfl, (blk_cell BK159.out 7).trans rfl, (blk_cell BK159.out 8).trans rfl⟩ (fun hHeld => ?_)
                 clear hK K
                 refine norm_ (a' := ?_) ?_ ?_
                 rotate_left
                 · show Act.put _ (some 21) _ = _
                   simp only [Act.put, List.setIfInBounds_toArray, List.set_cons_zero, List.set_cons_succ, i64_w, i32_w]
                   rfl
                 refine pure_ (i := 17) (N := some 26) (v := ?_) (a' := ?_) (mS 25 8126463) rfl rfl (any_of HT_.out (by kernel_rfl)) (fun _ _ _ h => h) (Or.inl ⟨by rfl, ?_⟩) ?_ ?_
                 rotate_left
                 · intro w'
                   go_simp
                   with_reducible rfl
                 rotate_left
                 · simp only [Act.put, List.setIfInBounds_toArray, List.set_cons_zero, List.set_cons_succ, i64_w, i32_w]
                   rfl
                 refine pure_ (i := 18) (N := some 27) (v := ?_) (a' := ?_) (mS 25 8388607) rfl rfl (any_of HT_.out (by kernel_rfl)) (fun _ _ _ h => h) (Or.inl ⟨by rfl, ?_⟩) ?_ ?_
                 rotate_left
                 · intro w'
                   go_simp
                   with_reducible rfl
                 rotate_left
                 · simp only [Act.put, List.setIfInBounds_toArray, List.set_cons_zero, List.set_cons_succ, i64_w, i32_w]
                   rfl
                 exact norm_ (by first | (simp only [putAll, Act.put, List.setIfInBounds_toArray, List.set_cons_zero, List.set_cons_succ]; done) | (simp only [putAll, Act.put, List.setIfInBounds_toArray, List.set_cons_zero, List.set_cons_succ]; rfl)) (hJ11_12_16_22 (v164) _ ⟨hHeld, (by (with_reducible repeat (first | apply Kd.R_alloc | apply Kd.R_drewN | apply Kd.R_drew)); exact HO165.out), (by (with_reducible repeat (first | refine blk_drewN ?_ _ | refine blk_drew ?_ | refine blk_alloc ?_ _)); exact BK159.out), (by repeat (first | (with_reducible first | exact HB.out | apply below_alloc | apply pw_below_drewN | apply below_drew1 | refine below_set ?_ GE159.out) | exact HB.out))⟩)
             · skip
               rintro v164 w23 ⟨hS_, h0_, h1_, h2_⟩
               have n0_ : Aside0 (Kd.R (Kd.int .u8) 5 w23 w.heap.size (fun _ => True) v164 y163) := ⟨h0_⟩
               have n1_ : Aside0 (w23.heap[gb159]? = some (.cells #[.int .i64 a0_0, .int .i64 a0_1, .int .i64 a0_2, .int .i64 a0_3, .int .i64 a0_4, .int .i64 a0_5, .int .i64 a0_6, .int .i64 a0_7, .int .i64 a0_8] 27 (0, 0))) := ⟨h1_⟩
               have n2_ : Aside0 (Below w.heap.size w w23) := ⟨h2_⟩
               clear BK159
               clear HB
               clear h0_ h1_ h2_
               have HO165 := n0_
               have BK159 := n1_
               have HB := n2_
               clear n0_ n1_ n2_
               have hHeld : w23.cell? ⟨gb159, 0, none⟩ = some (.int .i64 a0_0) ∧ w23.cell? ⟨gb159, 1, none⟩ = some (.int .i64 a0_1) ∧ w23.cell? ⟨gb159, 2, none⟩ = some (.int .i64 a0_2) ∧ w23.cell? ⟨gb159, 3, none⟩ = some (.int .i64 a0_3) ∧ w23.cell? ⟨gb159, 4, none⟩ = some (.int .i64 a0_4) ∧ w23.cell? ⟨gb159, 5, none⟩ = some (.int .i64 a0_5) ∧ w23.cell? ⟨gb159, 6, none⟩ = some (.int .i64 a0_6) ∧ w23.cell? ⟨gb159, 7, none⟩ = some (.int .i64 a0_7) ∧ w23.cell? ⟨gb159, 8, none⟩ = some (.int .i64 a0_8) := hS_
               refine norm_ (a' := ?_) ?_ ?_
               rotate_left
               · simp only [putAll, Act.put, List.setIfInBounds_toArray, List.set_cons_zero, List.set_cons_succ]
                 rfl
               refine one_ (i := 22) (N := some 31) (mS 25 8388607) rfl rfl (one_of HT_.out (by kernel_rfl)) (by decide) (fun K hK => ?_)
               refine goesV_ Try.func40 (by kernel_rfl) rfl #[.agg #[.int .i64 a0_6, .int .i64 a0_7, .int .i64 a0_8]] (by rfl) rfl rfl rfl (by (try simp only [List.map_toArray, List.map_cons, List.map_nil]); first | done | rfl | (simp only [List.length_drop, List.length_take]; rfl)) ?_
               with_reducible refine (subchannel_Encode_1.calls a0_6 a0_7 a0_8 t167 _ A9.out).mono ?_
               rintro e w24 ⟨rfl, hb⟩
               refine ⟨_, rfl, ?_⟩
               have n0_ := Aside0.mk (Kd.R_below (by (with_reducible repeat (first | apply Kd.R_alloc | apply Kd.R_drewN | apply Kd.R_drew)); exact HO165.out) hb)
               have n1_ := Aside0.mk (blk_below (g := gb159) (o := .cells #[.int .i64 a0_0, .int .i64 a0_1, .int .i64 a0_2, .int .i64 a0_3, .int .i64 a0_4, .int .i64 a0_5, .int .i64 a0_6, .int .i64 a0_7, .int .i64 a0_8] 27 (0, 0)) (by (with_reducible repeat (first | refine blk_drewN ?_ _ | refine blk_drew ?_ | refine blk_alloc ?_ _)); exact BK159.out) hb)
               have n2_ := Aside0.mk (below_step (by repeat (first | (with_reducible first | exact HB.out | apply below_alloc | apply pw_below_drewN | apply below_drew1 | refine below_set ?_ GE159.out) | exact HB.out)) hb)
               clear HO165
               clear BK159
               clear HB
               have HO165 := n0_
               have BK159 := n1_
               have HB := n2_
               clear n0_ n1_ n2_
               (try clear hb)
               (try clear hb2)
               (try clear hk)
               (try clear hi)
               refine hK.out _ _ ⟨(blk_cell BK159.out 0).trans rfl, (blk_cell BK159.out 1).trans rfl, (blk_cell BK159.out 2).trans rfl, (blk_cell BK159.out 3).trans rfl, (blk_cell BK159.out 4).trans rfl, (blk_cell BK159.out 5).trans rfl, (blk_cell BK159.out 6).trans rfl, (blk_cell BK159.out 7).trans rfl, (blk_cell BK159.out 8).trans rfl⟩ (fun hHeld => ?_)
               clear hK K
               refine norm_ (a' := ?_) ?_ ?_
               rotate_left
               · show Act.put _ (some 31) _ = _
                 simp only [Act.put, List.setIfInBounds_toArray, List.set_cons_zero, List.set_cons_succ, i64_w, i32_w]
                 rfl
               exact norm_ (by first | (simp only [putAll, Act.put, List.setIfInBounds_toArray, List.set_cons_zero, List.set_cons_succ]; done) | (simp only [putAll, Act.put, List.setIfInBounds_toArray, List.set_cons_zero, List.set_cons_succ]; rfl)) (hJ11_12_16_22 (v164) _ ⟨hHeld, (by (with_reducible repeat (first | apply Kd.R_alloc | apply Kd.R_drewN | apply Kd.R_drew)); exact HO165.out), (by (with_reducible repeat (first | refine blk_drewN ?_ _ | refine blk_drew ?_ | refine blk_alloc ?_ _)); exact BK159.out), (by repeat (first | (with_reducible first | exact HB.out | apply below_alloc | apply pw_below_drewN | apply below_drew1 | refine below_set ?_ GE159.out) | exact HB.out))⟩)
           rintro v164 w24 ⟨hS_, h0_, h1_, h2_⟩
           have n0_ : Aside0 (Kd.R (Kd.int .u8) 5 w24 w.heap.size (fun _ => True) v164 y163) := ⟨h0_⟩
           have n1_ : Aside0 (w24.heap[gb159]? = some (.cells #[.int .i64 a0_0, .int .i64 a0_1, .int .i64 a0_2, .int .i64 a0_3, .int .i64 a0_4, .int .i64 a0_5, .int .i64 a0_6, .int .i64 a0_7, .int .i64 a0_8] 27 (0, 0))) := ⟨h1_⟩
           have n2_ : Aside0 (Below w.heap.size w w24) := ⟨h2_⟩
           clear BK159
           clear HB
           clear h0_ h1_ h2_
           have HO165 := n0_
           have BK159 := n1_
           have HB := n2_
           clear n0_ n1_ n2_
           have hHeld : w24.cell? ⟨gb159, 0, none⟩ = some (.int .i64 a0_0) ∧ w24.cell? ⟨gb159, 1, none⟩ = some (.int .i64 a0_1) ∧ w24.cell? ⟨gb159, 2, none⟩ = some (.int .i64 a0_2) ∧ w24.cell? ⟨gb159, 3, none⟩ = some (.int .i64 a0_3) ∧ w24.cell? ⟨gb159, 4, none⟩ = some (.int .i64 a0_4) ∧ w24.cell? ⟨gb159, 5, none⟩ = some (.int .i64 a0_5) ∧ w24.cell? ⟨gb159, 6, none⟩ = some (.int .i64 a0_6) ∧ w24.cell? ⟨gb159, 7, none⟩ = some (.int .i64 a0_7) ∧ w24.cell? ⟨gb159, 8, none⟩ = some (.int .i64 a0_8) := hS_
           refine norm_ (a' := ?_) ?_ ?_
           rotate_left
           · simp only [putAll, Act.put, List.setIfInBounds_toArray, List.set_cons_zero, List.set_cons_succ]
             rfl
           refine pure_ (i := 23) (N := some 32) (v := ?_) (a' := ?_) (mS 25 16777215) rfl rfl (any_of HT_.out (by kernel_rfl)) (fun _ _ _ h => h) (Or.inl ⟨by rfl, ?_⟩) ?_ ?_
           rotate_left
           · intro w'
             go_simp
             with_reducible rfl
           rotate_left
           · simp only [Act.put, List.setIfInBounds_toArray, List.set_cons_zero, List.set_cons_succ, i64_w, i32_w]
             rfl
           refine pure_ (i := 24) (N := some 5) (v := ?_) (a' := ?_) (mS 25 33554431) rfl rfl (any_of HT_.out (by kernel_rfl)) (fun _ _ _ h => h) (Or.inl ⟨by rfl, ?_⟩) ?_ ?_
           rotate_left
           · intro w'
             go_simp
             with_reducible rfl
           rotate_left
           · simp only [Act.put, List.setIfInBounds_toArray, List.set_cons_zero, List.set_cons_succ, i64_w, i32_w]
             rfl
           refine done_ (done_of HT_.out (by kernel_rfl)) ?_
           try go_wp2_with (first | ((with_reducible refine gate_callee (f := 43) rfl ?_); refine goesL_ (some 35) rfl rfl Try.func43 (by kernel_rfl) rfl #[.string ((((strOfNums y163) ++ t166) ++ (⟨#[0]⟩ : ByteArray)) ++ t167)] rfl (by (try simp only [List.map_toArray, List.map_cons, List.map_nil]); first | done | rfl | (simp only [List.length_drop, List.length_take]; rfl)) ?_; (with_reducible refine (subchannel_check.calls ((((strOfNums y163) ++ t166) ++ (⟨#[0]⟩ : ByteArray)) ++ t167) t168 _ A11.out).mono ?_); rintro e w25 ⟨rfl, hb⟩; refine ⟨_, rfl, ?_⟩; have n0_ := Aside0.mk (Kd.R_below (by (with_reducible repeat (first | apply Kd.R_alloc | apply Kd.R_drewN | apply Kd.R_drew)); exact HO165.out) hb); have n1_ := Aside0.mk (blk_below (g := gb159) (o := .cells #[.int .i64 a0_0, .int .i64 a0_1, .int .i64 a0_2, .int .i64 a0_3, .int .i64 a0_4, .int .i64 a0_5, .int .i64 a0_6, .int .i64 a0_7, .int .i64 a0_8] 27 (0, 0)) (by (with_reducible repeat (first | refine blk_drewN ?_ _ | refine blk_drew ?_ | refine blk_alloc ?_ _)); exact BK159.out) hb); have n2_ := Aside0.mk (below_step (by repeat (first | (with_reducible first | exact HB.out | apply below_alloc | apply pw_below_drewN | apply below_drew1 | refine below_set ?_ GE159.out) | exact HB.out)) hb); clear HO165; clear BK159; clear HB; have HO165 := n0_; have BK159 := n1_; have HB := n2_; clear n0_ n1_ n2_; (try clear hb); (try clear hb2); (try clear hk); (try clear hi)))
           go_ret2
           exact ⟨by first | rfl | (simp [errW_none, errW_some] <;> rfl) | (simp [*, errW_none, errW_some] <;> rfl), by repeat (first | (with_reducible first | exact HB.out | apply below_alloc | apply pw_below_drewN | apply below_drew1 | refine below_set ?_ GE159.out) | exact HB.out)⟩
         · rw [if_neg c12] at H
           exact absurd H (by simp)
       · rw [if_neg c10] at H
         exact absurd H (by simp)
     · rw [if_neg c8] at H
       exact absurd H (by simp)
   · rw [if_neg c7] at H
     exact absurd H (by simp)
 · replace c3 := Bool.eq_false_iff.mpr c3
   subst c3
   have H1 : (some ((⟨#[]⟩ : ByteArray), 1)) = some (r1, r2) := by rw [if_neg (show ¬ (false = true) by decide)] at H; exact H
   clear H
   have H := H1
   clear H1
   simp only [Option.some.injEq, Prod.mk.injEq] at H
   obtain ⟨rfl, rfl⟩ := H
   go_enter Try.func18, Try.ntmps18
   go_wp2_with (first | ((with_reducible refine gate_dst (N := 1) rfl ?_); refine box_event ?hg (N := 1) ?hd (cs := #[.int .i64 a0_0, .int .i64 a0_1, .int .i64 a0_2, .int .i64 a0_3, .int .i64 a0_4, .int .i64 a0_5, .int .i64 a0_6, .int .i64 a0_7, .int .i64 a0_8]) (t := 27) ?hr ?_; (case hd => rfl); (case hg => rfl); (case hr => first | (go_simp; done) | (go_simp; rfl)); intro gb159 hg w26 hbox hb; have n0_ := Aside0.mk (below_step (by repeat (first | (with_reducible first | exact HB.out | apply below_alloc | apply pw_below_drewN | apply below_drew1) | exact HB.out)) hb); have n1_ := Aside0.mk (hbox); have n2_ := Aside0.mk ((by rw [hg]; exact (below_size (by repeat (first | (with_reducible first | exact HB.out | apply below_alloc | apply pw_below_drewN | apply below_drew1) | exact HB.out))) : w.heap.size ≤ gb159)); have n3_ := Aside0.mk ((by rw [hg]; exact (below_size (by repeat (first | (with_reducible first | exact HB.out | apply below_alloc | apply pw_below_drewN | apply below_drew1) | exact HB.out))) : w.heap.size ≤ gb159)); clear HB; have HB := n0_; have BK159 := n1_; have GW159 := n2_; have GE159 := n3_; clear n0_ n1_ n2_ n3_; clear hb hbox hg; have hcz27_0 : w26.cell? ⟨gb159, 0, none⟩ = some (.int .i64 a0_0) := (blk_cell BK159.out 0).trans rfl; have hcz27_1 : w26.cell? ⟨gb159, 1, none⟩ = some (.int .i64 a0_1) := (blk_cell BK159.out 1).trans rfl; have hcz27_2 : w26.cell? ⟨gb159, 2, none⟩ = some (.int .i64 a0_2) := (blk_cell BK159.out 2).trans rfl; have hcz27_3 : w26.cell? ⟨gb159, 3, none⟩ = some (.int .i64 a0_3) := (blk_cell BK159.out 3).trans rfl; have hcz27_4 : w26.cell? ⟨gb159, 4, none⟩ = some (.int .i64 a0_4) := (blk_cell BK159.out 4).trans rfl; have hcz27_5 : w26.cell? ⟨gb159, 5, none⟩ = some (.int .i64 a0_5) := (blk_cell BK159.out 5).trans rfl; have hcz27_6 : w26.cell? ⟨gb159, 6, none⟩ = some (.int .i64 a0_6) := (blk_cell BK159.out 6).trans rfl; have hcz27_7 : w26.cell? ⟨gb159, 7, none⟩ = some (.int .i64 a0_7) := (blk_cell BK159.out 7).trans rfl; have hcz27_8 : w26.cell? ⟨gb159, 8, none⟩ = some (.int .i64 a0_8) := (blk_cell BK159.out 8).trans rfl; have hfz27_0 := blk_frozen BK159.out 0; have hfz27_1 := blk_frozen BK159.out 1; have hfz27_2 := blk_frozen BK159.out 2; have hfz27_3 := blk_frozen BK159.out 3; have hfz27_4 := blk_frozen BK159.out 4; have hfz27_5 := blk_frozen BK159.out 5; have hfz27_6 := blk_frozen BK159.out 6; have hfz27_7 := blk_frozen BK159.out 7; have hfz27_8 := blk_frozen BK159.out 8) | ((with_reducible refine gate_callee (f := 39) rfl ?_); refine goesL_ (some 7) rfl rfl Try.func39 (by kernel_rfl) rfl #[.agg #[.int .i64 a0_0, .int .i64 a0_1, .int .i64 a0_2, .int .i64 a0_3, .int .i64 a0_4, .int .i64 a0_5, .int .i64 a0_6, .int .i64 a0_7, .int .i64 a0_8]] rfl (by (try simp only [List.map_toArray, List.map_cons, List.map_nil]); first | done | rfl | (simp only [List.length_drop, List.length_take]; rfl)) ?_; (with_reducible refine (subchannel_valid.calls a0_0 a0_1 a0_2 a0_3 a0_4 a0_5 a0_6 a0_7 a0_8 false _ A2.out).mono ?_); rintro e w28 ⟨rfl, hb⟩; refine ⟨_, rfl, ?_⟩; have n0_ := Aside0.mk (blk_below (g := gb159) (o := .cells #[.int .i64 a0_0, .int .i64 a0_1, .int .i64 a0_2, .int .i64 a0_3, .int .i64 a0_4, .int .i64 a0_5, .int .i64 a0_6, .int .i64 a0_7, .int .i64 a0_8] 27 (0, 0)) (by (with_reducible repeat (first | refine blk_drewN ?_ _ | refine blk_drew ?_ | refine blk_alloc ?_ _)); exact BK159.out) hb); have n1_ := Aside0.mk (below_step (by repeat (first | (with_reducible first | exact HB.out | apply below_alloc | apply pw_below_drewN | apply below_drew1 | refine below_set ?_ GE159.out) | exact HB.out)) hb); clear BK159; clear HB; have BK159 := n0_; have HB := n1_; clear n0_ n1_; (try clear hb); (try clear hb2); (try clear hk); (try clear hi)))
   go_ret2
   exact ⟨by first | rfl | (simp [errW_none, errW_some] <;> rfl) | (simp [*, errW_none, errW_some] <;> rfl), by repeat (first | (with_reducible first | exact HB.out | apply below_alloc | apply pw_below_drewN | apply below_drew1 | refine below_set ?_ GE159.out) | exact HB.out)⟩
end Go.Proofs.Ytpmkibggmkibeaa.G
namespace Go.Proofs.Ytpmkibggmkibeaa.G
open Go.RowKit Go.Proofs.YtpmkibggmkibeaaW.PrintWords Go.Proofs.YtpmkibggmkibeaaW.PrintLast Go.Proofs.YtpmkibggmkibeaaW.PrintMore
attribute [local go_sem] max2_int min2_int max_two min_two max_three min_three max_four min_four   -- for this text's walks alone
set_option linter.unusedVariables false
set_option linter.unusedSimpArgs false
attribute [local go_sem high] eqA27
def masterdisclaw10_awake.f  : Option (Bool) := (subchannel_Encode.f 4 1 1 0 0 0 0 2 0).bind fun bt169 => ((subchannel_Entries.f (([(⟨1, 0, 0, 300, 0, 0, 0⟩ : S53)] : List (S53))) 4).bind fun bt174 => (if bt169.2 = 0 then (if (bt169.1.size : Int) = 12 then (if 0 ≤ 10 then (if 10 ≤ (bt169.1.size : Int) then (if (bt169.1.extract 0 10).toList = ([65, 1, 1, 0, 0, 0, 0, 0, 2, 0] : List UInt8) then (if bt174.2 = 0 then (if (bt174.1.length : Int) = 4 then (if 2 < (bt174.1.length : Int) then (some (((rd_T27 bt174.1 2).f0) == 4 && (((rd_T27 bt174.1 2).f1) == 0 && (((rd_T27 bt174.1 2).f2) == 162 && ((((rd_T27 bt174.1 2).f3.f0) == 0 && (((rd_T27 bt174.1 2).f3.f1) == 0 && (((rd_T27 bt174.1 2).f3.f2) == 0))) && ((((rd_T27 bt174.1 2).f4.f0) == 0 && (((rd_T27 bt174.1 2).f4.f1) == 6 && (((rd_T27 bt174.1 2).f4.f2) == 0))))))))) else (none)) else (none)) else (none)) else (none)) else (none)) else (none)) else (none)) else (none)))
set_option maxHeartbeats 8000000 in
set_option maxRecDepth 100000 in
theorem masterdisclaw10_awake.calls  (r : Bool) (w : World) (h : masterdisclaw10_awake.f  = some r) :
 Calls Try.prog 10 #[] w fun e w' => e = .returned (.bool r) ∧ Below w.heap.size w w' := by
 have hu25 := Try.underlying25
 have hu27 := Try.underlying27
 have hu53 := Try.underlying53
 have HB := Aside0.mk (Below.refl w.heap.size w)
 have H : ((subchannel_Encode.f 4 1 1 0 0 0 0 2 0).bind fun bt169 => ((subchannel_Entries.f (([(⟨1, 0, 0, 300, 0, 0, 0⟩ : S53)] : List (S53))) 4).bind fun bt174 => (if bt169.2 = 0 then (if (bt169.1.size : Int) = 12 then (if 0 ≤ 10 then (if 10 ≤ (bt169.1.size : Int) then (if (bt169.1.extract 0 10).toList = ([65, 1, 1, 0, 0, 0, 0, 0, 2, 0] : List UInt8) then (if bt174.2 = 0 then (if (bt174.1.length : Int) = 4 then (if 2 < (bt174.1.length : Int) then (some (((rd_T27 bt174.1 2).f0) == 4 && (((rd_T27 bt174.1 2).f1) == 0 && (((rd_T27 bt174.1 2).f2) == 162 && ((((rd_T27 bt174.1 2).f3.f0) == 0 && (((rd_T27 bt174.1 2).f3.f1) == 0 && (((rd_T27 bt174.1 2).f3.f2) == 0))) && ((((rd_T27 bt174.1 2).f4.f0) == 0 && (((rd_T27 bt174.1 2).f4.f1) == 6 && (((rd_T27 bt174.1 2).f4.f2) == 0))))))))) else (none)) else (none)) else (none)) else (none)) else (none)) else (none)) else (none)) else (none)))) = some r := h
 clear h
 replace H := Option.bind_eq_some_iff.mp H
 obtain ⟨⟨t169, t170⟩, A10, H⟩ := H
 replace H : ((subchannel_Entries.f (([(⟨1, 0, 0, 300, 0, 0, 0⟩ : S53)] : List (S53))) 4).bind fun bt174 => (if t170 = 0 then (if (t169.size : Int) = 12 then (if 0 ≤ 10 then (if 10 ≤ (t169.size : Int) then (if (t169.extract 0 10).toList = ([65, 1, 1, 0, 0, 0, 0, 0, 2, 0] : List UInt8) then (if bt174.2 = 0 then (if (bt174.1.length : Int) = 4 then (if 2 < (bt174.1.length : Int) then (some (((rd_T27 bt174.1 2).f0) == 4 && (((rd_T27 bt174.1 2).f1) == 0 && (((rd_T27 bt174.1 2).f2) == 162 && ((((rd_T27 bt174.1 2).f3.f0) == 0 && (((rd_T27 bt174.1 2).f3.f1) == 0 && (((rd_T27 bt174.1 2).f3.f2) == 0))) && ((((rd_T27 bt174.1 2).f4.f0) == 0 && (((rd_T27 bt174.1 2).f4.f1) == 6 && (((rd_T27 bt174.1 2).f4.f2) == 0))))))))) else (none)) else (none)) else (none)) else (none)) else (none)) else (none)) else (none)) else (none))) = some r := H
 have A1 := Aside0.mk A10
 clear A10
 obtain ⟨y171, hy171⟩ : ∃ y_ : List (S53), y_ = (([(⟨1, 0, 0, 300, 0, 0, 0⟩ : S53)] : List (S53))) := ⟨_, rfl⟩
 replace H : ((subchannel_Entries.f y171 4).bind fun bt174 => (if t170 = 0 then (if (t169.size : Int) = 12 then (if 0 ≤ 10 then (if 10 ≤ (t169.size : Int) then (if (t169.extract 0 10).toList = ([65, 1, 1, 0, 0, 0, 0, 0, 2, 0] : List UInt8) then (if bt174.2 = 0 then (if (bt174.1.length : Int) = 4 then (if 2 < (bt174.1.length : Int) then (some (((rd_T27 bt174.1 2).f0) == 4 && (((rd_T27 bt174.1 2).f1) == 0 && (((rd_T27 bt174.1 2).f2) == 162 && ((((rd_T27 bt174.1 2).f3.f0) == 0 && (((rd_T27 bt174.1 2).f3.f1) == 0 && (((rd_T27 bt174.1 2).f3.f2) == 0))) && ((((rd_T27 bt174.1 2).f4.f0) == 0 && (((rd_T27 bt174.1 2).f4.f1) == 6 && (((rd_T27 bt174.1 2).f4.f2) == 0))))))))) else (none)) else (none)) else (none)) else (none)) else (none)) else (none)) else (none)) else (none))) = some r := by first | (rw [hy171]; with_reducible exact H) | (have H2_ := (Option.bind_some _ _).symm.trans H; rw [hy171]; with_reducible exact H2_) | (have H2_ := (Option.bind_some _ _).symm.trans H; with_reducible exact H2_) | with_reducible exact H | (rw [hy171]; exact H) | exact H
 have Ny171 := Aside0.mk hy171
 clear hy171
 replace H := Option.bind_eq_some_iff.mp H
 obtain ⟨⟨t174, t175⟩, A20, H⟩ := H
 replace H : (if t170 = 0 then (if (t169.size : Int) = 12 then (if 0 ≤ 10 then (if 10 ≤ (t169.size : Int) then (if (t169.extract 0 10).toList = ([65, 1, 1, 0, 0, 0, 0, 0, 2, 0] : List UInt8) then (if t175 = 0 then (if (t174.length : Int) = 4 then (if 2 < (t174.length : Int) then (some (((rd_T27 t174 2).f0) == 4 && (((rd_T27 t174 2).f1) == 0 && (((rd_T27 t174 2).f2) == 162 && ((((rd_T27 t174 2).f3.f0) == 0 && (((rd_T27 t174 2).f3.f1) == 0 && (((rd_T27 t174 2).f3.f2) == 0))) && ((((rd_T27 t174 2).f4.f0) == 0 && (((rd_T27 t174 2).f4.f1) == 6 && (((rd_T27 t174 2).f4.f2) == 0))))))))) else (none)) else (none)) else (none)) else (none)) else (none)) else (none)) else (none)) else (none)) = some r := H
 have A2 := Aside0.mk A20
 clear A20
 by_cases c3 : t170 = 0
 · rw [if_pos c3] at H
   have c3b0 : (t170 == 0) = true := beq_iff_eq.mpr c3
   have c3b1 : (t170 != 0) = false := bne_eq_false_iff_eq.mpr c3
   clear c3
   by_cases c4 : (t169.size : Int) = 12
   · rw [if_pos c4] at H
     have c4b0 : ((t169.size : Int) == 12) = true := beq_iff_eq.mpr c4
     have c4b1 : ((t169.size : Int) != 12) = false := bne_eq_false_iff_eq.mpr c4
     clear c4
     by_cases c5 : 0 ≤ 10
     · rw [if_pos c5] at H
       have c5b0 := eq_true c5
       have c5b1 : decide (0 ≤ 10) = true := decide_eq_true c5
       clear c5
       by_cases c6 : 10 ≤ (t169.size : Int)
       · rw [if_pos c6] at H
         have c6b0 := eq_true c6
         have c6b1 : decide (10 ≤ (t169.size : Int)) = true := decide_eq_true c6
         clear c6
         by_cases c7 : (t169.extract 0 10).toList = ([65, 1, 1, 0, 0, 0, 0, 0, 2, 0] : List UInt8)
         · rw [if_pos c7] at H
           have c7b0 : ((t169.extract 0 10).toList == ([65, 1, 1, 0, 0, 0, 0, 0, 2, 0] : List UInt8)) = true := beq_iff_eq.mpr c7
           have c7b1 : ((t169.extract 0 10).toList != ([65, 1, 1, 0, 0, 0, 0, 0, 2, 0] : List UInt8)) = false := bne_eq_false_iff_eq.mpr c7
           clear c7
           by_cases c8 : t175 = 0
           · rw [if_pos c8] at H
             have c8b0 : (t175 == 0) = true := beq_iff_eq.mpr c8
             have c8b1 : (t175 != 0) = false := bne_eq_false_iff_eq.mpr c8
             clear c8
             by_cases c9 : (t174.length : Int) = 4
             · rw [if_pos c9] at H
               have c9b0 : ((t174.length : Int) == 4) = true := beq_iff_eq.mpr c9
               have c9b1 : ((t174.length : Int) != 4) = false := bne_eq_false_iff_eq.mpr c9
               clear c9
               by_cases c10 : 2 < (t174.length : Int)
               · rw [if_pos c10] at H
                 have c10b0 : decide (2 < (t174.length : Int)) = true := decide_eq_true c10
                 have c10b1 : decide (2 < t174.length) = true := decide_eq_true (by omega)
                 clear c10
                 obtain rfl := Option.some.inj H
                 go_enter Try.func10, Try.ntmps10
                 go_wp2_with (first | ((with_reducible refine gate_callee (f := 18) rfl ?_); refine goesL_ (some 8) rfl rfl Try.func18 (by kernel_rfl) rfl #[.agg #[.int .i64 4, .int .i64 1, .int .i64 1, .int .i64 0, .int .i64 0, .int .i64 0, .int .i64 0, .int .i64 2, .int .i64 0]] rfl (by (try simp only [List.map_toArray, List.map_cons, List.map_nil]); first | done | rfl | (simp only [List.length_drop, List.length_take]; rfl)) ?_; (with_reducible refine (subchannel_Encode.calls 4 1 1 0 0 0 0 2 0 t169 t170 _ A1.out).mono ?_); rintro e w11 ⟨rfl, hb⟩; refine ⟨_, rfl, ?_⟩; have n0_ := Aside0.mk (below_step (by repeat (first | (with_reducible first | exact HB.out | apply below_alloc | apply pw_below_drewN | apply below_drew1) | exact HB.out)) hb); clear HB; have HB := n0_; clear n0_; (try clear hb); (try clear hb2); (try clear hk); (try clear hi)) | ((with_reducible refine gate_dst (N := 13) rfl ?_); (try (refine gate_guard (by rfl) ?_; dsimp only)); refine Kd.R_lit k53 _ 53 ?hg (N := 13) ?hd (xs := ([(⟨1, 0, 0, 300, 0, 0, 0⟩ : S53)] : List (S53))) (inner := [.int .i64 1, .int .i64 0, .int .i64 0, .int .i64 300, .int .i64 0, .int .i64 0, .int .i64 0]) (ok := fun _ => True) (okp := fun _ => True) ?hr ?hp (fun _ hk => hk) trivial (Below.refl _ _) (Nat.le_refl _) (by simp) ?_; (case hd => rfl); (case hg => rfl); (case hr => first | (go_simp; done) | (go_simp; rfl)); (case hp => exact (Reps.c7 (show Kd.M k53 _ _ _ (⟨1, 0, 0, 300, 0, 0, 0⟩ : S53) [.int .i64 1, .int .i64 0, .int .i64 0, .int .i64 300, .int .i64 0, .int .i64 0, .int .i64 0] from (k53_mkM _ _ _ (⟨1, 0, 0, 300, 0, 0, 0⟩ : S53) )) (Reps.none _ _))); intro v172 w12 ho13 hb hg_ hnew_; clear hg_ hnew_; (first | rw [← Ny171.out] at ho13 | (simp only [Int.reduceToNat] at ho13; rw [← Ny171.out] at ho13)); have n0_ := Aside0.mk (Kd.R_lower ho13 (below_size (by repeat (first | (with_reducible first | exact HB.out | apply below_alloc | apply pw_below_drewN | apply below_drew1) | exact HB.out)))); have n1_ := Aside0.mk (below_step (by repeat (first | (with_reducible first | exact HB.out | apply below_alloc | apply pw_below_drewN | apply below_drew1) | exact HB.out)) hb); clear HB; have HO173 := n0_; have HB := n1_; clear n0_ n1_; clear hb ho13; obtain ⟨Ao14, co14, eo14⟩ := Kd.R_slice HO173.out; subst eo14) | ((with_reducible refine gate_callee (f := 13) rfl ?_); refine goesL_ (some 14) rfl rfl Try.func13 (by kernel_rfl) rfl #[.slice Ao14 y171.length co14, .int .i64 4] rfl (by (try simp only [List.map_toArray, List.map_cons, List.map_nil]); first | done | rfl | (simp only [List.length_drop, List.length_take]; rfl)) ?_; (with_reducible refine (subchannel_Entries.calls _ _ y171 4 t174 t175 _ ?side1 ?side2 A2.out).mono ?_); (case side1 => repeat (first | exact (Kd.R_reads' HO173.out).2.2 | (with_reducible refine Kd.C_alloc ?_ _) | (with_reducible refine Kd.C_drewN ?_ _) | (with_reducible refine Kd.C_drew ?_))); (case side2 => exact (Kd.R_reads' HO173.out).2.1); rintro e w15 ⟨v176, rfl, ho0, hb⟩; refine ⟨_, rfl, ?_⟩; have n0_ := Aside0.mk (Kd.R_below (by (with_reducible repeat (first | apply Kd.R_alloc | apply Kd.R_drewN | apply Kd.R_drew)); exact HO173.out) hb); have n1_ := Aside0.mk (Kd.R_lower ho0 (below_size (by repeat (first | (with_reducible first | exact HB.out | apply below_alloc | apply pw_below_drewN | apply below_drew1) | exact HB.out)))); have n2_ := Aside0.mk (below_step (by repeat (first | (with_reducible first | exact HB.out | apply below_alloc | apply pw_below_drewN | apply below_drew1) | exact HB.out)) hb); clear HO173; clear HB; have HO173 := n0_; have HO177 := n1_; have HB := n2_; clear n0_ n1_ n2_; (try clear hb); (try clear hb2); (try clear hk); (try clear hi); (try clear ho0); obtain ⟨Ao16, co16, eo16⟩ := Kd.R_slice HO177.out; subst eo16; have p178 : 0 ≤ (2 : Int) := (by omega); have q178 : 2 < (t174.length : Int) := of_decide_eq_true (by first | (with_reducible assumption) | assumption); obtain ⟨ad178, e178, hx178_0, hx178_1, hx178_2, hx178_3, hx178_4, hx178_5, hx178_6, hx178_7, hx178_8⟩ := at_T27 (Kd.R_reads' HO177.out).2.2 2 p178 q178; cases e178; (try simp only [show (2 : Int).toNat = 2 from rfl, Nat.reduceMul, Nat.reduceEqDiff, Go.Addr.add, ↓reduceIte] at hx178_0); (try simp only [show (2 : Int).toNat = 2 from rfl, Nat.reduceMul, Nat.reduceEqDiff, Go.Addr.add, ↓reduceIte] at hx178_1); (try simp only [show (2 : Int).toNat = 2 from rfl, Nat.reduceMul, Nat.reduceEqDiff, Go.Addr.add, ↓reduceIte] at hx178_2); (try simp only [show (2 : Int).toNat = 2 from rfl, Nat.reduceMul, Nat.reduceEqDiff, Go.Addr.add, ↓reduceIte] at hx178_3); (try simp only [show (2 : Int).toNat = 2 from rfl, Nat.reduceMul, Nat.reduceEqDiff, Go.Addr.add, ↓reduceIte] at hx178_4); (try simp only [show (2 : Int).toNat = 2 from rfl, Nat.reduceMul, Nat.reduceEqDiff, Go.Addr.add, ↓reduceIte] at hx178_5); (try simp only [show (2 : Int).toNat = 2 from rfl, Nat.reduceMul, Nat.reduceEqDiff, Go.Addr.add, ↓reduceIte] at hx178_6); (try simp only [show (2 : Int).toNat = 2 from rfl, Nat.reduceMul, Nat.reduceEqDiff, Go.Addr.add, ↓reduceIte] at hx178_7); (try simp only [show (2 : Int).toNat = 2 from rfl, Nat.reduceMul, Nat.reduceEqDiff, Go.Addr.add, ↓reduceIte] at hx178_8); have qi178 : (2 < t174.length) = True := eq_true (by omega); (try rw [show ((2 : Int)).toNat = 2 from rfl] at hx178_0); (try rw [show 2 * 9 = 18 from rfl] at hx178_0); (try rw [show ((2 : Int)).toNat = 2 from rfl] at hx178_1); (try rw [show 2 * 9 = 18 from rfl] at hx178_1); (try rw [show ((2 : Int)).toNat = 2 from rfl] at hx178_2); (try rw [show 2 * 9 = 18 from rfl] at hx178_2); (try rw [show ((2 : Int)).toNat = 2 from rfl] at hx178_3); (try rw [show 2 * 9 = 18 from rfl] at hx178_3); (try rw [show ((2 : Int)).toNat = 2 from rfl] at hx178_4); (try rw [show 2 * 9 = 18 from rfl] at hx178_4); (try rw [show ((2 : Int)).toNat = 2 from rfl] at hx178_5); (try rw [show 2 * 9 = 18 from rfl] at hx178_5); (try rw [show ((2 : Int)).toNat = 2 from rfl] at hx178_6); (try rw [show 2 * 9 = 18 from rfl] at hx178_6); (try rw [show ((2 : Int)).toNat = 2 from rfl] at hx178_7); (try rw [show 2 * 9 = 18 from rfl] at hx178_7); (try rw [show ((2 : Int)).toNat = 2 from rfl] at hx178_8); (try rw [show 2 * 9 = 18 from rfl] at hx178_8); replace p178 := eq_true p178; replace q178 := eq_true q178))
                 go_ret
                 exact ⟨by first | rfl | (simp [errW_none, errW_some] <;> rfl) | (simp [*, errW_none, errW_some] <;> rfl), by repeat (first | (with_reducible first | exact HB.out | apply below_alloc | apply pw_below_drewN | apply below_drew1) | exact HB.out)⟩
               · rw [if_neg c10] at H
                 exact absurd H (by simp)
             · rw [if_neg c9] at H
               exact absurd H (by simp)
           · rw [if_neg c8] at H
             exact absurd H (by simp)
         · rw [if_neg c7] at H
           exact absurd H (by simp)
       · rw [if_neg c6] at H
         exact absurd H (by simp)
     · rw [if_neg c5] at H
       exact absurd H (by simp)
   · rw [if_neg c4] at H
     exact absurd H (by simp)
 · rw [if_neg c3] at H
   exact absurd H (by simp)
end Go.Proofs.Ytpmkibggmkibeaa.G
namespace Go.Proofs.Ytpmkibggmkibeaa.G
open Go.RowKit
set_option maxRecDepth 100000 in
theorem awake_plain : masterdisclaw10_awake.f = some true := by decide +kernel
end Go.Proofs.Ytpmkibggmkibeaa.G
namespace Go.Proofs.Ytpmkibggmkibeaa.G
open Go.RowKit Go.Proofs.YtpmkibggmkibeaaW.PrintWords Go.Proofs.YtpmkibggmkibeaaW.PrintLast Go.Proofs.YtpmkibggmkibeaaW.PrintMore
attribute [local go_sem] max2_int min2_int max_two min_two max_three min_three max_four min_four   -- for this text's walks alone
set_option linter.unusedVariables false
set_option linter.unusedSimpArgs false
attribute [local go_sem high] eqA27
def masterdisclaw10_SubchannelPositions.f (k : Nat) (l0 : List (S53)) (a1 : Int) (a2 : Int) : Option (Bool) := (masterdisclaw10_awake.f).bind fun t230 => (if t230 = true then (if (l0.length : Int) > 120 then (some true) else ((subchannel_Program.f l0 a1 a2).bind fun bt231 => ((masterdiscref10_Program.f k l0 a1 a2).bind fun bt242 => ((subchannel_Entries.f l0 a1).bind fun bt253 => ((masterdiscref10_Entries.f k l0 a1).bind fun bt257 => (if (bt231.1 == bt242.1 && (bt231.2.1 == bt242.2.1 && (bt231.2.2.1 == bt242.2.2.1 && ((bt231.2.2.2.1 == bt242.2.2.2.1 && (bt231.2.2.2.2.1 == bt242.2.2.2.2.1 && (bt231.2.2.2.2.2.1 == bt242.2.2.2.2.2.1))) && ((bt231.2.2.2.2.2.2.1 == bt242.2.2.2.2.2.2.1 && (bt231.2.2.2.2.2.2.2.1 == bt242.2.2.2.2.2.2.2.1 && (bt231.2.2.2.2.2.2.2.2.1 == bt242.2.2.2.2.2.2.2.2.1)))))))) = true then (if bt231.2.2.2.2.2.2.2.2.2 = bt242.2.2.2.2.2.2.2.2.2 then ((masterdiscref10_Same.f k bt253.1 bt257.1).bind fun t261 => (if t261 = true then (some (bt253.2 == bt257.2)) else (none))) else (none)) else (none))))))) else (none))
theorem masterdisclaw10_SubchannelPositions.mono : ∀ a0 a1 a2 k, LeO (masterdisclaw10_SubchannelPositions.f k a0 a1 a2) (masterdisclaw10_SubchannelPositions.f (k + 1) a0 a1 a2) := by
 intro a0 a1 a2 k
 unfold masterdisclaw10_SubchannelPositions.f
 repeat' first
  | (with_reducible exact masterdiscref10_Entries.mono _ _ _)
  | (with_reducible exact masterdiscref10_Program.mono _ _ _ _)
  | (with_reducible exact masterdiscref10_Same.mono _ _ _)
  | (with_reducible exact LeO.refl _)
  | (with_reducible exact LeO.none _)
  | (with_reducible refine LeO.ite ?_ ?_)
  | (with_reducible refine LeO.bind ?_ (fun _ => ?_))
  | exact masterdiscref10_Entries.mono _ _ _
  | exact masterdiscref10_Program.mono _ _ _ _
  | exact masterdiscref10_Same.mono _ _ _
  | exact LeO.none _
  | refine LeO.ite ?_ ?_
  | refine LeO.bind ?_ (fun _ => ?_)
set_option maxHeartbeats 8000000 in
set_option maxRecDepth 100000 in
theorem masterdisclaw10_SubchannelPositions.calls (k : Nat) (A0 : Option Addr) (c0 : Nat) (l0 : List (S53)) (a1 : Int) (a2 : Int) (r : Bool) (w : World) (hr0 : Kd.C k53 w A0 l0.length l0) (hc0 : l0.length ≤ c0) (h : masterdisclaw10_SubchannelPositions.f k l0 a1 a2 = some r) :
 Calls Try.prog 3 #[.slice A0 l0.length c0, .int .i64 a1, .int .i64 a2] w fun e w' => e = .returned (.bool r) ∧ Below w.heap.size w w' := by
 have hu27 := Try.underlying27
 have HR0 := Aside0.mk hr0
 have HC0 := Aside0.mk hc0
 clear hr0 hc0
 have HB := Aside0.mk (Below.refl w.heap.size w)
 have H : ((masterdisclaw10_awake.f).bind fun t230 => (if t230 = true then (if (l0.length : Int) > 120 then (some true) else ((subchannel_Program.f l0 a1 a2).bind fun bt231 => ((masterdiscref10_Program.f k l0 a1 a2).bind fun bt242 => ((subchannel_Entries.f l0 a1).bind fun bt253 => ((masterdiscref10_Entries.f k l0 a1).bind fun bt257 => (if (bt231.1 == bt242.1 && (bt231.2.1 == bt242.2.1 && (bt231.2.2.1 == bt242.2.2.1 && ((bt231.2.2.2.1 == bt242.2.2.2.1 && (bt231.2.2.2.2.1 == bt242.2.2.2.2.1 && (bt231.2.2.2.2.2.1 == bt242.2.2.2.2.2.1))) && ((bt231.2.2.2.2.2.2.1 == bt242.2.2.2.2.2.2.1 && (bt231.2.2.2.2.2.2.2.1 == bt242.2.2.2.2.2.2.2.1 && (bt231.2.2.2.2.2.2.2.2.1 == bt242.2.2.2.2.2.2.2.2.1)))))))) = true then (if bt231.2.2.2.2.2.2.2.2.2 = bt242.2.2.2.2.2.2.2.2.2 then ((masterdiscref10_Same.f k bt253.1 bt257.1).bind fun t261 => (if t261 = true then (some (bt253.2 == bt257.2)) else (none))) else (none)) else (none))))))) else (none))) = some r := h
 clear h
 replace H := Option.bind_eq_some_iff.mp H
 obtain ⟨t230, A40, H⟩ := H
 replace H : (if t230 = true then (if (l0.length : Int) > 120 then (some true) else ((subchannel_Program.f l0 a1 a2).bind fun bt231 => ((masterdiscref10_Program.f k l0 a1 a2).bind fun bt242 => ((subchannel_Entries.f l0 a1).bind fun bt253 => ((masterdiscref10_Entries.f k l0 a1).bind fun bt257 => (if (bt231.1 == bt242.1 && (bt231.2.1 == bt242.2.1 && (bt231.2.2.1 == bt242.2.2.1 && ((bt231.2.2.2.1 == bt242.2.2.2.1 && (bt231.2.2.2.2.1 == bt242.2.2.2.2.1 && (bt231.2.2.2.2.2.1 == bt242.2.2.2.2.2.1))) && ((bt231.2.2.2.2.2.2.1 == bt242.2.2.2.2.2.2.1 && (bt231.2.2.2.2.2.2.2.1 == bt242.2.2.2.2.2.2.2.1 && (bt231.2.2.2.2.2.2.2.2.1 == bt242.2.2.2.2.2.2.2.2.1)))))))) = true then (if bt231.2.2.2.2.2.2.2.2.2 = bt242.2.2.2.2.2.2.2.2.2 then ((masterdiscref10_Same.f k bt253.1 bt257.1).bind fun t261 => (if t261 = true then (some (bt253.2 == bt257.2)) else (none))) else (none)) else (none))))))) else (none)) = some r := H
 have A4 := Aside0.mk A40
 clear A40
 by_cases c5 : t230 = true
 · subst c5
   have H1 : (if (l0.length : Int) > 120 then (some true) else ((subchannel_Program.f l0 a1 a2).bind fun bt231 => ((masterdiscref10_Program.f k l0 a1 a2).bind fun bt242 => ((subchannel_Entries.f l0 a1).bind fun bt253 => ((masterdiscref10_Entries.f k l0 a1).bind fun bt257 => (if (bt231.1 == bt242.1 && (bt231.2.1 == bt242.2.1 && (bt231.2.2.1 == bt242.2.2.1 && ((bt231.2.2.2.1 == bt242.2.2.2.1 && (bt231.2.2.2.2.1 == bt242.2.2.2.2.1 && (bt231.2.2.2.2.2.1 == bt242.2.2.2.2.2.1))) && ((bt231.2.2.2.2.2.2.1 == bt242.2.2.2.2.2.2.1 && (bt231.2.2.2.2.2.2.2.1 == bt242.2.2.2.2.2.2.2.1 && (bt231.2.2.2.2.2.2.2.2.1 == bt242.2.2.2.2.2.2.2.2.1)))))))) = true then (if bt231.2.2.2.2.2.2.2.2.2 = bt242.2.2.2.2.2.2.2.2.2 then ((masterdiscref10_Same.f k bt253.1 bt257.1).bind fun t261 => (if t261 = true then (some (bt253.2 == bt257.2)) else (none))) else (none)) else (none))))))) = some r := by rw [if_pos rfl] at H; exact H
   clear H
   have H := H1
   clear H1
   by_cases c6 : (l0.length : Int) > 120
   · rw [if_pos c6] at H
     have c6b0 : decide (120 < (l0.length : Int)) = true := decide_eq_true c6
     have c6b1 : decide (120 < l0.length) = true := decide_eq_true (by omega)
     clear c6
     obtain rfl := Option.some.inj H
     go_enter Try.func3, Try.ntmps3
     go_wp2_with (first | ((with_reducible refine gate_callee (f := 10) rfl ?_); refine goesL_ (some 15) rfl rfl Try.func10 (by kernel_rfl) rfl #[] rfl (by (try simp only [List.map_toArray, List.map_cons, List.map_nil]); first | done | rfl | (simp only [List.length_drop, List.length_take]; rfl)) ?_; (with_reducible refine (masterdisclaw10_awake.calls  true _ A4.out).mono ?_); rintro e w7 ⟨rfl, hb⟩; refine ⟨_, rfl, ?_⟩; have n0_ := Aside0.mk (below_step (by repeat (first | (with_reducible first | exact HB.out | apply below_alloc | apply pw_below_drewN | apply below_drew1) | exact HB.out)) hb); clear HB; have HB := n0_; clear n0_; (try clear hb); (try clear hb2); (try clear hk); (try clear hi)))
     go_ret
     exact ⟨by first | rfl | (simp [errW_none, errW_some] <;> rfl) | (simp [*, errW_none, errW_some] <;> rfl), by repeat (first | (with_reducible first | exact HB.out | apply below_alloc | apply pw_below_drewN | apply below_drew1) | exact HB.out)⟩
   · rw [if_neg c6] at H
     have c6b0 : decide (120 < (l0.length : Int)) = false := decide_eq_false c6
     have c6b1 : decide (120 < l0.length) = false := decide_eq_false (by omega)
     clear c6
     replace H := Option.bind_eq_some_iff.mp H
     obtain ⟨⟨t231, t232, t233, t234, t235, t236, t237, t238, t239, t240⟩, A80, H⟩ := H
     replace H : ((masterdiscref10_Program.f k l0 a1 a2).bind fun bt242 => ((subchannel_Entries.f l0 a1).bind fun bt253 => ((masterdiscref10_Entries.f k l0 a1).bind fun bt257 => (if (t231 == bt242.1 && (t232 == bt242.2.1 && (t233 == bt242.2.2.1 && ((t234 == bt242.2.2.2.1 && (t235 == bt242.2.2.2.2.1 && (t236 == bt242.2.2.2.2.2.1))) && ((t237 == bt242.2.2.2.2.2.2.1 && (t238 == bt242.2.2.2.2.2.2.2.1 && (t239 == bt242.2.2.2.2.2.2.2.2.1)))))))) = true then (if t240 = bt242.2.2.2.2.2.2.2.2.2 then ((masterdiscref10_Same.f k bt253.1 bt257.1).bind fun t261 => (if t261 = true then (some (bt253.2 == bt257.2)) else (none))) else (none)) else (none))))) = some r := H
     have A8 := Aside0.mk A80
     clear A80
     replace H := Option.bind_eq_some_iff.mp H
     obtain ⟨⟨t242, t243, t244, t245, t246, t247, t248, t249, t250, t251⟩, A90, H⟩ := H
     replace H : ((subchannel_Entries.f l0 a1).bind fun bt253 => ((masterdiscref10_Entries.f k l0 a1).bind fun bt257 => (if (t231 == t242 && (t232 == t243 && (t233 == t244 && ((t234 == t245 && (t235 == t246 && (t236 == t247))) && ((t237 == t248 && (t238 == t249 && (t239 == t250)))))))) = true then (if t240 = t251 then ((masterdiscref10_Same.f k bt253.1 bt257.1).bind fun t261 => (if t261 = true then (some (bt253.2 == bt257.2)) else (none))) else (none)) else (none)))) = some r := H
     have A9 := Aside0.mk A90
     clear A90
     replace H := Option.bind_eq_some_iff.mp H
     obtain ⟨⟨t253, t254⟩, A100, H⟩ := H
     replace H : ((masterdiscref10_Entries.f k l0 a1).bind fun bt257 => (if (t231 == t242 && (t232 == t243 && (t233 == t244 && ((t234 == t245 && (t235 == t246 && (t236 == t247))) && ((t237 == t248 && (t238 == t249 && (t239 == t250)))))))) = true then (if t240 = t251 then ((masterdiscref10_Same.f k t253 bt257.1).bind fun t261 => (if t261 = true then (some (t254 == bt257.2)) else (none))) else (none)) else (none))) = some r := H
     have A10 := Aside0.mk A100
     clear A100
     replace H := Option.bind_eq_some_iff.mp H
     obtain ⟨⟨t257, t258⟩, A110, H⟩ := H
     replace H : (if (t231 == t242 && (t232 == t243 && (t233 == t244 && ((t234 == t245 && (t235 == t246 && (t236 == t247))) && ((t237 == t248 && (t238 == t249 && (t239 == t250)))))))) = true then (if t240 = t251 then ((masterdiscref10_Same.f k t253 t257).bind fun t261 => (if t261 = true then (some (t254 == t258)) else (none))) else (none)) else (none)) = some r := H
     have A11 := Aside0.mk A110
     clear A110
     by_cases c12 : (t231 == t242 && (t232 == t243 && (t233 == t244 && ((t234 == t245 && (t235 == t246 && (t236 == t247))) && ((t237 == t248 && (t238 == t249 && (t239 == t250)))))))) = true
     · rw [if_pos c12] at H
       have c12b0 : (t231 == t242 && (t232 == t243 && (t233 == t244 && ((t234 == t245 && (t235 == t246 && (t236 == t247))) && ((t237 == t248 && (t238 == t249 && (t239 == t250)))))))) = true := c12
       (try (have c12b1 : decide (t231 = t242 && (t232 == t243 && (t233 == t244 && ((t234 == t245 && (t235 == t246 && (t236 == t247))) && ((t237 == t248 && (t238 == t249 && (t239 == t250)))))))) = true := by simpa using c12))
       (try (have c12b2 : (t231 == t242 && (t232 == t243 && (t233 == t244 && ((t234 == t245 && (t235 == t246 && (t236 == t247))) && ((t237 == t248 && (t238 == t249 && (t239 == t250)))))))) = true := by simpa using c12))
       clear c12
       by_cases c13 : t240 = t251
       · rw [if_pos c13] at H
         have c13b0 : (t240 == t251) = true := beq_iff_eq.mpr c13
         have c13b1 : (t240 != t251) = false := bne_eq_false_iff_eq.mpr c13
         clear c13
         replace H := Option.bind_eq_some_iff.mp H
         obtain ⟨t261, A140, H⟩ := H
         replace H : (if t261 = true then (some (t254 == t258)) else (none)) = some r := H
         have A14 := Aside0.mk A140
         clear A140
         by_cases c15 : t261 = true
         · subst c15
           have H1 : (some (t254 == t258)) = some r := by rw [if_pos rfl] at H; exact H
           clear H
           have H := H1
           clear H1
           obtain rfl := Option.some.inj H
           go_enter Try.func3, Try.ntmps3
           go_wp2_with (first | ((with_reducible refine gate_callee (f := 10) rfl ?_); refine goesL_ (some 15) rfl rfl Try.func10 (by kernel_rfl) rfl #[] rfl (by (try simp only [List.map_toArray, List.map_cons, List.map_nil]); first | done | rfl | (simp only [List.length_drop, List.length_take]; rfl)) ?_; (with_reducible refine (masterdisclaw10_awake.calls  true _ A4.out).mono ?_); rintro e w16 ⟨rfl, hb⟩; refine ⟨_, rfl, ?_⟩; have n0_ := Aside0.mk (below_step (by repeat (first | (with_reducible first | exact HB.out | apply below_alloc | apply pw_below_drewN | apply below_drew1) | exact HB.out)) hb); clear HB; have HB := n0_; clear n0_; (try clear hb); (try clear hb2); (try clear hk); (try clear hi)) | ((with_reducible refine gate_callee (f := 11) rfl ?_); refine goesL_ (some 24) rfl rfl Try.func11 (by kernel_rfl) rfl #[.slice A0 l0.length c0, .int .i64 a1, .int .i64 a2] rfl (by (try simp only [List.map_toArray, List.map_cons, List.map_nil]); first | done | rfl | (simp only [List.length_drop, List.length_take]; rfl)) ?_; (with_reducible refine (subchannel_Program.calls _ _ l0 a1 a2 t231 t232 t233 t234 t235 t236 t237 t238 t239 t240 _ ?side1 ?side2 A8.out).mono ?_); (case side1 => repeat (first | exact (Kd.C_below HR0.out HB.out) | (with_reducible refine Kd.C_alloc ?_ _) | (with_reducible refine Kd.C_drewN ?_ _) | (with_reducible refine Kd.C_drew ?_))); (case side2 => exact HC0.out); rintro e w17 ⟨rfl, hb⟩; refine ⟨_, rfl, ?_⟩; have n0_ := Aside0.mk (below_step (by repeat (first | (with_reducible first | exact HB.out | apply below_alloc | apply pw_below_drewN | apply below_drew1) | exact HB.out)) hb); clear HB; have HB := n0_; clear n0_; (try clear hb); (try clear hb2); (try clear hk); (try clear hi)) | ((with_reducible refine gate_dst (N := 7) rfl ?_); refine box_event ?hg (N := 7) ?hd (cs := #[.int .i64 0, .int .i64 0, .int .i64 0, .int .i64 0, .int .i64 0, .int .i64 0, .int .i64 0, .int .i64 0, .int .i64 0]) (t := 27) ?hr ?_; (case hd => rfl); (case hg => rfl); (case hr => first | (go_simp; done) | (go_simp; rfl)); intro gb241 hg w18 hbox hb; have n0_ := Aside0.mk (below_step (by repeat (first | (with_reducible first | exact HB.out | apply below_alloc | apply pw_below_drewN | apply below_drew1) | exact HB.out)) hb); have n1_ := Aside0.mk (hbox); have n2_ := Aside0.mk ((by rw [hg]; exact (below_size (by repeat (first | (with_reducible first | exact HB.out | apply below_alloc | apply pw_below_drewN | apply below_drew1) | exact HB.out))) : w.heap.size ≤ gb241)); have n3_ := Aside0.mk ((by rw [hg]; exact (below_size (by repeat (first | (with_reducible first | exact HB.out | apply below_alloc | apply pw_below_drewN | apply below_drew1) | exact HB.out))) : w.heap.size ≤ gb241)); clear HB; have HB := n0_; have BK241 := n1_; have GW241 := n2_; have GE241 := n3_; clear n0_ n1_ n2_ n3_; clear hb hbox hg; have hcz19_0 : w18.cell? ⟨gb241, 0, none⟩ = some (.int .i64 0) := (blk_cell BK241.out 0).trans rfl; have hcz19_1 : w18.cell? ⟨gb241, 1, none⟩ = some (.int .i64 0) := (blk_cell BK241.out 1).trans rfl; have hcz19_2 : w18.cell? ⟨gb241, 2, none⟩ = some (.int .i64 0) := (blk_cell BK241.out 2).trans rfl; have hcz19_3 : w18.cell? ⟨gb241, 3, none⟩ = some (.int .i64 0) := (blk_cell BK241.out 3).trans rfl; have hcz19_4 : w18.cell? ⟨gb241, 4, none⟩ = some (.int .i64 0) := (blk_cell BK241.out 4).trans rfl; have hcz19_5 : w18.cell? ⟨gb241, 5, none⟩ = some (.int .i64 0) := (blk_cell BK241.out 5).trans rfl; have hcz19_6 : w18.cell? ⟨gb241, 6, none⟩ = some (.int .i64 0) := (blk_cell BK241.out 6).trans rfl; have hcz19_7 : w18.cell? ⟨gb241, 7, none⟩ = some (.int .i64 0) := (blk_cell BK241.out 7).trans rfl; have hcz19_8 : w18.cell? ⟨gb241, 8, none⟩ = some (.int .i64 0) := (blk_cell BK241.out 8).trans rfl; have hfz19_0 := blk_frozen BK241.out 0; have hfz19_1 := blk_frozen BK241.out 1; have hfz19_2 := blk_frozen BK241.out 2; have hfz19_3 := blk_frozen BK241.out 3; have hfz19_4 := blk_frozen BK241.out 4; have hfz19_5 := blk_frozen BK241.out 5; have hfz19_6 := blk_frozen BK241.out 6; have hfz19_7 := blk_frozen BK241.out 7; have hfz19_8 := blk_frozen BK241.out 8) | ((with_reducible refine gate_callee (f := 12) rfl ?_); refine goesL_ (some 31) rfl rfl Try.func12 (by kernel_rfl) rfl #[.slice A0 l0.length c0, .int .i64 a1, .int .i64 a2] rfl (by (try simp only [List.map_toArray, List.map_cons, List.map_nil]); first | done | rfl | (simp only [List.length_drop, List.length_take]; rfl)) ?_; (with_reducible refine (masterdiscref10_Program.calls k _ _ l0 a1 a2 t242 t243 t244 t245 t246 t247 t248 t249 t250 t251 _ ?side1 ?side2 A9.out).mono ?_); (case side1 => exact Kd.C_below HR0.out (by repeat (first | (with_reducible first | exact HB.out | apply below_alloc | apply pw_below_drewN | apply below_drew1 | refine below_set ?_ GE241.out) | exact HB.out))); (case side2 => exact HC0.out); rintro e w20 ⟨rfl, hb⟩; refine ⟨_, rfl, ?_⟩; have n0_ := Aside0.mk (blk_below (g := gb241) (o := .cells #[.int .i64 t231, .int .i64 t232, .int .i64 t233, .int .i64 t234, .int .i64 t235, .int .i64 t236, .int .i64 t237, .int .i64 t238, .int .i64 t239] 27 (0, 0)) (by (with_reducible repeat (first | refine blk_drewN ?_ _ | refine blk_drew ?_ | refine blk_alloc ?_ _)); refine blk_put (cs := #[.int .i64 t231, .int .i64 t232, .int .i64 t233, .int .i64 t234, .int .i64 t235, .int .i64 t236, .int .i64 t237, .int .i64 t238, .int .i64 0]) ?_ 8 _ rfl; (with_reducible repeat (first | refine blk_drewN ?_ _ | refine blk_drew ?_ | refine blk_alloc ?_ _)); refine blk_put (cs := #[.int .i64 t231, .int .i64 t232, .int .i64 t233, .int .i64 t234, .int .i64 t235, .int .i64 t236, .int .i64 t237, .int .i64 0, .int .i64 0]) ?_ 7 _ rfl; (with_reducible repeat (first | refine blk_drewN ?_ _ | refine blk_drew ?_ | refine blk_alloc ?_ _)); refine blk_put (cs := #[.int .i64 t231, .int .i64 t232, .int .i64 t233, .int .i64 t234, .int .i64 t235, .int .i64 t236, .int .i64 0, .int .i64 0, .int .i64 0]) ?_ 6 _ rfl; (with_reducible repeat (first | refine blk_drewN ?_ _ | refine blk_drew ?_ | refine blk_alloc ?_ _)); refine blk_put (cs := #[.int .i64 t231, .int .i64 t232, .int .i64 t233, .int .i64 t234, .int .i64 t235, .int .i64 0, .int .i64 0, .int .i64 0, .int .i64 0]) ?_ 5 _ rfl; (with_reducible repeat (first | refine blk_drewN ?_ _ | refine blk_drew ?_ | refine blk_alloc ?_ _)); refine blk_put (cs := #[.int .i64 t231, .int .i64 t232, .int .i64 t233, .int .i64 t234, .int .i64 0, .int .i64 0, .int .i64 0, .int .i64 0, .int .i64 0]) ?_ 4 _ rfl; (with_reducible repeat (first | refine blk_drewN ?_ _ | refine blk_drew ?_ | refine blk_alloc ?_ _)); refine blk_put (cs := #[.int .i64 t231, .int .i64 t232, .int .i64 t233, .int .i64 0, .int .i64 0, .int .i64 0, .int .i64 0, .int .i64 0, .int .i64 0]) ?_ 3 _ rfl; (with_reducible repeat (first | refine blk_drewN ?_ _ | refine blk_drew ?_ | refine blk_alloc ?_ _)); refine blk_put (cs := #[.int .i64 t231, .int .i64 t232, .int .i64 0, .int .i64 0, .int .i64 0, .int .i64 0, .int .i64 0, .int .i64 0, .int .i64 0]) ?_ 2 _ rfl; (with_reducible repeat (first | refine blk_drewN ?_ _ | refine blk_drew ?_ | refine blk_alloc ?_ _)); refine blk_put (cs := #[.int .i64 t231, .int .i64 0, .int .i64 0, .int .i64 0, .int .i64 0, .int .i64 0, .int .i64 0, .int .i64 0, .int .i64 0]) ?_ 1 _ rfl; (with_reducible repeat (first | refine blk_drewN ?_ _ | refine blk_drew ?_ | refine blk_alloc ?_ _)); refine blk_put (cs := #[.int .i64 0, .int .i64 0, .int .i64 0, .int .i64 0, .int .i64 0, .int .i64 0, .int .i64 0, .int .i64 0, .int .i64 0]) ?_ 0 _ rfl; (with_reducible repeat (first | refine blk_drewN ?_ _ | refine blk_drew ?_ | refine blk_alloc ?_ _)); exact BK241.out) hb); have n1_ := Aside0.mk (below_step (by repeat (first | (with_reducible first | exact HB.out | apply below_alloc | apply pw_below_drewN | apply below_drew1 | refine below_set ?_ GE241.out) | exact HB.out)) hb); clear BK241; clear HB; have BK241 := n0_; have HB := n1_; clear n0_ n1_; (try clear hb); (try clear hb2); (try clear hk); (try clear hi)) | ((with_reducible refine gate_dst (N := 9) rfl ?_); refine box_event ?hg (N := 9) ?hd (cs := #[.int .i64 0, .int .i64 0, .int .i64 0, .int .i64 0, .int .i64 0, .int .i64 0, .int .i64 0, .int .i64 0, .int .i64 0]) (t := 27) ?hr ?_; (case hd => rfl); (case hg => rfl); (case hr => first | (go_simp; done) | (go_simp; rfl)); intro gb252 hg w21 hbox hb; have n0_ := Aside0.mk (blk_below (g := gb241) (o := .cells #[.int .i64 t231, .int .i64 t232, .int .i64 t233, .int .i64 t234, .int .i64 t235, .int .i64 t236, .int .i64 t237, .int .i64 t238, .int .i64 t239] 27 (0, 0)) (by (with_reducible repeat (first | refine blk_drewN ?_ _ | refine blk_drew ?_ | refine blk_alloc ?_ _)); exact BK241.out) hb); have n1_ := Aside0.mk (below_step (by repeat (first | (with_reducible first | exact HB.out | apply below_alloc | apply pw_below_drewN | apply below_drew1 | refine below_set ?_ GE241.out) | exact HB.out)) hb); have n2_ := Aside0.mk (hbox); have n3_ := Aside0.mk ((by rw [hg]; exact (below_size (by repeat (first | (with_reducible first | exact HB.out | apply below_alloc | apply pw_below_drewN | apply below_drew1 | refine below_set ?_ GE241.out) | exact HB.out))) : w.heap.size ≤ gb252)); have n4_ := Aside0.mk ((by rw [hg]; exact (below_size (by repeat (first | (with_reducible first | exact HB.out | apply below_alloc | apply pw_below_drewN | apply below_drew1 | refine below_set ?_ GE241.out) | exact HB.out))) : w.heap.size ≤ gb252)); have n5_ := Aside0.mk ((by rw [hg]; exact Nat.ne_of_lt (blk_lt (g := gb241) (o := .cells #[.int .i64 t231, .int .i64 t232, .int .i64 t233, .int .i64 t234, .int .i64 t235, .int .i64 t236, .int .i64 t237, .int .i64 t238, .int .i64 t239] 27 (0, 0)) (by (with_reducible repeat (first | refine blk_drewN ?_ _ | refine blk_drew ?_ | refine blk_alloc ?_ _)); exact BK241.out)) : gb241 ≠ gb252)); have n6_ := Aside0.mk ((by rw [hg]; exact Nat.ne_of_gt (blk_lt (g := gb241) (o := .cells #[.int .i64 t231, .int .i64 t232, .int .i64 t233, .int .i64 t234, .int .i64 t235, .int .i64 t236, .int .i64 t237, .int .i64 t238, .int .i64 t239] 27 (0, 0)) (by (with_reducible repeat (first | refine blk_drewN ?_ _ | refine blk_drew ?_ | refine blk_alloc ?_ _)); exact BK241.out)) : gb252 ≠ gb241)); clear BK241; clear HB; have BK241 := n0_; have HB := n1_; have BK252 := n2_; have GW252 := n3_; have GE252 := n4_; have NB241_252 := n5_; have NB252_241 := n6_; clear n0_ n1_ n2_ n3_ n4_ n5_ n6_; clear hb hbox hg; have hnb22 := NB252_241.out; have hnc22 := NB241_252.out; have hcz23_0 : w21.cell? ⟨gb252, 0, none⟩ = some (.int .i64 0) := (blk_cell BK252.out 0).trans rfl; have hcz23_1 : w21.cell? ⟨gb252, 1, none⟩ = some (.int .i64 0) := (blk_cell BK252.out 1).trans rfl; have hcz23_2 : w21.cell? ⟨gb252, 2, none⟩ = some (.int .i64 0) := (blk_cell BK252.out 2).trans rfl; have hcz23_3 : w21.cell? ⟨gb252, 3, none⟩ = some (.int .i64 0) := (blk_cell BK252.out 3).trans rfl; have hcz23_4 : w21.cell? ⟨gb252, 4, none⟩ = some (.int .i64 0) := (blk_cell BK252.out 4).trans rfl; have hcz23_5 : w21.cell? ⟨gb252, 5, none⟩ = some (.int .i64 0) := (blk_cell BK252.out 5).trans rfl; have hcz23_6 : w21.cell? ⟨gb252, 6, none⟩ = some (.int .i64 0) := (blk_cell BK252.out 6).trans rfl; have hcz23_7 : w21.cell? ⟨gb252, 7, none⟩ = some (.int .i64 0) := (blk_cell BK252.out 7).trans rfl; have hcz23_8 : w21.cell? ⟨gb252, 8, none⟩ = some (.int .i64 0) := (blk_cell BK252.out 8).trans rfl; have hfz23_0 := blk_frozen BK252.out 0; have hfz23_1 := blk_frozen BK252.out 1; have hfz23_2 := blk_frozen BK252.out 2; have hfz23_3 := blk_frozen BK252.out 3; have hfz23_4 := blk_frozen BK252.out 4; have hfz23_5 := blk_frozen BK252.out 5; have hfz23_6 := blk_frozen BK252.out 6; have hfz23_7 := blk_frozen BK252.out 7; have hfz23_8 := blk_frozen BK252.out 8) | ((with_reducible refine gate_callee (f := 13) rfl ?_); refine goesL_ (some 37) rfl rfl Try.func13 (by kernel_rfl) rfl #[.slice A0 l0.length c0, .int .i64 a1] rfl (by (try simp only [List.map_toArray, List.map_cons, List.map_nil]); first | done | rfl | (simp only [List.length_drop, List.length_take]; rfl)) ?_; (with_reducible refine (subchannel_Entries.calls _ _ l0 a1 t253 t254 _ ?side1 ?side2 A10.out).mono ?_); (case side1 => exact Kd.C_below HR0.out (by repeat (first | (with_reducible first | exact HB.out | apply below_alloc | apply pw_below_drewN | apply below_drew1 | refine below_set ?_ GE241.out | refine below_set ?_ GE252.out) | exact HB.out))); (case side2 => exact HC0.out); rintro e w24 ⟨v255, rfl, ho0, hb⟩; refine ⟨_, rfl, ?_⟩; have n0_ := Aside0.mk (Kd.R_lower (Kd.R_newB (Kd.R_newB ho0 (g := gb241) (o := .cells #[.int .i64 t231, .int .i64 t232, .int .i64 t233, .int .i64 t234, .int .i64 t235, .int .i64 t236, .int .i64 t237, .int .i64 t238, .int .i64 t239] 27 (0, 0)) (by (with_reducible repeat (first | refine blk_drewN ?_ _ | refine blk_drew ?_ | refine blk_alloc ?_ _)); refine blk_far ?_ NB241_252.out _; (with_reducible repeat (first | refine blk_drewN ?_ _ | refine blk_drew ?_ | refine blk_alloc ?_ _)); refine blk_far ?_ NB241_252.out _; (with_reducible repeat (first | refine blk_drewN ?_ _ | refine blk_drew ?_ | refine blk_alloc ?_ _)); refine blk_far ?_ NB241_252.out _; (with_reducible repeat (first | refine blk_drewN ?_ _ | refine blk_drew ?_ | refine blk_alloc ?_ _)); refine blk_far ?_ NB241_252.out _; (with_reducible repeat (first | refine blk_drewN ?_ _ | refine blk_drew ?_ | refine blk_alloc ?_ _)); refine blk_far ?_ NB241_252.out _; (with_reducible repeat (first | refine blk_drewN ?_ _ | refine blk_drew ?_ | refine blk_alloc ?_ _)); refine blk_far ?_ NB241_252.out _; (with_reducible repeat (first | refine blk_drewN ?_ _ | refine blk_drew ?_ | refine blk_alloc ?_ _)); refine blk_far ?_ NB241_252.out _; (with_reducible repeat (first | refine blk_drewN ?_ _ | refine blk_drew ?_ | refine blk_alloc ?_ _)); refine blk_far ?_ NB241_252.out _; (with_reducible repeat (first | refine blk_drewN ?_ _ | refine blk_drew ?_ | refine blk_alloc ?_ _)); refine blk_far ?_ NB241_252.out _; (with_reducible repeat (first | refine blk_drewN ?_ _ | refine blk_drew ?_ | refine blk_alloc ?_ _)); exact BK241.out)) (g := gb252) (o := .cells #[.int .i64 t242, .int .i64 t243, .int .i64 t244, .int .i64 t245, .int .i64 t246, .int .i64 t247, .int .i64 t248, .int .i64 t249, .int .i64 t250] 27 (0, 0)) (by (with_reducible repeat (first | refine blk_drewN ?_ _ | refine blk_drew ?_ | refine blk_alloc ?_ _)); refine blk_put (cs := #[.int .i64 t242, .int .i64 t243, .int .i64 t244, .int .i64 t245, .int .i64 t246, .int .i64 t247, .int .i64 t248, .int .i64 t249, .int .i64 0]) ?_ 8 _ rfl; (with_reducible repeat (first | refine blk_drewN ?_ _ | refine blk_drew ?_ | refine blk_alloc ?_ _)); refine blk_put (cs := #[.int .i64 t242, .int .i64 t243, .int .i64 t244, .int .i64 t245, .int .i64 t246, .int .i64 t247, .int .i64 t248, .int .i64 0, .int .i64 0]) ?_ 7 _ rfl; (with_reducible repeat (first | refine blk_drewN ?_ _ | refine blk_drew ?_ | refine blk_alloc ?_ _)); refine blk_put (cs := #[.int .i64 t242, .int .i64 t243, .int .i64 t244, .int .i64 t245, .int .i64 t246, .int .i64 t247, .int .i64 0, .int .i64 0, .int .i64 0]) ?_ 6 _ rfl; (with_reducible repeat (first | refine blk_drewN ?_ _ | refine blk_drew ?_ | refine blk_alloc ?_ _)); refine blk_put (cs := #[.int .i64 t242, .int .i64 t243, .int .i64 t244, .int .i64 t245, .int .i64 t246, .int .i64 0, .int .i64 0, .int .i64 0, .int .i64 0]) ?_ 5 _ rfl; (with_reducible repeat (first | refine blk_drewN ?_ _ | refine blk_drew ?_ | refine blk_alloc ?_ _)); refine blk_put (cs := #[.int .i64 t242, .int .i64 t243, .int .i64 t244, .int .i64 t245, .int .i64 0, .int .i64 0, .int .i64 0, .int .i64 0, .int .i64 0]) ?_ 4 _ rfl; (with_reducible repeat (first | refine blk_drewN ?_ _ | refine blk_drew ?_ | refine blk_alloc ?_ _)); refine blk_put (cs := #[.int .i64 t242, .int .i64 t243, .int .i64 t244, .int .i64 0, .int .i64 0, .int .i64 0, .int .i64 0, .int .i64 0, .int .i64 0]) ?_ 3 _ rfl; (with_reducible repeat (first | refine blk_drewN ?_ _ | refine blk_drew ?_ | refine blk_alloc ?_ _)); refine blk_put (cs := #[.int .i64 t242, .int .i64 t243, .int .i64 0, .int .i64 0, .int .i64 0, .int .i64 0, .int .i64 0, .int .i64 0, .int .i64 0]) ?_ 2 _ rfl; (with_reducible repeat (first | refine blk_drewN ?_ _ | refine blk_drew ?_ | refine blk_alloc ?_ _)); refine blk_put (cs := #[.int .i64 t242, .int .i64 0, .int .i64 0, .int .i64 0, .int .i64 0, .int .i64 0, .int .i64 0, .int .i64 0, .int .i64 0]) ?_ 1 _ rfl; (with_reducible repeat (first | refine blk_drewN ?_ _ | refine blk_drew ?_ | refine blk_alloc ?_ _)); refine blk_put (cs := #[.int .i64 0, .int .i64 0, .int .i64 0, .int .i64 0, .int .i64 0, .int .i64 0, .int .i64 0, .int .i64 0, .int .i64 0]) ?_ 0 _ rfl; (with_reducible repeat (first | refine blk_drewN ?_ _ | refine blk_drew ?_ | refine blk_alloc ?_ _)); exact BK252.out)) (below_size (by repeat (first | (with_reducible first | exact HB.out | apply below_alloc | apply pw_below_drewN | apply below_drew1 | refine below_set ?_ GE241.out | refine below_set ?_ GE252.out) | exact HB.out)))); have n1_ := Aside0.mk (blk_below (g := gb241) (o := .cells #[.int .i64 t231, .int .i64 t232, .int .i64 t233, .int .i64 t234, .int .i64 t235, .int .i64 t236, .int .i64 t237, .int .i64 t238, .int .i64 t239] 27 (0, 0)) (by (with_reducible repeat (first | refine blk_drewN ?_ _ | refine blk_drew ?_ | refine blk_alloc ?_ _)); refine blk_far ?_ NB241_252.out _; (with_reducible repeat (first | refine blk_drewN ?_ _ | refine blk_drew ?_ | refine blk_alloc ?_ _)); refine blk_far ?_ NB241_252.out _; (with_reducible repeat (first | refine blk_drewN ?_ _ | refine blk_drew ?_ | refine blk_alloc ?_ _)); refine blk_far ?_ NB241_252.out _; (with_reducible repeat (first | refine blk_drewN ?_ _ | refine blk_drew ?_ | refine blk_alloc ?_ _)); refine blk_far ?_ NB241_252.out _; (with_reducible repeat (first | refine blk_drewN ?_ _ | refine blk_drew ?_ | refine blk_alloc ?_ _)); refine blk_far ?_ NB241_252.out _; (with_reducible repeat (first | refine blk_drewN ?_ _ | refine blk_drew ?_ | refine blk_alloc ?_ _)); refine blk_far ?_ NB241_252.out _; (with_reducible repeat (first | refine blk_drewN ?_ _ | refine blk_drew ?_ | refine blk_alloc ?_ _)); refine blk_far ?_ NB241_252.out _; (with_reducible repeat (first | refine blk_drewN ?_ _ | refine blk_drew ?_ | refine blk_alloc ?_ _)); refine blk_far ?_ NB241_252.out _; (with_reducible repeat (first | refine blk_drewN ?_ _ | refine blk_drew ?_ | refine blk_alloc ?_ _)); refine blk_far ?_ NB241_252.out _; (with_reducible repeat (first | refine blk_drewN ?_ _ | refine blk_drew ?_ | refine blk_alloc ?_ _)); exact BK241.out) hb); have n2_ := Aside0.mk (blk_below (g := gb252) (o := .cells #[.int .i64 t242, .int .i64 t243, .int .i64 t244, .int .i64 t245, .int .i64 t246, .int .i64 t247, .int .i64 t248, .int .i64 t249, .int .i64 t250] 27 (0, 0)) (by (with_reducible repeat (first | refine blk_drewN ?_ _ | refine blk_drew ?_ | refine blk_alloc ?_ _)); refine blk_put (cs := #[.int .i64 t242, .int .i64 t243, .int .i64 t244, .int .i64 t245, .int .i64 t246, .int .i64 t247, .int .i64 t248, .int .i64 t249, .int .i64 0]) ?_ 8 _ rfl; (with_reducible repeat (first | refine blk_drewN ?_ _ | refine blk_drew ?_ | refine blk_alloc ?_ _)); refine blk_put (cs := #[.int .i64 t242, .int .i64 t243, .int .i64 t244, .int .i64 t245, .int .i64 t246, .int .i64 t247, .int .i64 t248, .int .i64 0, .int .i64 0]) ?_ 7 _ rfl; (with_reducible repeat (first | refine blk_drewN ?_ _ | refine blk_drew ?_ | refine blk_alloc ?_ _)); refine blk_put (cs := #[.int .i64 t242, .int .i64 t243, .int .i64 t244, .int .i64 t245, .int .i64 t246, .int .i64 t247, .int .i64 0, .int .i64 0, .int .i64 0]) ?_ 6 _ rfl; (with_reducible repeat (first | refine blk_drewN ?_ _ | refine blk_drew ?_ | refine blk_alloc ?_ _)); refine blk_put (cs := #[.int .i64 t242, .int .i64 t243, .int .i64 t244, .int .i64 t245, .int .i64 t246, .int .i64 0, .int .i64 0, .int .i64 0, .int .i64 0]) ?_ 5 _ rfl; (with_reducible repeat (first | refine blk_drewN ?_ _ | refine blk_drew ?_ | refine blk_alloc ?_ _)); refine blk_put (cs := #[.int .i64 t242, .int .i64 t243, .int .i64 t244, .int .i64 t245, .int .i64 0, .int .i64 0, .int .i64 0, .int .i64 0, .int .i64 0]) ?_ 4 _ rfl; (with_reducible repeat (first | refine blk_drewN ?_ _ | refine blk_drew ?_ | refine blk_alloc ?_ _)); refine blk_put (cs := #[.int .i64 t242, .int .i64 t243, .int .i64 t244, .int .i64 0, .int .i64 0, .int .i64 0, .int .i64 0, .int .i64 0, .int .i64 0]) ?_ 3 _ rfl; (with_reducible repeat (first | refine blk_drewN ?_ _ | refine blk_drew ?_ | refine blk_alloc ?_ _)); refine blk_put (cs := #[.int .i64 t242, .int .i64 t243, .int .i64 0, .int .i64 0, .int .i64 0, .int .i64 0, .int .i64 0, .int .i64 0, .int .i64 0]) ?_ 2 _ rfl; (with_reducible repeat (first | refine blk_drewN ?_ _ | refine blk_drew ?_ | refine blk_alloc ?_ _)); refine blk_put (cs := #[.int .i64 t242, .int .i64 0, .int .i64 0, .int .i64 0, .int .i64 0, .int .i64 0, .int .i64 0, .int .i64 0, .int .i64 0]) ?_ 1 _ rfl; (with_reducible repeat (first | refine blk_drewN ?_ _ | refine blk_drew ?_ | refine blk_alloc ?_ _)); refine blk_put (cs := #[.int .i64 0, .int .i64 0, .int .i64 0, .int .i64 0, .int .i64 0, .int .i64 0, .int .i64 0, .int .i64 0, .int .i64 0]) ?_ 0 _ rfl; (with_reducible repeat (first | refine blk_drewN ?_ _ | refine blk_drew ?_ | refine blk_alloc ?_ _)); exact BK252.out) hb); have n3_ := Aside0.mk (below_step (by repeat (first | (with_reducible first | exact HB.out | apply below_alloc | apply pw_below_drewN | apply below_drew1 | refine below_set ?_ GE241.out | refine below_set ?_ GE252.out) | exact HB.out)) hb); clear BK241; clear BK252; clear HB; have HO256 := n0_; have BK241 := n1_; have BK252 := n2_; have HB := n3_; clear n0_ n1_ n2_ n3_; (try clear hb); (try clear hb2); (try clear hk); (try clear hi); (try clear ho0)) | ((with_reducible refine gate_callee (f := 14) rfl ?_); refine goesL_ (some 43) rfl rfl Try.func14 (by kernel_rfl) rfl #[.slice A0 l0.length c0, .int .i64 a1] rfl (by (try simp only [List.map_toArray, List.map_cons, List.map_nil]); first | done | rfl | (simp only [List.length_drop, List.length_take]; rfl)) ?_; (with_reducible refine (masterdiscref10_Entries.calls k _ _ l0 a1 t257 t258 _ ?side1 ?side2 A11.out).mono ?_); (case side1 => repeat (first | exact (Kd.C_below HR0.out HB.out) | (with_reducible refine Kd.C_alloc ?_ _) | (with_reducible refine Kd.C_drewN ?_ _) | (with_reducible refine Kd.C_drew ?_))); (case side2 => exact HC0.out); rintro e w25 ⟨v259, rfl, ho0, hb⟩; refine ⟨_, rfl, ?_⟩; have n0_ := Aside0.mk (Kd.R_elder' (by (with_reducible repeat (first | apply Kd.R_alloc | apply Kd.R_drewN | apply Kd.R_drew)); exact HO256.out) (Kd.R_base ho0) hb); have n1_ := Aside0.mk (Kd.R_lower (Kd.R_newB (Kd.R_newB (Kd.R_new' ho0 (Kd.R_lt (by (with_reducible repeat (first | apply Kd.R_alloc | apply Kd.R_drewN | apply Kd.R_drew)); exact HO256.out))) (g := gb241) (o := .cells #[.int .i64 t231, .int .i64 t232, .int .i64 t233, .int .i64 t234, .int .i64 t235, .int .i64 t236, .int .i64 t237, .int .i64 t238, .int .i64 t239] 27 (0, 0)) (by (with_reducible repeat (first | refine blk_drewN ?_ _ | refine blk_drew ?_ | refine blk_alloc ?_ _)); exact BK241.out)) (g := gb252) (o := .cells #[.int .i64 t242, .int .i64 t243, .int .i64 t244, .int .i64 t245, .int .i64 t246, .int .i64 t247, .int .i64 t248, .int .i64 t249, .int .i64 t250] 27 (0, 0)) (by (with_reducible repeat (first | refine blk_drewN ?_ _ | refine blk_drew ?_ | refine blk_alloc ?_ _)); exact BK252.out)) (below_size (by repeat (first | (with_reducible first | exact HB.out | apply below_alloc | apply pw_below_drewN | apply below_drew1 | refine below_set ?_ GE241.out | refine below_set ?_ GE252.out) | exact HB.out)))); have n2_ := Aside0.mk (blk_below (g := gb241) (o := .cells #[.int .i64 t231, .int .i64 t232, .int .i64 t233, .int .i64 t234, .int .i64 t235, .int .i64 t236, .int .i64 t237, .int .i64 t238, .int .i64 t239] 27 (0, 0)) (by (with_reducible repeat (first | refine blk_drewN ?_ _ | refine blk_drew ?_ | refine blk_alloc ?_ _)); exact BK241.out) hb); have n3_ := Aside0.mk (blk_below (g := gb252) (o := .cells #[.int .i64 t242, .int .i64 t243, .int .i64 t244, .int .i64 t245, .int .i64 t246, .int .i64 t247, .int .i64 t248, .int .i64 t249, .int .i64 t250] 27 (0, 0)) (by (with_reducible repeat (first | refine blk_drewN ?_ _ | refine blk_drew ?_ | refine blk_alloc ?_ _)); exact BK252.out) hb); have n4_ := Aside0.mk (below_step (by repeat (first | (with_reducible first | exact HB.out | apply below_alloc | apply pw_below_drewN | apply below_drew1 | refine below_set ?_ GE241.out | refine below_set ?_ GE252.out) | exact HB.out)) hb); clear HO256; clear BK241; clear BK252; clear HB; have HO256 := n0_; have HO260 := n1_; have BK241 := n2_; have BK252 := n3_; have HB := n4_; clear n0_ n1_ n2_ n3_ n4_; (try clear hb); (try clear hb2); (try clear hk); (try clear hi); (try clear ho0); have hcz26_0 : w25.cell? ⟨gb241, 0, none⟩ = some (.int .i64 t231) := (blk_cell BK241.out 0).trans rfl; have hcz26_1 : w25.cell? ⟨gb241, 1, none⟩ = some (.int .i64 t232) := (blk_cell BK241.out 1).trans rfl; have hcz26_2 : w25.cell? ⟨gb241, 2, none⟩ = some (.int .i64 t233) := (blk_cell BK241.out 2).trans rfl; have hcz26_3 : w25.cell? ⟨gb241, 3, none⟩ = some (.int .i64 t234) := (blk_cell BK241.out 3).trans rfl; have hcz26_4 : w25.cell? ⟨gb241, 4, none⟩ = some (.int .i64 t235) := (blk_cell BK241.out 4).trans rfl; have hcz26_5 : w25.cell? ⟨gb241, 5, none⟩ = some (.int .i64 t236) := (blk_cell BK241.out 5).trans rfl; have hcz26_6 : w25.cell? ⟨gb241, 6, none⟩ = some (.int .i64 t237) := (blk_cell BK241.out 6).trans rfl; have hcz26_7 : w25.cell? ⟨gb241, 7, none⟩ = some (.int .i64 t238) := (blk_cell BK241.out 7).trans rfl; have hcz26_8 : w25.cell? ⟨gb241, 8, none⟩ = some (.int .i64 t239) := (blk_cell BK241.out 8).trans rfl; have hfz26_0 := blk_frozen BK241.out 0; have hfz26_1 := blk_frozen BK241.out 1; have hfz26_2 := blk_frozen BK241.out 2; have hfz26_3 := blk_frozen BK241.out 3; have hfz26_4 := blk_frozen BK241.out 4; have hfz26_5 := blk_frozen BK241.out 5; have hfz26_6 := blk_frozen BK241.out 6; have hfz26_7 := blk_frozen BK241.out 7; have hfz26_8 := blk_frozen BK241.out 8; have hcz27_0 : w25.cell? ⟨gb252, 0, none⟩ = some (.int .i64 t242) := (blk_cell BK252.out 0).trans rfl; have hcz27_1 : w25.cell? ⟨gb252, 1, none⟩ = some (.int .i64 t243) := (blk_cell BK252.out 1).trans rfl; have hcz27_2 : w25.cell? ⟨gb252, 2, none⟩ = some (.int .i64 t244) := (blk_cell BK252.out 2).trans rfl; have hcz27_3 : w25.cell? ⟨gb252, 3, none⟩ = some (.int .i64 t245) := (blk_cell BK252.out 3).trans rfl; have hcz27_4 : w25.cell? ⟨gb252, 4, none⟩ = some (.int .i64 t246) := (blk_cell BK252.out 4).trans rfl; have hcz27_5 : w25.cell? ⟨gb252, 5, none⟩ = some (.int .i64 t247) := (blk_cell BK252.out 5).trans rfl; have hcz27_6 : w25.cell? ⟨gb252, 6, none⟩ = some (.int .i64 t248) := (blk_cell BK252.out 6).trans rfl; have hcz27_7 : w25.cell? ⟨gb252, 7, none⟩ = some (.int .i64 t249) := (blk_cell BK252.out 7).trans rfl; have hcz27_8 : w25.cell? ⟨gb252, 8, none⟩ = some (.int .i64 t250) := (blk_cell BK252.out 8).trans rfl; have hfz27_0 := blk_frozen BK252.out 0; have hfz27_1 := blk_frozen BK252.out 1; have hfz27_2 := blk_frozen BK252.out 2; have hfz27_3 := blk_frozen BK252.out 3; have hfz27_4 := blk_frozen BK252.out 4; have hfz27_5 := blk_frozen BK252.out 5; have hfz27_6 := blk_frozen BK252.out 6; have hfz27_7 := blk_frozen BK252.out 7; have hfz27_8 := blk_frozen BK252.out 8; obtain ⟨Ao28, co28, eo28⟩ := Kd.R_slice HO256.out; subst eo28; obtain ⟨Ao29, co29, eo29⟩ := Kd.R_slice HO260.out; subst eo29) | (go_at_call 15; (with_reducible refine (masterdiscref10_Same.calls k _ _ t253 _ _ t257 true _ ?side1 ?side2 ?side3 ?side4 A14.out).mono ?_); (case side1 => repeat (first | exact (Kd.R_reads' HO256.out).2.2 | (with_reducible refine Kd.C_alloc ?_ _) | (with_reducible refine Kd.C_drewN ?_ _) | (with_reducible refine Kd.C_drew ?_))); (case side2 => exact (Kd.R_reads' HO256.out).2.1); (case side3 => repeat (first | exact (Kd.R_reads' HO260.out).2.2 | (with_reducible refine Kd.C_alloc ?_ _) | (with_reducible refine Kd.C_drewN ?_ _) | (with_reducible refine Kd.C_drew ?_))); (case side4 => exact (Kd.R_reads' HO260.out).2.1); rintro e w' ⟨rfl, ⟨nd, rfl⟩⟩))
           go_ret
           exact ⟨by first | rfl | (simp [errW_none, errW_some] <;> rfl) | (simp [*, errW_none, errW_some] <;> rfl), by repeat (first | (with_reducible first | exact HB.out | apply below_alloc | apply pw_below_drewN | apply below_drew1 | refine below_set ?_ GE241.out | refine below_set ?_ GE252.out) | exact HB.out)⟩
         · replace c15 := Bool.eq_false_iff.mpr c15
           subst c15
           have H1 : (none) = some r := by rw [if_neg (show ¬ (false = true) by decide)] at H; exact H
           clear H
           have H := H1
           clear H1
           exact absurd H (by simp)
       · rw [if_neg c13] at H
         exact absurd H (by simp)
     · rw [if_neg c12] at H
       exact absurd H (by simp)
 · replace c5 := Bool.eq_false_iff.mpr c5
   subst c5
   have H1 : (none) = some r := by rw [if_neg (show ¬ (false = true) by decide)] at H; exact H
   clear H
   have H := H1
   clear H1
   exact absurd H (by simp)
end Go.Proofs.Ytpmkibggmkibeaa.G
namespace Go.Proofs.Ytpmkibggmkibeaa.G
open Go.RowKit Go.Proofs.YtpmkibggmkibeaaW.PrintWords Go.Proofs.YtpmkibggmkibeaaW.PrintLast Go.Proofs.YtpmkibggmkibeaaW.PrintMore
set_option linter.unusedVariables false
theorem program_some (l : List (S53)) (a1 a2 : Int) : ∃ v, subchannel_Program.f l a1 a2 = some v := by
 unfold subchannel_Program.f
 repeat' split
 all_goals exact ⟨_, rfl⟩
theorem entries_some (l : List (S53)) (a1 : Int) : ∃ v e, subchannel_Entries.f l a1 = some (v, e) ∧ v.length ≤ 110 := by
 unfold subchannel_Entries.f
 split
 · rename_i h
   have := (ses_of h.1).most
   exact ⟨_, _, rfl, by rw [entL_length]; omega⟩
 · exact ⟨_, _, rfl, by simp⟩
theorem pure_SubchannelPositions (l : List (S53)) (a1 a2 : Int) : ∃ k, masterdisclaw10_SubchannelPositions.f k l a1 a2 = some true := by
 obtain ⟨p, hp⟩ := program_some l a1 a2
 obtain ⟨v, e, hv, hlen⟩ := entries_some l a1
 obtain ⟨k1, h1⟩ := refprog_plain l a1 a2
 obtain ⟨k2, h2⟩ := refent_plain l a1
 rw [hp] at h1
 rw [hv] at h2
 refine ⟨max (max k1 k2) 200, ?_⟩
 have e1 := at_rounds (g := fun k => masterdiscref10_Program.f k l a1 a2) (masterdiscref10_Program.mono l a1 a2) (k' := max (max k1 k2) 200) (by omega) h1
 have e2 := at_rounds (g := fun k => masterdiscref10_Entries.f k l a1) (masterdiscref10_Entries.mono l a1) (k' := max (max k1 k2) 200) (by omega) h2
 have e3 := same_self v (by omega) (max (max k1 k2) 200) (by omega)
 unfold masterdisclaw10_SubchannelPositions.f
 rw [awake_plain]
 simp only [Option.bind_some]
 rw [if_pos trivial]
 by_cases hl : (l.length : Int) > 120
 · rw [if_pos hl]
 · rw [if_neg hl, hp]
   simp only [Option.bind_some]
   rw [e1]
   simp only [Option.bind_some]
   rw [hv]
   simp only [Option.bind_some]
   rw [e2]
   simp only [Option.bind_some]
   rw [if_pos (by simp), if_pos trivial, e3]
   simp
end Go.Proofs.Ytpmkibggmkibeaa.G
