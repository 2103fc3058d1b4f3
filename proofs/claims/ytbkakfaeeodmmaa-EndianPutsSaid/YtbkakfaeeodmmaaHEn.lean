/- The calls of endian.write, read, Little, Big, Both, ReadLittle, ReadBig of the given program come to what the Lean functions of the same names tell, at all arguments at which these tell something; no other condition. -/
import Derived.Test.YtbkakfaeeodmmaaX0
import Derived.Test.YtbkakfaeeodmmaaXEn
import Derived.StillTailTactics
import Derived.Deep.RegionWith
import Derived.Laws.MakeOwn
namespace Go.Proofs.Ytbkakfaeeodmmaa.G
open Go.RowKit Go.Proofs.YtbkakfaeeodmmaaW.PrintWords Go.Proofs.YtbkakfaeeodmmaaW.PrintLast Go.Proofs.YtbkakfaeeodmmaaW.PrintMore
set_option linter.unusedVariables false
theorem up1 (i : Int) (w : World) : Calls Try.prog 41 #[.int .i64 i] w fun e w' => e = .returned (.int .i64 i) ∧ w = w' := by
  go_enter Try.func41, Try.ntmps41
  go_wp2
  go_ret
  exact ⟨rfl, rfl⟩
theorem down1 (i m : Int) (B : Nat) (w : World) (h0 : 0 ≤ i) (h1 : i < m) (h2 : m ≤ 8) (hc : w.cell? ⟨B, 0, none⟩ = some (.int .i64 m)) :
    Calls Try.prog 42 #[.int .i64 i, .pointer (some ⟨B, 0, none⟩)] w fun e w' => e = .returned (.int .i64 (m - 1 - i)) ∧ w = w' := by
  go_enter Try.func42, Try.ntmps42
  go_wp2
  go_ret
  exact ⟨rfl, rfl⟩
theorem up_any (i : Int) (w : World) : Calls Try.prog 30 #[.int .i64 i] w fun e w' => e = .returned (.func (.func 41) #[] #[]) ∧ w = w' := by
  go_enter Try.func30, Try.ntmps30
  go_wp2
  go_ret
  exact ⟨rfl, rfl⟩
theorem down_any (i : Int) (w : World) : Calls Try.prog 33 #[.int .i64 i] w fun e w' => e = .returned (.func (.func 42) #[] #[.pointer (some ⟨w.heap.size, 0, none⟩)]) ∧ w.alloc (.cells #[.int .i64 i] 3) = w' := by
  go_enter Try.func33, Try.ntmps33
  go_wp2
  go_ret
  exact ⟨rfl, rfl⟩
def bArr (l : List Int) : Array Value := (nums .u8 l).toArray
theorem madeB (m : Nat) (w : World) (hm : m ≤ 8) : (Instr.makeSlice 52 (.int .i64 m) (.int .i64 m)).run Try.prog w = .ok (.slice (some ⟨w.heap.size, 0, none⟩) m m) (w.alloc (.cells (bArr (List.replicate m 0)) 5)) := by
  obtain ⟨i0, hi, hz0, hz1, hz2⟩ := info_parts info5
  have h := run_make (P := Try.prog) w 52 5 i0 (.int .u8 0) Try.underlying52 hi hz0 .i64 .i64 m m (by omega) (by omega) (by rw [hz2]; omega) (by omega)
  have e : madeCells (Value.int .u8 0).cells ((m : Int).toNat * i0.size) = bArr (List.replicate m 0) := by
    apply Array.toList_inj.1
    have := toList_madeCells_one (.int .u8 0) m
    rw [hz1, Int.toNat_natCast, Nat.mul_one]
    exact this.trans (by simp [bArr, nums])
  rw [h, e, Int.toNat_natCast]
/-- The byte with the weight 256^i. -/
def byteAt (n : Int) (i : Nat) : Int := n / 2 ^ (8 * i) % 256
/-- The bytes of a number behind k rounds, byte i at place pl i. -/
def enPut (n : Int) (m : Nat) (pl : Nat → Nat) : Nat → List Int
  | 0 => List.replicate m 0
  | k + 1 => (enPut n m pl k).set (pl k) (byteAt n k)
theorem enPut_length (n : Int) (m : Nat) (pl : Nat → Nat) (k : Nat) : (enPut n m pl k).length = m := by
  induction k with
  | zero => simp [enPut]
  | succ k ih => simp [enPut, ih]
theorem bArr_set (l : List Int) (i : Nat) (x : Int) : (bArr l).setIfInBounds i (.int .u8 x) = bArr (l.set i x) := by
  simp [bArr, nums, List.map_set]
theorem nums_getD (l : List Int) (j : Nat) (h : j < l.length) : (nums .u8 l)[j]? = some (.int .u8 (l.getD j 0)) := by
  simp [nums, List.getElem?_eq_getElem h, List.getD_eq_getElem?_getD]
set_option maxHeartbeats 1000000 in
set_option maxRecDepth 100000 in
theorem write_any (n : Int) (m : Nat) (g : Nat) (lb : Array Value) (pl : Nat → Nat) (w : World) (hn : 0 ≤ n) (hn2 : n ≤ 9223372036854775807) (hm : m ≤ 8) (hpl : ∀ i, i < m → pl i < m)
    (eg : ∀ args w, (callFunc g args).run Try.prog w = .ok (.enter g args) w)
    (hp : ∀ (i : Nat) (W : World), i < m → Below w.heap.size w W → Calls Try.prog g (#[.int .i64 i] ++ lb) W fun e w' => e = .returned (.int .i64 (pl i)) ∧ W = w') :
    Calls Try.prog 29 #[.int .i64 n, .int .i64 m, .func (.func g) #[] lb] w fun e w' => e = .returned (.string (strOfNums (enPut n m pl m))) ∧ Below w.heap.size w w' := by
  have hmk := fun W => madeB m W hm
  have HP := Aside0.mk hp
  have HPL := Aside0.mk hpl
  clear hp hpl
  go_enter Try.func29, Try.ntmps29
  go_wp2
  clear hmk
  go_loopg [12] m (fun gk v12 wr => ∃ k : Nat, k ≤ m ∧ m - k ≤ gk ∧ v12 = .int .i64 k ∧ Aside0 (wr.heap[w.heap.size]? = some (.cells (bArr (enPut n m pl k)) 5 (0, 0))) ∧ Aside0 (Below w.heap.size w wr))
  case atStart => exact ⟨0, Nat.zero_le _, by omega, rfl, ⟨heap_alloc_new _ _⟩, ⟨(Below.refl _ _).alloc (Nat.le_refl _) _⟩⟩
  case round =>
    obtain ⟨k, hk, hg, rfl, HH, HB⟩ := hrel
    by_cases hlt : k < m
    · have hltz : (k : Int) < (m : Int) := by omega
      have hpk := HPL.out k hlt
      have hpz : ((pl k : Nat) : Int) < (m : Int) := by omega
      have hpz0 : 0 ≤ ((pl k : Nat) : Int) := by omega
      obtain ⟨p, hp⟩ : ∃ p, p = pl k := ⟨_, rfl⟩
      have hcall := HP.out k wr.drew hlt HB.out.drew
      rw [← hp] at hcall hpk hpz hpz0
      have HPE := Aside0.mk hp
      clear hp
      have hc : wr.drew.cell? ⟨w.heap.size, p, none⟩ = some (.int .u8 ((enPut n m pl k).getD p 0)) := by
        rw [World.cell?_drew, cell_of_row wr _ _ _ _ _ HH.out]
        simp [bArr, nums, enPut_length, hpk]
      have hf : wr.drew.frozen? ⟨w.heap.size, p, none⟩ = false := (show wr.frozen? _ = false by simp [World.frozen?, HH.out])
      have HB' := Aside0.mk HB.out.drew
      have HH' : Aside0 (wr.drew.heap[w.heap.size]? = some (.cells (bArr (enPut n m pl k)) 5 (0, 0))) := HH
      go_wp2_with (fail)
      refine wp_region_still_tail 10 (by kernel_rfl) (by kernel_rfl) ?_
      change wpStill _ _ wr.drew (fun a' => wpList _ _ _ _ a' wr.drew) _ _
      simp only [List.take_succ_cons, List.take_zero, List.drop_succ_cons, List.drop_zero]
      generalize wr.drew = w2 at hc hf hcall HB' HH' ⊢
      clear HH HB
      still_step
      still_step
      still_step
      refine wpStill_step (fun K hK => ?_)
      go_simp
      refine ⟨_, hcall.mono (fun _ _ ⟨he, hw⟩ => ⟨he, hw.symm⟩), hK _ ?_⟩
      clear hK K hcall
      obtain ⟨q, hq⟩ : ∃ q : Int, q = 8 * (k : Int) := ⟨_, rfl⟩
      have hw8 : IntKind.i64.wrap (8 * (k : Int)) = q := by rw [hq]; exact IntWalk.i64_in _ (by omega)
      have hq0 : 0 ≤ q := by omega
      have hq1 : q ≤ 64 := by omega
      have HQ := Aside0.mk hq
      clear hq
      have hqn := Aside0.mk (show q.toNat = 8 * k by have := HQ.out; omega)
      still_step
      still_step
      still_step
      still_step
      still_step
      still_step
      refine wpStill_nil ?_
      clear hw8 hq0 hq1
      have hpn : (p : Int).toNat = p := rfl
      go_wp2
      clear hpn
      go_roundg (m - (k + 1))
      case measure => omega
      case rel =>
        refine ⟨k + 1, by omega, by omega, by go_num, ⟨blk_put HH'.out p _ ?_⟩, ⟨HB'.out.setCell (Nat.le_refl _) _⟩⟩
        rw [hqn.out, HPE.out]
        exact bArr_set _ _ _
    · have hltz : ¬ (k : Int) < (m : Int) := by omega
      have hs : (convert 52 9 (.slice (some ⟨w.heap.size, 0, none⟩) m m)).run Try.prog wr = .ok (.string (strOfNums (enPut n m pl k))) wr := by
        refine string_of_reads (P := Try.prog) Try.underlying52 Try.underlying5 Try.underlying9 ⟨enPut_length n m pl k, by omega, fun _ => ⟨_, rfl, fun j hj => ?_⟩⟩
        rw [add_plain, cell_of_row wr _ _ _ _ _ HH.out]
        simp only [bArr, List.getElem?_toArray]
        exact nums_getD _ _ (by rw [enPut_length]; exact hj)
      obtain ⟨s, hsn⟩ : ∃ s, s = strOfNums (enPut n m pl k) := ⟨_, rfl⟩
      rw [← hsn] at hs
      have HS := Aside0.mk hsn
      have HK := Aside0.mk (show k = m by omega)
      clear hsn
      go_wp2_with (fail)
      go_ret
      exact ⟨by rw [HS.out, HK.out]; rfl, HB.out⟩

/-! ### the errors of a number and a size -/
def i64B (n : Int) : Bool := decide (-9223372036854775808 ≤ n ∧ n ≤ 9223372036854775807)
/-- What 'check' answers: 1, 2, or 0 for no error. -/
def chkE (n size : Int) : Int := if size < 1 ∨ 8 < size then 1 else if n < 0 ∨ (size < 8 ∧ 2 ^ (8 * size.toNat) ≤ n) then 2 else 0
theorem fits_val (n size : Int) (h1 : 1 ≤ size) (h2 : size ≤ 8) : endian_fits.f n size = some (decide (¬ (n < 0 ∨ (size < 8 ∧ 2 ^ (8 * size.toNat) ≤ n)))) := by
  unfold endian_fits.f
  have hs : size = 1 ∨ size = 2 ∨ size = 3 ∨ size = 4 ∨ size = 5 ∨ size = 6 ∨ size = 7 ∨ size = 8 := by omega
  by_cases h0 : n ≥ 0
  · rw [if_pos h0]
    rcases hs with rfl | rfl | rfl | rfl | rfl | rfl | rfl | rfl
    case inr.inr.inr.inr.inr.inr.inr => rw [if_pos rfl]; congr 1; symm; rw [decide_eq_true_eq]; omega
    all_goals
      rw [if_neg (by omega), if_pos (by unfold wrap64; omega)]
      congr 1
      rw [decide_eq_decide]
    · rw [show shl .i64 1 (wrap64 (8 * 1)) = 2 ^ 8 by decide +kernel, show (1 : Int).toNat = 1 from rfl]; omega
    · rw [show shl .i64 1 (wrap64 (8 * 2)) = 2 ^ 16 by decide +kernel, show (2 : Int).toNat = 2 from rfl]; omega
    · rw [show shl .i64 1 (wrap64 (8 * 3)) = 2 ^ 24 by decide +kernel, show (3 : Int).toNat = 3 from rfl]; omega
    · rw [show shl .i64 1 (wrap64 (8 * 4)) = 2 ^ 32 by decide +kernel, show (4 : Int).toNat = 4 from rfl]; omega
    · rw [show shl .i64 1 (wrap64 (8 * 5)) = 2 ^ 40 by decide +kernel, show (5 : Int).toNat = 5 from rfl]; omega
    · rw [show shl .i64 1 (wrap64 (8 * 6)) = 2 ^ 48 by decide +kernel, show (6 : Int).toNat = 6 from rfl]; omega
    · rw [show shl .i64 1 (wrap64 (8 * 7)) = 2 ^ 56 by decide +kernel, show (7 : Int).toNat = 7 from rfl]; omega
  · rw [if_neg h0]
    congr 1
    symm
    rw [decide_eq_false_iff_not]
    omega
theorem check_val (n size : Int) : endian_check.f 1 n size = some (chkE n size) := by
  simp only [endian_check.f, endian_check.j0]
  unfold chkE
  by_cases h1 : size < 1
  · rw [if_pos h1, if_pos trivial, if_pos (Or.inl h1)]
  · rw [if_neg h1]
    by_cases h2 : 8 < size
    · rw [if_pos (decide_eq_true h2), if_pos (Or.inr h2)]
    · rw [if_neg (by simpa using h2), if_neg (c := size < 1 ∨ 8 < size) (by omega), fits_val n size (by omega) (by omega)]
      simp only [Option.bind_some, decide_eq_true_eq]
      by_cases h3 : n < 0 ∨ (size < 8 ∧ 2 ^ (8 * size.toNat) ≤ n)
      · rw [if_neg (not_not_intro h3), if_pos h3]
      · rw [if_pos h3, if_neg h3]
/-! ### Little and Big -/
def enLe (n : Int) (size : Nat) : ByteArray := strOfNums (enPut n size (fun i => i) size)
def enBe (n : Int) (size : Nat) : ByteArray := strOfNums (enPut n size (fun i => size - 1 - i) size)
def endian_Little.f (a0 : Int) (a1 : Int) : Option (ByteArray × Int) :=
  if i64B a0 = true then (if chkE a0 a1 = 0 then some (enLe a0 a1.toNat, 0) else some (⟨#[]⟩, chkE a0 a1)) else none
def endian_Big.f (a0 : Int) (a1 : Int) : Option (ByteArray × Int) :=
  if i64B a0 = true then (if chkE a0 a1 = 0 then some (enBe a0 a1.toNat, 0) else some (⟨#[]⟩, chkE a0 a1)) else none
theorem chk_ok {n size : Int} (h : chkE n size = 0) : ∃ m : Nat, m ≤ 8 ∧ 1 ≤ m ∧ size = m ∧ 0 ≤ n := by
  unfold chkE at h
  split at h
  · omega
  · split at h
    · omega
    · exact ⟨size.toNat, by omega, by omega, by omega, by omega⟩
theorem drawn_below {w w' : World} (h : Drawn0 w w') : Below w.heap.size w w' := h.below
theorem enters_fn {P : Program} {f : FuncId} {fn : Func} {c : Code} (hf : P.funcs[f]? = some fn) (hname : (fn.name == "runtime.NumGoroutine") = false) (hb : fn.body = some c) (args : Array Value) (w : World) : (callFunc f args).run P w = .ok (.enter f args) w := by
  have h1 : fn.name ≠ "runtime.NumGoroutine" := by simpa using hname
  simp [callFunc, hf, h1, hb, mark]
theorem enters133 (args : Array Value) (w : World) : (callFunc 41 args).run Try.prog w = .ok (.enter 41 args) w := enters_fn Try.func41 (by kernel_rfl) rfl args w
theorem enters134 (args : Array Value) (w : World) : (callFunc 42 args).run Try.prog w = .ok (.enter 42 args) w := enters_fn Try.func42 (by kernel_rfl) rfl args w
theorem write_up (n : Int) (m : Nat) (w : World) (hn : 0 ≤ n) (hn2 : n ≤ 9223372036854775807) (hm : m ≤ 8) :
    Calls Try.prog 29 #[.int .i64 n, .int .i64 m, .func (.func 41) #[] #[]] w fun e w' => e = .returned (.string (enLe n m)) ∧ Below w.heap.size w w' :=
  write_any n m 41 #[] (fun i => i) w hn hn2 hm (fun _ h => h) (enters133) (fun i W _ _ => up1 i W)
theorem write_down (n : Int) (m : Nat) (B : Nat) (w : World) (hn : 0 ≤ n) (hn2 : n ≤ 9223372036854775807) (hm : m ≤ 8) (hB : B < w.heap.size) (hc : w.cell? ⟨B, 0, none⟩ = some (.int .i64 m)) :
    Calls Try.prog 29 #[.int .i64 n, .int .i64 m, .func (.func 42) #[] #[.pointer (some ⟨B, 0, none⟩)]] w fun e w' => e = .returned (.string (enBe n m)) ∧ Below w.heap.size w w' :=
  write_any n m 42 _ (fun i => m - 1 - i) w hn hn2 hm (fun _ h => by omega) (enters134) (fun i W hi hb => by
    have := down1 i m B W (by omega) (by omega) (by omega) ((hb.cell (p := ⟨B, 0, none⟩) hB).trans hc)
    rw [show ((m - 1 - i : Nat) : Int) = (m : Int) - 1 - i by omega]
    exact this)
set_option maxHeartbeats 1000000 in
theorem endian_Little.calls (a0 : Int) (a1 : Int) (r1 : ByteArray) (r2 : Int) (w : World) (h : endian_Little.f a0 a1 = some (r1, r2)) :
    Calls Try.prog 11 #[.int .i64 a0, .int .i64 a1] w fun e w' => e = .returned (.tuple #[.string r1, .int .i64 r2]) ∧ Below w.heap.size w w' := by
  unfold endian_Little.f at h
  by_cases hr : i64B a0 = true
  · rw [if_pos hr] at h
    have hr' : -9223372036854775808 ≤ a0 ∧ a0 ≤ 9223372036854775807 := by simpa [i64B] using hr
    have HC := Aside0.mk (check_val a0 a1)
    by_cases hc : chkE a0 a1 = 0
    · rw [if_pos hc] at h
      obtain ⟨m, hm, hm1, rfl, hn⟩ := chk_ok hc
      rw [hc] at HC
      rw [Int.toNat_natCast] at h
      obtain ⟨rfl, rfl⟩ := Prod.mk.inj (Option.some.inj h)
      have HN := Aside0.mk hr'
      clear h hr hc hr'
      go_enter Try.func11, Try.ntmps11
      go_wp2_with (first
        | (go_at_call 28; refine (endian_check.calls 1 a0 m 0 _ HC.out).mono ?_; rintro e w' ⟨rfl, ⟨nd, rfl⟩⟩)
        | (go_at_call 30; refine (up_any _ _).mono ?_; rintro e w' ⟨rfl, rfl⟩)
        | (go_at_call 29; refine (write_up a0 m _ hn HN.out.2 hm).mono ?_; rintro e w' ⟨rfl, hb⟩))
      go_ret2
      exact ⟨rfl, below_step (drawn_below ⟨nd, rfl⟩) hb⟩
    · rw [if_neg hc] at h
      obtain ⟨rfl, rfl⟩ := Prod.mk.inj (Option.some.inj h)
      obtain ⟨c, hcc⟩ : ∃ c, c = chkE a0 a1 := ⟨_, rfl⟩
      rw [← hcc] at HC hc ⊢
      have h1 : (c != 0) = true := by simpa using hc
      clear h hcc hc hr hr'
      go_enter Try.func11, Try.ntmps11
      go_wp2_with (first
        | (go_at_call 28; refine (endian_check.calls 1 a0 a1 c _ HC.out).mono ?_; rintro e w' ⟨rfl, ⟨nd, rfl⟩⟩))
      go_ret2
      exact ⟨rfl, drawn_below ⟨nd, rfl⟩⟩
  · rw [if_neg hr] at h
    cases h
set_option maxHeartbeats 1000000 in
theorem endian_Big.calls (a0 : Int) (a1 : Int) (r1 : ByteArray) (r2 : Int) (w : World) (h : endian_Big.f a0 a1 = some (r1, r2)) :
    Calls Try.prog 13 #[.int .i64 a0, .int .i64 a1] w fun e w' => e = .returned (.tuple #[.string r1, .int .i64 r2]) ∧ Below w.heap.size w w' := by
  unfold endian_Big.f at h
  by_cases hr : i64B a0 = true
  · rw [if_pos hr] at h
    have hr' : -9223372036854775808 ≤ a0 ∧ a0 ≤ 9223372036854775807 := by simpa [i64B] using hr
    have HC := Aside0.mk (check_val a0 a1)
    by_cases hc : chkE a0 a1 = 0
    · rw [if_pos hc] at h
      obtain ⟨m, hm, hm1, rfl, hn⟩ := chk_ok hc
      rw [hc] at HC
      rw [Int.toNat_natCast] at h
      obtain ⟨rfl, rfl⟩ := Prod.mk.inj (Option.some.inj h)
      have HN := Aside0.mk hr'
      clear h hr hc hr'
      go_enter Try.func13, Try.ntmps13
      go_wp2_with (first
        | (go_at_call 28; refine (endian_check.calls 1 a0 m 0 _ HC.out).mono ?_; rintro e w' ⟨rfl, ⟨nd, rfl⟩⟩)
        | (go_at_call 33; refine (down_any _ _).mono ?_; rintro e w' ⟨rfl, rfl⟩)
        | (go_at_call 29; (refine (write_down a0 m w.heap.size ((w.alloc (.cells #[.int .i64 m] 3)).drewN nd) hn HN.out.2 hm (by simp) (by simp)).mono ?_); rintro e w' ⟨rfl, hb⟩))
      go_ret2
      exact ⟨rfl, below_step ((drawn_below ⟨nd, rfl⟩).alloc (by simp) _) hb⟩
    · rw [if_neg hc] at h
      obtain ⟨rfl, rfl⟩ := Prod.mk.inj (Option.some.inj h)
      obtain ⟨c, hcc⟩ : ∃ c, c = chkE a0 a1 := ⟨_, rfl⟩
      rw [← hcc] at HC hc ⊢
      have h1 : (c != 0) = true := by simpa using hc
      clear h hcc hc hr hr'
      go_enter Try.func13, Try.ntmps13
      go_wp2_with (first
        | (go_at_call 28; refine (endian_check.calls 1 a0 a1 c _ HC.out).mono ?_; rintro e w' ⟨rfl, ⟨nd, rfl⟩⟩))
      go_ret2
      exact ⟨rfl, drawn_below ⟨nd, rfl⟩⟩
  · rw [if_neg hr] at h
    cases h
/-! ### Both -/
theorem double_val (n : Int) : endian_double.f n = some (decide (n = 1 ∨ n = 2 ∨ n = 4)) := by
  unfold endian_double.f
  by_cases h1 : n = 1
  · simp [h1]
  · by_cases h2 : n = 2
    · simp [h2]
    · rw [if_neg h1, if_neg h2]
      congr 1
      rw [Bool.eq_iff_iff]
      simp [h1, h2]
def endian_Both.f (a0 : Int) (a1 : Int) : Option (ByteArray × Int) :=
  if i64B a0 = true then (if a1 = 1 ∨ a1 = 2 ∨ a1 = 4 then (if chkE a0 a1 = 0 then some (enLe a0 a1.toNat ++ enBe a0 a1.toNat, 0) else some (⟨#[]⟩, 2)) else some (⟨#[]⟩, 1)) else none
theorem enLe_size (n : Int) (m : Nat) : (enLe n m).size = m := by rw [enLe, strOfNums_size, enPut_length]
theorem enBe_size (n : Int) (m : Nat) : (enBe n m).size = m := by rw [enBe, strOfNums_size, enPut_length]
set_option maxHeartbeats 1000000 in
theorem endian_Both.calls (a0 : Int) (a1 : Int) (r1 : ByteArray) (r2 : Int) (w : World) (h : endian_Both.f a0 a1 = some (r1, r2)) :
    Calls Try.prog 15 #[.int .i64 a0, .int .i64 a1] w fun e w' => e = .returned (.tuple #[.string r1, .int .i64 r2]) ∧ Below w.heap.size w w' := by
  unfold endian_Both.f at h
  by_cases hr : i64B a0 = true
  · rw [if_pos hr] at h
    have hr' : -9223372036854775808 ≤ a0 ∧ a0 ≤ 9223372036854775807 := by simpa [i64B] using hr
    have HD := Aside0.mk (double_val a1)
    by_cases hd : a1 = 1 ∨ a1 = 2 ∨ a1 = 4
    · rw [if_pos hd] at h
      rw [decide_eq_true hd] at HD
      have HF := Aside0.mk (fits_val a0 a1 (by omega) (by omega))
      by_cases hc : chkE a0 a1 = 0
      · rw [if_pos hc] at h
        obtain ⟨m, hm, hm1, rfl, hn⟩ := chk_ok hc
        have hF : decide (¬ (a0 < 0 ∨ ((m : Int) < 8 ∧ 2 ^ (8 * (m : Int).toNat) ≤ a0))) = true := by
          unfold chkE at hc
          rw [if_neg (by omega)] at hc
          rw [decide_eq_true_eq]
          intro h'
          rw [if_pos h'] at hc
          cases hc
        rw [hF] at HF
        rw [Int.toNat_natCast] at h
        obtain ⟨rfl, rfl⟩ := Prod.mk.inj (Option.some.inj h)
        have HN := Aside0.mk hr'
        obtain ⟨x, hx⟩ : ∃ x, x = enLe a0 m := ⟨_, rfl⟩
        obtain ⟨y, hy⟩ : ∃ y, y = enBe a0 m := ⟨_, rfl⟩
        have hsz : x.size + y.size ≤ 9223372036854775807 := by rw [hx, hy, enLe_size, enBe_size]; omega
        have HX := fun w => write_up a0 m w hn hr'.2 hm
        have HY := fun B w hB hcc => write_down a0 m B w hn hr'.2 hm hB hcc
        rw [← hx, ← hy]
        rw [← hx] at HX
        rw [← hy] at HY
        have HX' := Aside0.mk HX
        have HY' := Aside0.mk HY
        clear h hr hc hr' hF hx hy HX HY hd
        go_enter Try.func15, Try.ntmps15
        go_wp2_with (first
          | (go_at_call 35; refine (endian_double.calls m true _ HD.out).mono ?_; rintro e w' ⟨rfl, ⟨nd, rfl⟩⟩)
          | (go_at_call 36; refine (endian_fits.calls a0 m true _ HF.out).mono ?_; rintro e w' ⟨rfl, ⟨nd2, rfl⟩⟩)
          | (go_at_call 30; refine (up_any _ _).mono ?_; rintro e w' ⟨rfl, rfl⟩)
          | (go_at_call_of 29 (Value.func (.func 41) #[] #[]); (refine (HX'.out _).mono ?_); rintro e w1 ⟨rfl, hb⟩)
          | (go_at_call 33; refine (down_any _ _).mono ?_; rintro e w' ⟨rfl, rfl⟩)
          | (go_at_call 29; (refine (HY'.out w1.heap.size (w1.alloc (.cells #[.int .i64 m] 3)) (by simp) (by simp)).mono ?_); rintro e w2 ⟨rfl, hb2⟩))
        go_ret2
        exact ⟨rfl, below_step (below_step (drawn_below (⟨nd + nd2, rfl⟩ : Drawn0 w (w.drewN (nd + nd2)))) (hb.alloc hb.size _)) hb2⟩
      · rw [if_neg hc] at h
        have hF : decide (¬ (a0 < 0 ∨ (a1 < 8 ∧ 2 ^ (8 * a1.toNat) ≤ a0))) = false := by
          unfold chkE at hc
          rw [if_neg (by omega)] at hc
          rw [decide_eq_false_iff_not]
          intro h'
          rw [if_neg h'] at hc
          exact hc rfl
        rw [hF] at HF
        obtain ⟨rfl, rfl⟩ := Prod.mk.inj (Option.some.inj h)
        clear h hr hc hr' hF hd
        go_enter Try.func15, Try.ntmps15
        go_wp2_with (first
          | (go_at_call 35; refine (endian_double.calls a1 true _ HD.out).mono ?_; rintro e w' ⟨rfl, ⟨nd, rfl⟩⟩)
          | (go_at_call 36; refine (endian_fits.calls a0 a1 false _ HF.out).mono ?_; rintro e w' ⟨rfl, ⟨nd2, rfl⟩⟩))
        go_ret2
        exact ⟨rfl, drawn_below (⟨nd + nd2, rfl⟩ : Drawn0 w (w.drewN (nd + nd2)))⟩
    · rw [if_neg hd] at h
      rw [decide_eq_false hd] at HD
      obtain ⟨rfl, rfl⟩ := Prod.mk.inj (Option.some.inj h)
      clear h hr hr' hd
      go_enter Try.func15, Try.ntmps15
      go_wp2_with (first
        | (go_at_call 35; refine (endian_double.calls a1 false _ HD.out).mono ?_; rintro e w' ⟨rfl, ⟨nd, rfl⟩⟩))
      go_ret2
      exact ⟨rfl, drawn_below (⟨nd, rfl⟩ : Drawn0 w (w.drewN nd))⟩
  · rw [if_neg hr] at h
    cases h

/-! ### read -/
/-- What the bytes of a string come to: the byte with the weight 256^i stands at place pl i behind 'at'. -/
def readAcc (s : ByteArray) (a : Nat) (pl : Nat → Nat) : Nat → Int
  | 0 => 0
  | k + 1 => readAcc s a pl k + bt s ((a + pl k : Nat) : Int) * 2 ^ (8 * k)
theorem readAcc_bd (s : ByteArray) (a : Nat) (pl : Nat → Nat) (k : Nat) : 0 ≤ readAcc s a pl k ∧ readAcc s a pl k < 2 ^ (8 * k) := by
  induction k with
  | zero => simp [readAcc]
  | succ k ih =>
    have hb := bt_range s ((a + pl k : Nat) : Int)
    have h2 : (2 : Int) ^ (8 * (k + 1)) = 2 ^ (8 * k) * 256 := by rw [Nat.mul_succ, Int.pow_add]; rfl
    have hp : (0 : Int) < 2 ^ (8 * k) := Int.pow_pos (by decide)
    simp only [readAcc]
    refine ⟨Int.add_nonneg ih.1 (Int.mul_nonneg hb.1 (by omega)), ?_⟩
    rw [h2]
    have : bt s ((a + pl k : Nat) : Int) * 2 ^ (8 * k) ≤ 255 * 2 ^ (8 * k) := Int.mul_le_mul_of_nonneg_right hb.2 (by omega)
    omega
theorem inside_val (s : ByteArray) (a c : Int) (hs : s.size ≤ 9223372036854775807) (hc : 0 ≤ c) (hc2 : c ≤ 1000) : endian_inside.f s a c = some (decide (0 ≤ a ∧ a + c ≤ s.size)) := by
  unfold endian_inside.f
  rw [show wrap64 ((s.size : Int) - c) = (s.size : Int) - c by unfold wrap64; omega]
  by_cases h : a ≥ 0
  · rw [if_pos h]
    congr 1
    rw [decide_eq_decide]
    omega
  · rw [if_neg h]
    congr 1
    symm
    rw [decide_eq_false_iff_not]
    omega
theorem or_step (A B : Int) (k : Nat) (hk : k < 8) (hA0 : 0 ≤ A) (hA : A < 2 ^ (8 * k)) (hB0 : 0 ≤ B) (hB : B ≤ 255) :
    bits .or .u64 A (IntKind.u64.wrap (IntKind.u64.wrap B * 2 ^ (8 * k))) = A + B * 2 ^ (8 * k) := by
  obtain ⟨a, rfl⟩ := Int.eq_ofNat_of_zero_le hA0
  obtain ⟨b, rfl⟩ := Int.eq_ofNat_of_zero_le hB0
  have ha : a < 2 ^ (8 * k) := by
    have e : ((2 : Int) ^ (8 * k)) = ((2 ^ (8 * k) : Nat) : Int) := by simp
    rw [e] at hA; omega
  have hp : 2 ^ (8 * k) ≤ 2 ^ 56 := Nat.pow_le_pow_right (by decide) (by omega)
  have hle : b * 2 ^ (8 * k) ≤ 255 * 2 ^ 56 := Nat.mul_le_mul (by omega) hp
  have e1 : IntKind.u64.wrap (IntKind.u64.wrap (b : Int) * 2 ^ (8 * k)) = ((b * 2 ^ (8 * k) : Nat) : Int) := by
    have e2 : IntKind.u64.wrap (b : Int) = (b : Int) := by rw [IntKind.wrap_u64]; omega
    rw [e2, IntKind.wrap_u64]
    have e3 : (b : Int) * 2 ^ (8 * k) = ((b * 2 ^ (8 * k) : Nat) : Int) := by simp
    rw [e3]
    omega
  rw [e1, u64_or_nat a _ (by omega) (by omega)]
  have h := Nat.two_pow_add_eq_or_of_lt ha b
  rw [Nat.or_comm, Nat.mul_comm b, ← h, Int.natCast_add, Int.natCast_mul, Int.natCast_pow, Int.add_comm, Int.mul_comm]
  rfl
set_option maxHeartbeats 1000000 in
set_option maxRecDepth 100000 in
theorem read_any (s : ByteArray) (a m : Nat) (g : Nat) (lb : Array Value) (pl : Nat → Nat) (w : World) (hs : s.size ≤ 9223372036854775807) (hm1 : 1 ≤ m) (hm : m ≤ 8) (ha : a + m ≤ s.size) (hpl : ∀ i, i < m → pl i < m)
    (eg : ∀ args w, (callFunc g args).run Try.prog w = .ok (.enter g args) w)
    (hp : ∀ (i : Nat) (W : World), i < m → Below w.heap.size w W → Calls Try.prog g (#[.int .i64 i] ++ lb) W fun e w' => e = .returned (.int .i64 (pl i)) ∧ W = w')
    (c : Int) (r : Int) (hr : (if 9223372036854775807 < readAcc s a pl m then (0, (7 : Int)) else (readAcc s a pl m, 0)) = (r, c)) :
    Calls Try.prog 38 #[.string s, .int .i64 a, .int .i64 m, .func (.func g) #[] lb] w fun e w' => e = .returned (.tuple #[.int .i64 r, .int .i64 c]) ∧ Below w.heap.size w w' := by
  have HI := Aside0.mk (inside_val s a m hs (by omega) (by omega))
  rw [decide_eq_true (by omega)] at HI
  have HP := Aside0.mk hp
  have HPL := Aside0.mk hpl
  have HR := Aside0.mk hr
  have hd1 : decide ((m : Int) < 1) = false := by simp; omega
  have hd2 : decide (8 < (m : Int)) = false := by simp; omega
  clear hp hpl hr
  go_enter Try.func38, Try.ntmps38
  go_wp2_with (go_at_call 37; refine (endian_inside.calls s a m true _ HI.out).mono ?_; rintro e w' ⟨rfl, ⟨nd, rfl⟩⟩)
  go_loopg [10, 26] m (fun gk v10 v26 wr => ∃ k : Nat, k ≤ m ∧ m - k ≤ gk ∧ v26 = .int .i64 k ∧ v10 = .int .u64 (readAcc s a pl k) ∧ Aside0 (Below w.heap.size w wr))
  case atStart => exact ⟨0, Nat.zero_le _, by omega, rfl, rfl, ⟨drawn_below ⟨nd, rfl⟩⟩⟩
  case round =>
    obtain ⟨k, hk, hg, rfl, rfl, HB⟩ := hrel
    by_cases hlt : k < m
    · have hltz : (k : Int) < (m : Int) := by omega
      have hpk := HPL.out k hlt
      obtain ⟨p, hp⟩ : ∃ p, p = pl k := ⟨_, rfl⟩
      have hcall := Aside0.mk (HP.out k wr hlt HB.out)
      rw [← hp] at hcall hpk
      have HPE := Aside0.mk hp
      clear hp
      obtain ⟨A, hA⟩ : ∃ A, A = readAcc s a pl k := ⟨_, rfl⟩
      rw [← hA]
      have HA := Aside0.mk hA
      clear hA
      have hi0 : (a : Int) + (p : Int) < (s.size : Int) := by omega
      have hi1 : a + p < s.size := by omega
      obtain ⟨B, hB⟩ : ∃ B, B = bt s ((a + p : Nat) : Int) := ⟨_, rfl⟩
      have hx : ∀ h : a + p < s.size, ((s[a + p]'h).toNat : Int) = B := by rw [hB]; exact bt_at s ((a + p : Nat) : Int)
      have HBB := Aside0.mk hB
      clear hB
      have HX := Aside0.mk hx
      clear hx
      go_wp2_with (fail)
      refine hcall.out.mono ?_
      rintro e w' ⟨rfl, rfl⟩
      have hx := HX.out
      obtain ⟨q, hq⟩ : ∃ q : Int, q = 8 * (k : Int) := ⟨_, rfl⟩
      have hw8 : IntKind.i64.wrap (8 * (k : Int)) = q := by rw [hq]; exact IntWalk.i64_in _ (by omega)
      have hw9 : wrap64 (8 * (k : Int)) = q := by rw [hq]; unfold wrap64; omega
      have hq0 : 0 ≤ q := by omega
      have hq1 : q ≤ 64 := by omega
      have HQ := Aside0.mk hq
      clear hq
      go_wp2_with (fail)
      go_roundg (m - (k + 1))
      case measure => omega
      case rel =>
        refine ⟨k + 1, by omega, by omega, by go_num, ?_, HB⟩
        have hbd := readAcc_bd s a pl k
        have hbb := bt_range s ((a + p : Nat) : Int)
        rw [← HA.out] at hbd
        rw [← HBB.out] at hbb
        rw [show q.toNat = 8 * k by have := HQ.out; omega, or_step A B k (by omega) hbd.1 hbd.2 hbb.1 hbb.2]
        simp only [readAcc]
        rw [← HA.out, ← HPE.out, ← HBB.out]
    · have hltz : ¬ (k : Int) < (m : Int) := by omega
      have hkm := Aside0.mk (show k = m by omega)
      by_cases hR : 9223372036854775807 < readAcc s a pl k
      · go_wp2_with (fail)
        have hr := HR.out
        rw [← hkm.out, if_pos hR] at hr
        obtain ⟨rfl, rfl⟩ := Prod.mk.inj hr
        go_ret2
        exact ⟨rfl, HB.out⟩
      · have hbd := readAcc_bd s a pl k
        have hle := Int.not_lt.1 hR
        have h0 := hbd.1
        clear hbd
        go_wp2_with (fail)
        have hr := HR.out
        rw [← hkm.out, if_neg (Int.not_lt.2 hle)] at hr
        obtain ⟨rfl, rfl⟩ := Prod.mk.inj hr
        go_ret2
        exact ⟨rfl, HB.out⟩
/-! ### ReadLittle and ReadBig -/
def readF (s : ByteArray) (a size : Int) (pl : Nat → Nat) : Int × Int :=
  if size < 1 ∨ 8 < size then (0, 1) else if ¬ (0 ≤ a ∧ a + size ≤ s.size) then (0, 2) else
    if 9223372036854775807 < readAcc s a.toNat pl size.toNat then (0, 7) else (readAcc s a.toNat pl size.toNat, 0)
def endian_ReadLittle.f (a0 : ByteArray) (a1 : Int) (a2 : Int) : Option (Int × Int) :=
  if a0.size ≤ 9223372036854775807 then some (readF a0 a1 a2 (fun i => i)) else none
def endian_ReadBig.f (a0 : ByteArray) (a1 : Int) (a2 : Int) : Option (Int × Int) :=
  if a0.size ≤ 9223372036854775807 then some (readF a0 a1 a2 (fun i => a2.toNat - 1 - i)) else none
theorem read_no (s : ByteArray) (a size : Int) (v : Value) (pl : Nat → Nat) (w : World) (hs : s.size ≤ 9223372036854775807) (h : (size < 1 ∨ 8 < size) ∨ ¬ (0 ≤ a ∧ a + size ≤ s.size)) :
    Calls Try.prog 38 #[.string s, .int .i64 a, .int .i64 size, v] w fun e w' => e = .returned (.tuple #[.int .i64 (readF s a size pl).1, .int .i64 (readF s a size pl).2]) ∧ Below w.heap.size w w' := by
  by_cases h1 : size < 1
  · have e : readF s a size pl = (0, 1) := by unfold readF; rw [if_pos (Or.inl h1)]
    rw [e]
    clear h e
    go_enter Try.func38, Try.ntmps38
    go_wp2_with (fail)
    go_ret2
    exact ⟨rfl, Below.refl _ _⟩
  · by_cases h2 : 8 < size
    · have e : readF s a size pl = (0, 1) := by unfold readF; rw [if_pos (Or.inr h2)]
      rw [e]
      clear h e
      go_enter Try.func38, Try.ntmps38
      go_wp2_with (fail)
      go_ret2
      exact ⟨rfl, Below.refl _ _⟩
    · have h3 : ¬ (0 ≤ a ∧ a + size ≤ s.size) := by rcases h with h | h <;> omega
      have e : readF s a size pl = (0, 2) := by unfold readF; rw [if_neg (by omega), if_pos h3]
      rw [e]
      have HI := Aside0.mk (inside_val s a size hs (by omega) (by omega))
      rw [decide_eq_false h3] at HI
      have hd1 : decide (size < 1) = false := by simp; omega
      have hd2 : decide (8 < size) = false := by simp; omega
      clear h e h3
      go_enter Try.func38, Try.ntmps38
      go_wp2_with (go_at_call 37; refine (endian_inside.calls s a size false _ HI.out).mono ?_; rintro e w' ⟨rfl, ⟨nd, rfl⟩⟩)
      go_ret2
      exact ⟨rfl, drawn_below (⟨nd, rfl⟩ : Drawn0 w (w.drewN nd))⟩
theorem read_yes (s : ByteArray) (a size : Int) (g : Nat) (lb : Array Value) (pl : Nat → Nat) (w : World) (hs : s.size ≤ 9223372036854775807) (h : ¬ ((size < 1 ∨ 8 < size) ∨ ¬ (0 ≤ a ∧ a + size ≤ s.size))) (hpl : ∀ i, i < size.toNat → pl i < size.toNat)
    (eg : ∀ args w, (callFunc g args).run Try.prog w = .ok (.enter g args) w)
    (hp : ∀ (i : Nat) (W : World), i < size.toNat → Below w.heap.size w W → Calls Try.prog g (#[.int .i64 i] ++ lb) W fun e w' => e = .returned (.int .i64 (pl i)) ∧ W = w') :
    Calls Try.prog 38 #[.string s, .int .i64 a, .int .i64 size, .func (.func g) #[] lb] w fun e w' => e = .returned (.tuple #[.int .i64 (readF s a size pl).1, .int .i64 (readF s a size pl).2]) ∧ Below w.heap.size w w' := by
  obtain ⟨m, rfl⟩ := Int.eq_ofNat_of_zero_le (show 0 ≤ size by omega)
  obtain ⟨b, rfl⟩ := Int.eq_ofNat_of_zero_le (show 0 ≤ a by omega)
  have e : readF s b m pl = (if 9223372036854775807 < readAcc s b pl m then (0, 7) else (readAcc s b pl m, 0)) := by
    unfold readF
    rw [if_neg (c := (m : Int) < 1 ∨ 8 < (m : Int)) (by omega), if_neg (c := ¬ (0 ≤ (b : Int) ∧ (b : Int) + (m : Int) ≤ (s.size : Int))) (by omega)]
    rfl
  exact read_any s b m g lb pl w hs (by omega) (by omega) (by omega) hpl eg hp _ _ e.symm
theorem read_up (s : ByteArray) (a size : Int) (w : World) (hs : s.size ≤ 9223372036854775807) :
    Calls Try.prog 38 #[.string s, .int .i64 a, .int .i64 size, .func (.func 41) #[] #[]] w fun e w' => e = .returned (.tuple #[.int .i64 (readF s a size (fun i => i)).1, .int .i64 (readF s a size (fun i => i)).2]) ∧ Below w.heap.size w w' := by
  by_cases h : (size < 1 ∨ 8 < size) ∨ ¬ (0 ≤ a ∧ a + size ≤ s.size)
  · exact read_no s a size _ _ w hs h
  · exact read_yes s a size 41 _ _ w hs h (fun _ h => h) enters133 (fun i W _ _ => up1 i W)
theorem read_down (s : ByteArray) (a size : Int) (B : Nat) (w : World) (hs : s.size ≤ 9223372036854775807) (hB : B < w.heap.size) (hc : w.cell? ⟨B, 0, none⟩ = some (.int .i64 size)) :
    Calls Try.prog 38 #[.string s, .int .i64 a, .int .i64 size, .func (.func 42) #[] #[.pointer (some ⟨B, 0, none⟩)]] w fun e w' => e = .returned (.tuple #[.int .i64 (readF s a size (fun i => size.toNat - 1 - i)).1, .int .i64 (readF s a size (fun i => size.toNat - 1 - i)).2]) ∧ Below w.heap.size w w' := by
  by_cases h : (size < 1 ∨ 8 < size) ∨ ¬ (0 ≤ a ∧ a + size ≤ s.size)
  · exact read_no s a size _ _ w hs h
  · refine read_yes s a size 42 _ _ w hs h (fun _ h => by omega) enters134 (fun i W hi hb => ?_)
    have := down1 i size B W (by omega) (by omega) (by omega) ((hb.cell (p := ⟨B, 0, none⟩) hB).trans hc)
    rw [show ((size.toNat - 1 - i : Nat) : Int) = size - 1 - i by omega]
    exact this
theorem endian_ReadLittle.calls (a0 : ByteArray) (a1 : Int) (a2 : Int) (r1 : Int) (r2 : Int) (w : World) (h : endian_ReadLittle.f a0 a1 a2 = some (r1, r2)) :
    Calls Try.prog 23 #[.string a0, .int .i64 a1, .int .i64 a2] w fun e w' => e = .returned (.tuple #[.int .i64 r1, .int .i64 r2]) ∧ Below w.heap.size w w' := by
  unfold endian_ReadLittle.f at h
  by_cases hs : a0.size ≤ 9223372036854775807
  · rw [if_pos hs] at h
    have HX := Aside0.mk (fun w => read_up a0 a1 a2 w hs)
    rw [Option.some.inj h] at HX
    clear h
    go_enter Try.func23, Try.ntmps23
    go_wp2_with (first
      | (go_at_call 30; refine (up_any _ _).mono ?_; rintro e w' ⟨rfl, rfl⟩)
      | (go_at_call 38; refine (HX.out _).mono ?_; rintro e w1 ⟨rfl, hb⟩))
    go_ret2
    exact ⟨rfl, hb⟩
  · rw [if_neg hs] at h
    cases h
theorem endian_ReadBig.calls (a0 : ByteArray) (a1 : Int) (a2 : Int) (r1 : Int) (r2 : Int) (w : World) (h : endian_ReadBig.f a0 a1 a2 = some (r1, r2)) :
    Calls Try.prog 22 #[.string a0, .int .i64 a1, .int .i64 a2] w fun e w' => e = .returned (.tuple #[.int .i64 r1, .int .i64 r2]) ∧ Below w.heap.size w w' := by
  unfold endian_ReadBig.f at h
  by_cases hs : a0.size ≤ 9223372036854775807
  · rw [if_pos hs] at h
    have HX := Aside0.mk (fun B w hB hc => read_down a0 a1 a2 B w hs hB hc)
    rw [Option.some.inj h] at HX
    clear h
    go_enter Try.func22, Try.ntmps22
    go_wp2_with (first
      | (go_at_call 33; refine (down_any _ _).mono ?_; rintro e w' ⟨rfl, rfl⟩)
      | (go_at_call 38; refine (HX.out w.heap.size (w.alloc (.cells #[.int .i64 a2] 3)) (by simp) (by simp)).mono ?_; rintro e w1 ⟨rfl, hb⟩))
    go_ret2
    exact ⟨rfl, below_step ((Below.refl _ _).alloc (Nat.le_refl _) _) hb⟩
  · rw [if_neg hs] at h
    cases h
end Go.Proofs.Ytbkakfaeeodmmaa.G
