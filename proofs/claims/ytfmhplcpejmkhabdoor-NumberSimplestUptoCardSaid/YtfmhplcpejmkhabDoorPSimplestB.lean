/-
  Contracts of the reference's natural numbers: NatBits.
  Contracts of the reference's natural numbers: less.
  Contracts of the reference's natural numbers: NatShl. The result is a slice of the call's own.
  Contracts of the reference's natural numbers: NatShr.
  Contract of the reference's digit: one digit of a quotient, the rest left in the window.
  Contract of the reference's NatDiv. No condition but bounds on lengths and a divisor other than 0.
  Plain laws: rational numbers by sign, numerator and denominator. No condition.
  Contracts of the program's fractions: Fits, Reduce. Reduce under the premise that the table of math/bits lies as its initialiser lays it.
  Words for the walks over two fractions in memory: what stays while a statement goes on.
  Contracts of the program's fractions: Mul, Add, Opposite, Inverse, Sign, Fits, Cmp, on the parts in memory.
  Contracts of the program's fractions: Opposite, Inverse, Sign, Fits, Cmp, on the parts in memory.
  Contracts of the program's fractions: Grid.
  Contracts of the program's fractions: Int.
  Contracts of the program's fractions: Pow.
  Contracts of the program's fractions: Give.
  Contracts of the reference's NatGcd and of its rational numbers: Make, den, whole.
  Words for the walks over rational numbers of the reference in memory: what stays while a statement goes on; den, whole.
-/
import Derived.Deep.RegionHeld3
import Derived.Lib.SmallJoins
import Derived.Test.YtfmhplcpejmkhabDoorPSimplestA
namespace Go.Proofs.YtfmhplcpejmkhabDoor
open Go.RowKit Dig
set_option linter.unusedVariables false
set_option linter.unusedSimpArgs false
theorem R_top {a : Nat} (h : 0 < (R a).length) : ∃ t : Nat, rd (R a) ((R a).length - 1) = (t : Int) ∧ t ≠ 0 ∧ t < 65536 ∧ bl a = 16 * ((R a).length - 1) + bl t := by
  have h1 := (dig_length_lt B16_two a ((R a).length - 1)).1 (by unfold R at *; omega)
  have h2 := lt_pow_length B16_two a
  have h3 : a / B16 ^ ((R a).length - 1) ≠ 0 := by
    have := Nat.div_pos h1 (Nat.pow_pos B16_pos); omega
  have h4 : a / B16 ^ ((R a).length - 1) < B16 := by
    rw [Nat.div_lt_iff_lt_mul (Nat.pow_pos B16_pos), ← Nat.pow_succ', show ((R a).length - 1).succ = (R a).length by omega]
    exact h2
  refine ⟨a / B16 ^ ((R a).length - 1), ?_, h3, h4, ?_⟩
  · rw [R_rd, Nat.mod_eq_of_lt h4]
  · exact bl_top (m := 16) h3
set_option maxHeartbeats 1000000 in
theorem rBits (a : Nat) (w : World) (A : Option Addr) (c : Nat) (h : Rd w A c (R a)) (hs : (R a).length ≤ 2097152) :
    Calls Tryd.prog 128 #[.slice A (R a).length c] w fun e w' => e = .returned (.int .i64 (bl a)) ∧ w = w' := by
  by_cases hl : 0 < (R a).length
  · obtain ⟨t, e1, e2, e3, e4⟩ := R_top hl
    have H := Lib.hid h
    obtain ⟨ad, rfl, hc⟩ := h.at_ ((R a).length - 1) (by omega)
    rw [e1] at hc
    have E4 := Lib.hid e4
    have hB : bl a ≤ 40000000 := by have := bl_le_of_lt (n := t) (k := 16) e3; omega
    have h1 := h.max
    have h2 := h.le
    have hz : (((R a).length : Int) == 0) = false := beq_eq_false_iff_ne.2 (by omega)
    clear h e1 e4 e2
    generalize (R a).length = n at *
    go_enter Tryd.func128, Tryd.ntmps128
    go_wp2
    go_loop [3, 4] (fun v3 v4 => ∃ (m x : Nat), v3 = .int .i64 m ∧ v4 = .int .u32 x ∧ x < 65536 ∧ Hid (m + bl x = bl a)) (fun _ v4 => (intOf v4).toNat)
    case atStart => exact ⟨16 * (n - 1), t, by go_num, rfl, e3, Lib.hid E4.out.symm⟩
    case round =>
      obtain ⟨m, x, rfl, rfl, hx, hb⟩ := hrel
      have hm : m ≤ 40000000 := by have := hb.out; omega
      by_cases h0 : 0 < x
      · have e := bl_half (n := x) (by omega)
        have E := Lib.hid (show m + 1 + bl (x / 2) = bl a by have := hb.out; omega)
        clear e
        go_wp2
        go_round
        case rel => exact ⟨m + 1, x / 2, by go_num, by go_num, by omega, E⟩
        case measure => simp [intOf]; omega
      · obtain rfl : x = 0 := by omega
        have E := Lib.hid (show m = bl a by have := hb.out; rw [bl_zero] at this; omega)
        go_wp2
        go_ret
        exact ⟨ret_int (by rw [E.out]), rfl⟩
  · have e : a = 0 := R_inj ((List.eq_nil_of_length_eq_zero (by omega)).trans R_zero.symm)
    subst e
    have hz : (((R 0).length : Int) == 0) = true := by simp [R_zero]
    go_enter Tryd.func128, Tryd.ntmps128
    go_wp2
    go_ret
    exact ⟨rfl, rfl⟩
end Go.Proofs.YtfmhplcpejmkhabDoor

namespace Go.Proofs.YtfmhplcpejmkhabDoor
open Go.RowKit Dig
set_option linter.unusedVariables false
set_option linter.unusedSimpArgs false
theorem R_le {n k : Nat} (h : n < B16 ^ k) : (R n).length ≤ k := (dig_length_le B16_two n k).2 h
set_option maxHeartbeats 1000000 in
theorem rLess (l : List Int) (u v g : Nat) (w : World) (A A' : Option Addr) (c c' : Nat) (h : Rd w A c l) (h' : Rd w A' c' (R v)) (ho : Ok B16 l) (hu : val B16 l = u) (hg : g < 18446744073709551616) (hs : (R v).length ≤ 2097152) :
    Calls Tryd.prog 132 #[.slice A l.length c, .slice A' (R v).length c', .int .u64 g] w fun e w' => e = .returned (.bool (decide (u < v * g))) ∧ Below w.heap.size w w' := by
  have H := Lib.hid h
  have H' := Lib.hid h'
  have ES := Lib.hid (strip_R ho hu)
  have hlg := R_le (n := g) (k := 4) (by unfold B16; omega)
  clear h h' ho hu
  go_enter Tryd.func132, Tryd.ntmps132
  go_wp2_with fail
  refine (rNatOf g _ hg).mono ?_
  rintro e w1 ⟨A1, c1, rfl, r1, b1⟩
  have R1 := Lib.hid r1
  have H := Lib.hid (H.out.below b1)
  have H' := Lib.hid (H'.out.below b1)
  have B1 := Lib.hid b1
  clear r1 b1
  go_wp2_with fail
  refine (rMul v g _ _ _ _ _ H'.out R1.out hs (by omega)).mono ?_
  rintro e w2 ⟨A2, c2, rfl, r2, b2⟩
  have R2 := Lib.hid r2
  have H := Lib.hid (H.out.below b2)
  have B2 := Lib.hid (below_step B1.out B1.out.size b2)
  clear r2 b2
  go_wp2_with fail
  refine (rTrim _ _ _ _ H.out).mono ?_
  rintro e w3 ⟨rfl, rfl⟩
  have H := Lib.hid H.out.strip
  rw [ES.out]
  have H : Hid (Rd w2 A c (R u)) := by rw [ES.out] at H; exact H
  go_wp2_with fail
  refine (rCmp u (v * g) _ _ _ _ _ H.out R2.out).mono ?_
  rintro e w3 ⟨rfl, b3⟩
  have B3 := Lib.hid (below_step B2.out B2.out.size b3)
  clear b3
  go_wp2
  go_ret
  exact ⟨ret_bool (by rw [Bool.eq_iff_iff]; simp only [decide_eq_true_eq]; unfold cmpI; split <;> (try split) <;> omega), B3.out⟩
end Go.Proofs.YtfmhplcpejmkhabDoor

namespace Go.Proofs.YtfmhplcpejmkhabDoor
open Go.RowKit Dig
set_option linter.unusedVariables false
set_option linter.unusedSimpArgs false
/-- an append of a nil slice -/
theorem run_append_nil {P : Program} {w : World} (base : Nat) (t ty e : TypeId) (i : TypeInfo) (size : Nat) (ht : P.underlying t = some (.slice e)) (hi : P.info? e = some i)
    (v : Value) (n c : Nat) (xs : List Value) (hown : w.ownsRow base e size v n xs) :
    (Builtin.append_ #[t, t] ty #[v, .slice none 0 c]).run P w = .ok v w := by
  rcases hown.2 with ⟨rfl, rfl⟩ | ⟨g, cap, cur, rfl, _, _, hnc, _⟩
  · simp [Builtin.append_, run_underlying ht, sizeOf, typeInfo, hi, Builtin.lenOf, Builtin.firstCells]
  · simp [Builtin.append_, run_underlying ht, sizeOf, typeInfo, hi, Builtin.lenOf, Builtin.firstCells, hnc, storeCells]
theorem wpList_append_nil {P : Program} {w : World} {ops : Array Oper} {rest : List Oper} {o : Oper} {a : Act} {Q : Exit → Act → World → Prop} (hgd : o.guard = none) (s x : Operand) (t : TypeId)
    (ho : o.op = .call { callee := .builtin .append, args := #[s, x], argTypes := #[t, t] })
    (base : Nat) (e : TypeId) (i : TypeInfo) (size : Nat) (ht : P.underlying t = some (.slice e)) (hi : P.info? e = some i)
    (v : Value) (n c : Nat) (xs : List Value) (hs : a.eval s = v) (hown : w.ownsRow base e size v n xs) (hx : a.eval x = .slice none 0 c)
    (h : wpList P ops Q rest (a.put o.dst v) w) : wpList P ops Q (o :: rest) a w := by
  refine wpList_plain hgd fun K hK => ?_
  have hrun := run_append_nil (P := P) (w := w) base t o.type e i size ht hi v n c xs hown
  unfold Oper.wp
  simp [execOp, ho, resolve, invoke, builtin, hs, hx, hrun, Result.andThen]
  exact hK _ _ h
theorem Own.take {w : World} {B c : Nat} {A : Option Addr} {l : List Int} (h : Own w B (.slice A l.length c) l) (k : Nat) : Own w B (.slice A (l.take k).length c) (l.take k) := by
  refine ⟨by simp, ?_⟩
  rcases h.2 with ⟨e, h0⟩ | ⟨g, cap, cur, e, h1, hg, hn, hm, hs, ht⟩
  · have : l = [] := List.eq_nil_of_length_eq_zero h0
    subst this
    simp only [Value.slice.injEq] at e
    obtain ⟨rfl, _, rfl⟩ := e
    exact Or.inl ⟨by simp, by simp⟩
  · simp only [Value.slice.injEq] at e
    obtain ⟨rfl, _, rfl⟩ := e
    refine Or.inr ⟨g, _, cur, rfl, h1, hg, by rw [List.length_take]; omega, hm, hs, ?_⟩
    rw [Nat.mul_one] at ht ⊢
    rw [List.length_take, ← List.take_take, ht, List.map_take]
theorem Own.strip {w : World} {B c : Nat} {A : Option Addr} {l : List Int} (h : Own w B (.slice A l.length c) l) : Own w B (.slice A (strip l).length c) (strip l) := by
  rw [strip_eq_take l]; exact h.take _
theorem Own.madeq {w : World} {B q n : Nat} (hB : B ≤ w.heap.size) (hq : q ≤ n) (hn : n ≤ 70368744177664) : Own (w.alloc (.cells (madeCells #[.int .u32 0] n) 72)) B (.slice (some ⟨w.heap.size, 0, none⟩) q n) (List.replicate q 0) := by
  refine ⟨by simp, Or.inr ⟨w.heap.size, n, madeCells #[.int .u32 0] n, by simp, hB, heap_alloc_new w _, by simpa using hq, by unfold maxLen; omega, by simp [madeCells], ?_⟩⟩
  apply List.ext_getElem
  · simp [madeCells]; omega
  · intro i h1 h2
    simp [madeCells, Nat.mod_one]
theorem make_qc (q n : Nat) (m : Int) (hm : m = n) (hq : q ≤ n) (h : n ≤ 70368744177664) : ∀ w : World, (Instr.makeSlice 37 (.int .i64 q) (.int .i64 m)).run Tryd.prog w = .ok (.slice (some ⟨w.heap.size, 0, none⟩) q n) (w.alloc (.cells (madeCells #[.int .u32 0] n) 72)) := by
  subst hm
  intro w
  obtain ⟨i0, hi, hz0, hz1, hz2⟩ := info_parts info32
  have := run_make (P := Tryd.prog) w 37 72 i0 (.int .u32 0) (by kernel_rfl) hi hz0 .i64 .i64 q n (by omega) (by omega) (by rw [hz2]; omega) (by omega)
  rw [this, hz1]
  simp [Value.cells]
theorem Own.of_append {w : World} {B : Nat} {v : Value} {l : List Int} {n : Nat} {xs : List Value} (h : w.ownsRow B 72 1 v n xs) (hn : n = l.length) (hx : xs = l.map (Value.int .u32)) : Own w B v l := by
  subst hn; subst hx; exact h

set_option maxHeartbeats 1000000 in
set_option maxRecDepth 100000 in
theorem rShl_copy (a n : Nat) (w : World) (A : Option Addr) (c : Nat) (h : Rd w A c (R a)) (hs : (R a).length ≤ 2097152) (h0 : n = 0 ∨ a = 0) :
    Calls Tryd.prog 84 #[.slice A (R a).length c, .int .i64 n] w fun e w' => ∃ v, e = .returned v ∧ Own w' w.heap.size v (R (a * 2 ^ n)) ∧ Below w.heap.size w w' := by
  have hv : a * 2 ^ n = a := by
    rcases h0 with rfl | rfl
    · rw [Nat.pow_zero, Nat.mul_one]
    · rw [Nat.zero_mul]
  rw [hv]
  have hb := Lib.hid (below_alloc w (.cells #[] 72))
  have hO := Lib.hid (World.ownsRow_made (base := w.heap.size) (e := 72) (size := 1) w #[] 0 (Nat.le_refl _) (Nat.zero_le _) rfl)
  obtain ⟨i0, hi0, hz0, hz1, hz2⟩ := info_parts info32
  clear hv
  by_cases hl : (R a).length = 0
  · have hz : (((R a).length : Int) == 0) = true := beq_iff_eq.2 (by omega)
    have hnil := List.eq_nil_of_length_eq_zero hl
    have HN := Lib.hid hnil
    have e0 : (R a).length = 0 := hl
    rw [hl]
    have hz : (((0 : Nat) : Int) == 0) = true := rfl
    clear h0 hnil hl h hs e0
    go_enter Tryd.func84, Tryd.ntmps84
    rcases A with _ | ad
    · go_wp2_with (at_builtin; refine wpList_append_nil rfl _ _ 37 rfl w.heap.size 72 i0 1 (by kernel_rfl) hi0 _ 0 c [] rfl hO.out rfl ?_)
      go_wp2
      go_ret
      exact ⟨_, rfl, Own.of_append hO.out (by rw [HN.out]; rfl) (by rw [HN.out]; rfl), hb.out⟩
    · go_wp2_with (at_builtin; refine wpList_append_own _ rfl _ _ 37 rfl w.heap.size 72 i0 (.int .u32 0) 1 4 (by kernel_rfl) hi0 hz0 hz1 hz2 rfl (by decide) _ 0 [] rfl hO.out ad 0 c [] rfl rfl (by intro j u hj; cases hj) (by intro u hu; cases hu) (by unfold maxLen; omega) (by omega) (by simp) ?_)
      intro v' w1 hown1 hgrow _
      have P1 := Lib.hid (Own.of_append hown1 (l := R a) (by rw [HN.out]; rfl) (by rw [HN.out]; rfl))
      have P2 := Lib.hid (hb.out.grown hgrow (by simp) (fun k hk => by simp [Value.ownBlock] at hk; omega))
      clear hown1 hgrow
      go_wp2
      go_ret
      exact ⟨_, rfl, P1.out, P2.out⟩
  · have hz : (((R a).length : Int) == 0) = false := beq_eq_false_iff_ne.2 (by omega)
    have hn : n = 0 := by
      rcases h0 with h0 | h0
      · exact h0
      · subst h0; exact absurd (by rw [R_zero]; rfl) hl
    subst hn
    obtain ⟨ad, rfl⟩ := h.some_ (by omega)
    have H := Lib.hid (h.below hb.out)
    clear h0 hl h
    go_enter Tryd.func84, Tryd.ntmps84
    go_wp2_with (at_builtin; refine wpList_append_own _ rfl _ _ 37 rfl w.heap.size 72 i0 (.int .u32 0) 1 4 (by kernel_rfl) hi0 hz0 hz1 hz2 rfl (by decide) _ 0 [] rfl hO.out ad (R a).length c ((R a).map (Value.int .u32)) rfl (by simp) H.out.news (oneCell_u32 _) (by unfold maxLen; omega) (by omega) (by simp) ?_)
    intro v' w1 hown1 hgrow _
    have P1 := Lib.hid (Own.of_append hown1 (l := R a) (by simp) (by simp))
    have P2 := Lib.hid (hb.out.grown hgrow (by simp) (fun k hk => by simp [Value.ownBlock] at hk; omega))
    clear hown1 hgrow
    go_wp2
    go_ret
    exact ⟨_, rfl, P1.out, P2.out⟩

theorem or_u32_hi {x y : Int} (r : Nat) (hr : r ≤ 32) (h0 : 0 ≤ x) (h1 : x < 2 ^ r) (h2 : 0 ≤ y) (h3 : y < 4294967296) (h4 : y % 2 ^ r = 0) : bits .or .u32 y x = y + x := by
  rw [bits_or_comm, or_u32 r hr h0 h1 h2 h3 h4]; omega
theorem pow_two_bd16 {r : Nat} (hr : r < 16) : ∃ M : Nat, (2 : Int) ^ r = M ∧ M = 2 ^ r ∧ 1 ≤ M ∧ M ≤ 32768 := by
  refine ⟨2 ^ r, by simp, rfl, Nat.two_pow_pos r, ?_⟩
  exact Nat.pow_le_pow_right (n := 2) (by omega) (show r ≤ 15 by omega)
theorem mul_bd {x : Int} {M : Nat} (h0 : 0 ≤ x) (h1 : x < 65536) : 0 ≤ x * M ∧ x * M ≤ 65535 * M :=
  ⟨Int.mul_nonneg h0 (by omega), Int.mul_le_mul_of_nonneg_right (by omega) (by omega)⟩
theorem shl_app {B q i : Nat} {lo la : List Int} {M cr s : Int} (hi : lo.length = q + i) (hs : s = rd la i * M + cr)
    (h : val B lo + (B ^ (q + i) : Nat) * cr = (B ^ q : Nat) * (M * val B (la.take i))) :
    val B (lo ++ [s % B]) + (B ^ (q + (i + 1)) : Nat) * (s / B) = (B ^ q : Nat) * (M * val B (la.take (i + 1))) := by
  have e := pow_split B (q + i) s
  rw [val_snoc, hi, val_take_any, ← Nat.add_assoc, Int.add_assoc, e, hs, Int.mul_add, Int.mul_add, Int.mul_add, ← h, Nat.pow_add B q i, Int.natCast_mul]
  grind
set_option maxHeartbeats 1000000 in
set_option maxRecDepth 100000 in
theorem rShl_pos (a n : Nat) (w : World) (A : Option Addr) (c : Nat) (h : Rd w A c (R a)) (hs : (R a).length ≤ 2097152) (hn : n ≤ 33554432) (ha : 0 < (R a).length) (hn0 : 0 < n) :
    Calls Tryd.prog 84 #[.slice A (R a).length c, .int .i64 n] w fun e w' => ∃ v, e = .returned v ∧ Own w' w.heap.size v (R (a * 2 ^ n)) ∧ Below w.heap.size w w' := by
  have H0 := Lib.hid h
  have K0 := Lib.hid (ok_R a)
  have hv := Lib.hid (val_R a)
  clear h
  generalize R a = l0 at *
  have za : ((l0.length : Int) == 0) = false := beq_eq_false_iff_ne.2 (by omega)
  obtain ⟨q, r, hq, hr, hr1, hq1, hqr⟩ : ∃ q r : Nat, (n : Int) / 16 = q ∧ (n : Int) % 16 = r ∧ r < 16 ∧ q ≤ 2097152 ∧ n = 16 * q + r := ⟨n / 16, n % 16, by omega, by omega, by omega, by omega, by omega⟩
  have HQR := Lib.hid hqr
  have hd0 : decide (n = 0) = false := decide_eq_false (by omega)
  obtain ⟨M, hM, hM2, hM3, hM4⟩ := pow_two_bd16 hr1
  have HM := Lib.hid hM2
  clear hM2 hqr
  obtain ⟨i0, hi0, hz0, hz1, hz2⟩ := info_parts info32
  have hmk := make_qc q (q + l0.length + 1) ((q : Int) + (l0.length : Int) + 1) (by omega) (by omega) (by omega)
  go_enter Tryd.func84, Tryd.ntmps84
  go_wp2
  go_loopw [5, 6, 31] (fun v5 v6 v31 wr => ∃ (i : Nat) (cr : Int) (lo : List Int), i ≤ l0.length ∧ v31 = .int .i64 i ∧ v6 = .int .u32 cr ∧ 0 ≤ cr ∧ cr < M ∧ Hid (lo.length = q + i) ∧ Hid (Ok B16 lo) ∧ Hid (val B16 lo + (B16 ^ (q + i) : Nat) * cr = (B16 ^ q : Nat) * (M * val B16 (l0.take i))) ∧ Hid (Own wr w.heap.size v5 lo) ∧ Hid (Below w.heap.size w wr)) (fun _ _ v31 _ => l0.length - (intOf v31).toNat)
  case atStart => exact ⟨0, 0, List.replicate q 0, Nat.zero_le _, rfl, rfl, by omega, by omega, Lib.hid (by simp), Lib.hid (Ok.replicate B16_pos _), Lib.hid (by simp [val, val_replicate]), Lib.hid (Own.madeq (Nat.le_refl _) (by omega) (by omega)), Lib.hid (below_alloc _ _)⟩
  case round =>
    obtain ⟨i, cr, lo, hi, rfl, rfl, hc0, hc1, hlen, hok, hval, hown, hbel⟩ := hrel
    have hsz := hbel.out.size
    have hll : lo.length ≤ 4194304 := by rw [hlen.out]; omega
    by_cases hlt : i < l0.length
    · obtain ⟨ad, rfl, hc⟩ := (H0.out.below hbel.out).at_ i hlt
      obtain ⟨t1, t2⟩ := K0.out.rd B16_pos i
      rw [B16_cast] at t2
      obtain ⟨m1, m2⟩ := mul_bd (M := M) t1 t2
      have hor := or_u32_hi (x := cr) (y := rd l0 i * M) r (by omega) hc0 (by rw [hM]; exact hc1) m1 (by omega) (by rw [hM]; exact Int.mul_emod_left _ _)
      have hstep := shl_app hlen.out rfl hval.out
      simp only [B16_cast] at hstep
      have HS := Lib.hid hstep
      clear hstep
      go_wp2_with (at_builtin; refine wpList_append_own _ rfl _ _ 37 rfl w.heap.size 72 i0 (.int .u32 0) 1 4 (by kernel_rfl) hi0 hz0 hz1 hz2 rfl (by decide) _ _ _ rfl (hown.out.alloc _) ⟨wr.heap.size, 0, none⟩ 1 1 [.int .u32 ((rd l0 i * M + cr) % 65536)] rfl rfl (rd_single _ _) (one_single _) (by unfold maxLen; omega) (by omega) (by simp; omega) ?_)
      intro v' w1 hown1 hgrow _
      obtain ⟨p1, p2⟩ := hown.out.push hbel.out hsz hown1 hgrow
      have P1 := Lib.hid p1
      have P2 := Lib.hid p2
      clear p1 p2 hown1 hgrow hc
      go_wp2
      go_roundw
      case rel => exact ⟨i + 1, (rd l0 i * M + cr) / 65536, lo ++ [(rd l0 i * M + cr) % 65536], by omega, by go_num, rfl, by omega, by omega, Lib.hid (by rw [List.length_append, hlen.out]; rfl), Lib.hid (hok.out.snoc (by omega) (by unfold B16; omega)), HS, P1, P2⟩
      case measure => simp [intOf]; omega
    · obtain rfl : i = l0.length := by omega
      go_wp2_with (at_builtin; refine wpList_append_own _ rfl _ _ 37 rfl w.heap.size 72 i0 (.int .u32 0) 1 4 (by kernel_rfl) hi0 hz0 hz1 hz2 rfl (by decide) _ _ _ rfl (hown.out.alloc _) ⟨wr.heap.size, 0, none⟩ 1 1 [.int .u32 cr] rfl rfl (rd_single _ _) (one_single _) (by unfold maxLen; omega) (by omega) (by simp; omega) ?_)
      intro v' w1 hown1 hgrow _
      obtain ⟨p1, p2⟩ := hown.out.push hbel.out hsz hown1 hgrow
      have hv3 : val B16 (lo ++ [cr]) = ((a * 2 ^ n : Nat) : Int) := by
        rw [val_snoc, hlen.out, hval.out, List.take_length, hv.out, HQR.out, HM.out, Nat.pow_add, Nat.pow_mul, ← Int.natCast_mul, ← Int.natCast_mul]
        congr 1
        rw [show (2 : Nat) ^ 16 = B16 from rfl, Nat.mul_comm _ a, Nat.mul_left_comm]
      have hok2 := hok.out.snoc (x := cr) hc0 (by unfold B16; omega)
      generalize lo ++ [cr] = lf at p1 hv3 hok2
      have E := Lib.hid (strip_R hok2 hv3)
      obtain ⟨A9, c9, e9, hr9⟩ := p1.rd
      subst e9
      have P1 := Lib.hid p1.strip
      have P2 := Lib.hid p2
      have R9 := Lib.hid hr9
      clear p1 p2 hown1 hgrow hv3 hok2 hr9
      go_wp2_with fail
      refine (rTrim _ _ _ _ R9.out).mono ?_
      rintro e w' ⟨rfl, rfl⟩
      go_wp2
      go_ret
      rw [← E.out]
      exact ⟨_, rfl, P1.out, P2.out⟩
theorem rShlOwn (a n : Nat) (w : World) (A : Option Addr) (c : Nat) (h : Rd w A c (R a)) (hs : (R a).length ≤ 2097152) (hn : n ≤ 33554432) :
    Calls Tryd.prog 84 #[.slice A (R a).length c, .int .i64 n] w fun e w' => ∃ v, e = .returned v ∧ Own w' w.heap.size v (R (a * 2 ^ n)) ∧ Below w.heap.size w w' := by
  by_cases hn0 : n = 0
  · exact rShl_copy a n w A c h hs (Or.inl hn0)
  · by_cases ha : 0 < (R a).length
    · exact rShl_pos a n w A c h hs hn ha (by omega)
    · exact rShl_copy a n w A c h hs (Or.inr (R_length_zero ha))
theorem rShl (a n : Nat) (w : World) (A : Option Addr) (c : Nat) (h : Rd w A c (R a)) (hs : (R a).length ≤ 2097152) (hn : n ≤ 33554432) :
    Calls Tryd.prog 84 #[.slice A (R a).length c, .int .i64 n] w fun e w' => ∃ A c, e = .returned (.slice A (R (a * 2 ^ n)).length c) ∧ Rd w' A c (R (a * 2 ^ n)) ∧ Below w.heap.size w w' :=
  (rShlOwn a n w A c h hs hn).mono fun e w' ⟨v, he, ho, hb⟩ => by
    obtain ⟨A, c, e2, hr⟩ := ho.rd
    exact ⟨A, c, by rw [he, e2], hr, hb⟩
end Go.Proofs.YtfmhplcpejmkhabDoor

namespace Go.Proofs.YtfmhplcpejmkhabDoor
open Go.RowKit Dig
set_option linter.unusedVariables false
set_option linter.unusedSimpArgs false
/-- digit i of a / 2^n out of two digits of a -/
theorem shr_digit16 {a q i r M N : Nat} (hM : M * N = B16) (hM0 : 0 < M) (hM2 : M = 2 ^ r) :
    a / 2 ^ (16 * q + r) / B16 ^ i % B16 = (a / B16 ^ (q + i) % B16 + B16 * (a / B16 ^ (q + i + 1) % B16)) / M % B16 := by
  have e1 : a / 2 ^ (16 * q + r) / B16 ^ i = a / B16 ^ (q + i) / M := by
    rw [Nat.div_div_eq_div_mul, Nat.div_div_eq_div_mul, Nat.pow_add, Nat.pow_mul, show (2 : Nat) ^ 16 = B16 from rfl, ← hM2, Nat.pow_add B16, Nat.mul_right_comm]
  rw [e1, Nat.pow_succ, ← Nat.div_div_eq_div_mul]
  generalize a / B16 ^ (q + i) = x
  have e2 : x = x % B16 + B16 * (x / B16 % B16) + M * (B16 * (N * (x / B16 / B16))) := by
    have h1 := Nat.mod_add_div x B16
    have h2 := Nat.mod_add_div (x / B16) B16
    have h3 : M * (B16 * (N * (x / B16 / B16))) = B16 * (B16 * (x / B16 / B16)) := by
      rw [Nat.mul_left_comm, ← Nat.mul_assoc M, hM]
    rw [h3, Nat.add_assoc, ← Nat.mul_add, h2, h1]
  have e3 : x / M = (x % B16 + B16 * (x / B16 % B16)) / M + B16 * (N * (x / B16 / B16)) := by
    conv => lhs; rw [e2]
    rw [Nat.add_mul_div_left _ _ hM0]
  rw [e3, Nat.add_mul_mod_self_left]
theorem shr_val16 {l0 : List Int} {a q i r M N : Nat} (hd : ∀ i, rd l0 i = ((a / B16 ^ (q + i) % B16 : Nat) : Int)) (hM : M * N = 65536) (hM0 : 0 < M) (hM2 : M = 2 ^ r) :
    (rd l0 i + rd l0 (i + 1) * 65536) / M % 65536 = ((a / 2 ^ (16 * q + r) / B16 ^ i % B16 : Nat) : Int) := by
  rw [shr_digit16 hM hM0 hM2, hd, hd, ← B16_cast, Int.mul_comm _ ((B16 : Nat) : Int), ← Int.natCast_mul, ← Int.natCast_add, ← Int.natCast_ediv, ← Int.natCast_emod]
  rfl
theorem shr_lt16 {a n q r k : Nat} (hq : q ≤ k) (ha : a < B16 ^ k) (hn : n = 16 * q + r) : a / 2 ^ n < B16 ^ (k - q) := by
  rw [Nat.div_lt_iff_lt_mul (Nat.two_pow_pos _), hn, Nat.pow_add 2, Nat.pow_mul, show (2 : Nat) ^ 16 = B16 from rfl, ← Nat.mul_assoc, ← Nat.pow_add, show k - q + q = k from by omega]
  exact Nat.lt_of_lt_of_le ha (Nat.le_mul_of_pos_right _ (Nat.two_pow_pos _))
theorem shr_zero16 {a n q r k : Nat} (hq : k ≤ q) (ha : a < B16 ^ k) (hn : n = 16 * q + r) : a / 2 ^ n = 0 := by
  apply Nat.div_eq_of_lt
  refine Nat.lt_of_lt_of_le ha ?_
  rw [hn, Nat.pow_add, Nat.pow_mul]
  exact Nat.le_trans (Nat.pow_le_pow_right B16_pos hq) (Nat.le_mul_of_pos_right _ (Nat.two_pow_pos _))
theorem pow_two_comp16 {r : Nat} (hr : r < 16) : 2 ^ r * 2 ^ (16 - r) = 65536 := by
  rw [← Nat.pow_add, show r + (16 - r) = 16 from by omega]
theorem shr_app {lo : List Int} {X i : Nat} {s : Int} (hi : lo.length = i) (hs : s = ((X / B16 ^ i % B16 : Nat) : Int)) (h : val B16 lo = ((X % B16 ^ i : Nat) : Int)) :
    val B16 (lo ++ [s]) = ((X % B16 ^ (i + 1) : Nat) : Int) := by
  rw [val_snoc, hi, h, hs, mod_pow_step]
theorem Rd.drop {w : World} {ad : Addr} {c : Nat} {l : List Int} (h : Rd w (some ad) c l) (q : Nat) : Rd w (some (ad.add q)) (c - q) (l.drop q) :=
  ⟨by have := h.le; rw [List.length_drop]; omega, by have := h.max; omega, fun j hj => by
    rw [List.length_drop] at hj
    refine ⟨_, rfl, ?_⟩
    have := h.cell (q + j) (by omega)
    rw [rd_drop]
    rw [Addr.add_add]
    exact this⟩
set_option maxHeartbeats 1000000 in
set_option maxRecDepth 100000 in
theorem rShr (a n : Nat) (w : World) (A : Option Addr) (c : Nat) (h : Rd w A c (R a)) (hs : (R a).length ≤ 2097152) (hn : n ≤ 33554432) :
    Calls Tryd.prog 125 #[.slice A (R a).length c, .int .i64 n] w fun e w' => ∃ A c, e = .returned (.slice A (R (a / 2 ^ n)).length c) ∧ Rd w' A c (R (a / 2 ^ n)) ∧ Below w.heap.size w w' := by
  have hlt2 := Lib.hid (lt_pow_length B16_two a)
  have HD := Lib.hid (R_rd a)
  have K0 := Lib.hid (ok_R a)
  rw [show dig B16 a = R a from rfl] at hlt2
  have h1 := h.max
  have h2 := h.le
  obtain ⟨q, r, hq, hr, hr1, hq1, hqr⟩ : ∃ q r : Nat, (n : Int) / 16 = q ∧ (n : Int) % 16 = r ∧ r < 16 ∧ q ≤ 2097152 ∧ n = 16 * q + r := ⟨n / 16, n % 16, by omega, by omega, by omega, by omega, by omega⟩
  have HQR := Lib.hid hqr
  obtain ⟨M, hM, hM2, hM3, hM4⟩ := pow_two_bd16 hr1
  have HM := Lib.hid hM2
  have HN := Lib.hid (show M * 2 ^ (16 - r) = 65536 by rw [hM2]; exact pow_two_comp16 hr1)
  clear hM2 hqr
  generalize R a = l0 at *
  obtain ⟨i0, hi0, hz0, hz1, hz2⟩ := info_parts info32
  by_cases hl : q < l0.length
  · obtain ⟨ad, rfl⟩ := h.some_ (by omega)
    have hr9 := h.drop q
    have hd9 : ∀ i, rd (l0.drop q) i = ((a / B16 ^ (q + i) % B16 : Nat) : Int) := fun i => by rw [rd_drop, HD.out]
    have hk9 := K0.out.drop q
    have hL9 : (l0.drop q).length = l0.length - q := List.length_drop
    obtain ⟨L, hL⟩ : ∃ L, l0.length - q = L := ⟨_, rfl⟩
    obtain ⟨ad2, had⟩ : ∃ ad2, ad.add q = ad2 := ⟨_, rfl⟩
    rw [had] at hr9
    rw [hL] at hL9
    generalize l0.drop q = l1 at hr9 hd9 hL9 hk9
    have H0 := Lib.hid hr9
    have HD1 := Lib.hid hd9
    have HL1 := Lib.hid hL9
    have HK1 := Lib.hid hk9
    have HE := Lib.hid (show a / 2 ^ n < B16 ^ L by rw [← hL]; exact shr_lt16 (by omega) hlt2.out HQR.out)
    have hb1 : decide ((n : Int) < 0) = false := decide_eq_false (by omega)
    have hb2 : decide (l0.length ≤ q) = false := decide_eq_false (by omega)
    have hL0 : 0 < L := by omega
    have hL1 : L ≤ 2097152 := by omega
    have hmk := make_cap L (L : Int) rfl (by omega)
    clear h hr9 hd9 hL9 hk9 K0
    go_enter Tryd.func125, Tryd.ntmps125
    go_wp2
    go_loopw [5, 26] (fun v5 v26 wr => ∃ (i : Nat) (lo : List Int), i ≤ L ∧ v26 = .int .i64 i ∧ Hid (lo.length = i) ∧ Hid (Ok B16 lo) ∧ Hid (val B16 lo = ((a / 2 ^ n % B16 ^ i : Nat) : Int)) ∧ Hid (Own wr w.heap.size v5 lo) ∧ Hid (Below w.heap.size w wr)) (fun _ v26 _ => L - (intOf v26).toNat)
    case atStart => exact ⟨0, [], Nat.zero_le _, rfl, Lib.hid rfl, Lib.hid (Ok.nil _), Lib.hid (by simp [val, Nat.mod_one]), Lib.hid (Own.made (Nat.le_refl _) (by omega)), Lib.hid (below_alloc _ _)⟩
    case round =>
      obtain ⟨i, lo, hi, rfl, hlen, hok, hval, hown, hbel⟩ := hrel
      have hsz := hbel.out.size
      have hll : lo.length ≤ 2097152 := by rw [hlen.out]; omega
      by_cases hlt : i < L
      · have hc := (H0.out.below hbel.out).cell i (by rw [HL1.out]; exact hlt)
        obtain ⟨t1, t2⟩ := HK1.out.rd B16_pos i
        rw [B16_cast] at t2
        have hx := shr_val16 (M := M) (a := a) (q := q) (i := i) HD1.out HN.out (by omega) HM.out
        rw [← HQR.out] at hx
        have HX := Lib.hid hx
        have HXb := Lib.hid (Nat.mod_lt (a / 2 ^ n / B16 ^ i) B16_pos)
        have ht0 : 0 ≤ rd l1 i + rd l1 (i + 1) * 65536 := by have := (HK1.out.rd B16_pos (i + 1)).1; omega
        have hdv := Int.ediv_nonneg ht0 (show (0 : Int) ≤ (M : Int) by omega)
        have hdv1 := Int.ediv_nonneg t1 (show (0 : Int) ≤ (M : Int) by omega)
        clear hx ht0
        by_cases hlt' : i + 1 < L
        · have hc' := (H0.out.below hbel.out).cell_succ i (by rw [HL1.out]; exact hlt')
          obtain ⟨t3, t4⟩ := HK1.out.rd B16_pos (i + 1)
          rw [B16_cast] at t4
          go_wp2_with (at_builtin; refine wpList_append_own _ rfl _ _ 37 rfl w.heap.size 72 i0 (.int .u32 0) 1 4 (by kernel_rfl) hi0 hz0 hz1 hz2 rfl (by decide) _ _ _ rfl (hown.out.alloc _) ⟨wr.heap.size, 0, none⟩ 1 1 [.int .u32 ((rd l1 i + rd l1 (i + 1) * 65536) / M % 65536)] rfl rfl (rd_single _ _) (one_single _) (by unfold maxLen; omega) (by omega) (by simp; omega) ?_)
          intro v' w1 hown1 hgrow _
          obtain ⟨p1, p2⟩ := hown.out.push hbel.out hsz hown1 hgrow
          have P1 := Lib.hid p1
          have P2 := Lib.hid p2
          clear p1 p2 hown1 hgrow hc hc'
          go_wp2
          go_roundw
          case rel =>
            rw [HX.out] at P1
            exact ⟨i + 1, _, by omega, by go_num, Lib.hid (by rw [List.length_append, hlen.out]; rfl), Lib.hid (hok.out.snoc (by omega) (by have := HXb.out; omega)), Lib.hid (shr_app hlen.out rfl hval.out), P1, P2⟩
          case measure => simp [intOf]; omega
        · have hz : rd l1 (i + 1) = 0 := rd_ge (by rw [HL1.out]; omega)
          have hx2 := HX.out
          rw [hz, Int.zero_mul, Int.add_zero] at hx2
          have HX2 := Lib.hid hx2
          clear hz hx2
          go_wp2_with (at_builtin; refine wpList_append_own _ rfl _ _ 37 rfl w.heap.size 72 i0 (.int .u32 0) 1 4 (by kernel_rfl) hi0 hz0 hz1 hz2 rfl (by decide) _ _ _ rfl (hown.out.alloc _) ⟨wr.heap.size, 0, none⟩ 1 1 [.int .u32 (rd l1 i / M % 65536)] rfl rfl (rd_single _ _) (one_single _) (by unfold maxLen; omega) (by omega) (by simp; omega) ?_)
          intro v' w1 hown1 hgrow _
          obtain ⟨p1, p2⟩ := hown.out.push hbel.out hsz hown1 hgrow
          have P1 := Lib.hid p1
          have P2 := Lib.hid p2
          clear p1 p2 hown1 hgrow hc
          go_wp2
          go_roundw
          case rel =>
            rw [HX2.out] at P1
            exact ⟨i + 1, _, by omega, by go_num, Lib.hid (by rw [List.length_append, hlen.out]; rfl), Lib.hid (hok.out.snoc (by omega) (by have := HXb.out; omega)), Lib.hid (shr_app hlen.out rfl hval.out), P1, P2⟩
          case measure => simp [intOf]; omega
      · obtain rfl : i = L := by omega
        have hv2 := hval.out
        rw [Nat.mod_eq_of_lt HE.out] at hv2
        have E := Lib.hid (strip_R hok.out hv2)
        obtain ⟨A9, c9, rfl, hr9⟩ := hown.out.rd
        have R9 := Lib.hid hr9
        clear hr9 hv2
        go_wp2_with fail
        refine (rTrim _ _ _ _ R9.out).mono ?_
        rintro e w' ⟨rfl, rfl⟩
        go_wp2
        go_ret
        rw [← E.out]
        exact ⟨_, _, rfl, R9.out.strip, hbel.out⟩
  · have E := Lib.hid (shr_zero16 (by omega) hlt2.out HQR.out)
    go_enter Tryd.func125, Tryd.ntmps125
    go_wp2
    go_ret
    rw [E.out, R_zero]
    exact ⟨none, 0, rfl, Rd.nil _ _ _ (by omega), Below.refl _ _⟩
end Go.Proofs.YtfmhplcpejmkhabDoor

namespace Go.Proofs.YtfmhplcpejmkhabDoor
open Go.RowKit Dig
set_option linter.unusedVariables false
set_option linter.unusedSimpArgs false
/-- a block of words with whatever lies behind them -/
def BlkT (w : World) (g : Nat) (l : List Int) (T : List Value) : Prop := w.heap[g]? = some (.cells (l.map (Value.int .u32) ++ T).toArray 72 (0, 0))
theorem BlkT.lt {w : World} {g : Nat} {l : List Int} {T : List Value} (h : BlkT w g l T) : g < w.heap.size := (Array.getElem?_eq_some_iff.1 h).1
theorem BlkT.cell {w : World} {g : Nat} {l : List Int} {T : List Value} (h : BlkT w g l T) (i : Nat) (hi : i < l.length) : w.cell? ⟨g, i, none⟩ = some (.int .u32 (rd l i)) := by
  unfold BlkT at h
  simp [World.cell?, h, rd, List.getD_eq_getElem?_getD, List.getElem?_eq_getElem hi, List.getElem?_append, hi]
theorem BlkT.frozen {w : World} {g : Nat} {l : List Int} {T : List Value} (h : BlkT w g l T) (i : Nat) : w.frozen? ⟨g, i, none⟩ = false := by
  unfold BlkT at h
  simp [World.frozen?, h]
theorem BlkT.set {w : World} {g : Nat} {l : List Int} {T : List Value} (h : BlkT w g l T) (i : Nat) (hi : i < l.length) (x : Int) : BlkT (w.setCell ⟨g, i, none⟩ (.int .u32 x)) g (l.set i x) T := by
  unfold BlkT at h ⊢
  simp only [World.setCell, Array.getElem?_modify, if_true, h, Option.map_some]
  simp [List.map_set, List.set_append, hi]
theorem BlkT.other {w w' : World} {g : Nat} {l : List Int} {T : List Value} (h : BlkT w g l T) (he : w'.heap[g]? = w.heap[g]?) : BlkT w' g l T := he.trans h
theorem BlkT.below {w w' : World} {g : Nat} {l : List Int} {T : List Value} (h : BlkT w g l T) (hb : Below w.heap.size w w') : BlkT w' g l T := h.other (hb.block g h.lt)
theorem BlkT.drewN {w : World} {g : Nat} {l : List Int} {T : List Value} (h : BlkT w g l T) (n : Nat) : BlkT (w.drewN n) g l T := h
theorem BlkT.grown {w w' : World} {g g2 : Nat} {l : List Int} {T : List Value} (h : BlkT w g l T) (hg : w.grownBy w' (some g2)) (hne : g ≠ g2) : BlkT w' g l T :=
  h.other (hg.block g h.lt (fun e => hne (Option.some.inj e)))
theorem BlkT.midCell {w : World} {g : Nat} {P l S : List Int} {T : List Value} (h : BlkT w g (P ++ l ++ S) T) (i : Nat) (hi : i < l.length) : w.cell? ⟨g, P.length + i, none⟩ = some (.int .u32 (Dig.rd l i)) := by
  rw [h.cell _ (by simp; omega)]
  simp [Dig.rd, List.getD_eq_getElem?_getD, List.getElem?_append, hi, show ¬ (P.length + i < P.length) by omega]
theorem BlkT.midSet {w : World} {g : Nat} {P l S : List Int} {T : List Value} (h : BlkT w g (P ++ l ++ S) T) (i : Nat) (hi : i < l.length) (x : Int) : BlkT (w.setCell ⟨g, P.length + i, none⟩ (.int .u32 x)) g (P ++ l.set i x ++ S) T := by
  have := h.set (P.length + i) (by simp; omega) x
  rwa [show (P ++ l ++ S).set (P.length + i) x = P ++ l.set i x ++ S from by
    rw [List.append_assoc, List.set_append_right _ _ (by omega), List.set_append_left _ _ (by omega), show P.length + i - P.length = i from by omega, List.append_assoc]] at this
theorem BlkT.rdMid {w : World} {g cu : Nat} {P l S : List Int} {T : List Value} (h : BlkT w g (P ++ l ++ S) T) (h1 : l.length ≤ cu) (h2 : cu ≤ 9223372036854775807) : Rd w (some ⟨g, P.length, none⟩) cu l :=
  ⟨h1, h2, fun j hj => ⟨_, rfl, by rw [add_plain]; exact h.midCell j hj⟩⟩
theorem BlkT.rd {w : World} {g c : Nat} {l : List Int} {T : List Value} (h : BlkT w g l T) (h1 : l.length ≤ c) (h2 : c ≤ 9223372036854775807) : Rd w (some ⟨g, 0, none⟩) c l :=
  ⟨h1, h2, fun j hj => ⟨_, rfl, by rw [add_plain, Nat.zero_add]; exact h.cell j hj⟩⟩
theorem grown_of_below {w w' : World} (h : Below w.heap.size w w') (row : Option Nat) : w.grownBy w' row := ⟨h.os, h.tape, h.output, h.size, fun k hk _ => h.block k hk⟩
theorem i64_and65535 (n : Int) : bits .and .i64 n 65535 = n % 65536 := by
  have h127 : (BitVec.ofInt 64 65535).toNat = 2 ^ 16 - 1 := by decide
  have key : (BitVec.ofInt 64 n &&& BitVec.ofInt 64 65535).toNat = (n % ((2 ^ 64 : Nat) : Int)).toNat % 2 ^ 16 := by
    rw [BitVec.toNat_and, BitVec.toNat_ofInt, h127, Nat.and_two_pow_sub_one_eq_mod]
  show IntKind.i64.wrap ((BitVec.ofInt 64 n &&& BitVec.ofInt 64 65535).toNat : Nat) = n % 65536
  rw [key, IntKind.wrap_i64]
  omega
theorem est_top {P d1 D0 D top X0 X : Nat} (hD : D = d1 * P + D0) (hX : X = top * P + X0) (hX0 : X0 < P) (hd1 : 1 ≤ d1) : X / D ≤ top / d1 := by
  rw [Nat.le_div_iff_mul_le hd1]
  have h1 : X / D * D ≤ X := Nat.div_mul_le_self X D
  have hP : 0 < P := by omega
  have h2 : X / D * (d1 * P) ≤ X / D * D := Nat.mul_le_mul_left _ (by rw [hD]; omega)
  have h3 : X < (top + 1) * P := by rw [Nat.add_mul]; omega
  rw [← Nat.mul_assoc] at h2
  have h4 : X / D * d1 * P < (top + 1) * P := by omega
  have := Nat.lt_of_mul_lt_mul_right h4
  omega
/-- what digit is called with -/
structure WinR (w : World) (gb : Nat) (P lw S : List Int) (T : List Value) (A' : Option Addr) (c' cu n X D : Nat) : Prop where
  blk : BlkT w gb (P ++ lw ++ S) T
  rdd : Rd w A' c' (R D)
  ne : ∀ ad, A' = some ad → ad.block ≠ gb
  lw_len : lw.length = n + 2
  ld_len : (R D).length = n + 1
  okw : Ok B16 lw
  valw : val B16 lw = X
  lt : X < D * B16
  cap : n + 2 ≤ cu
  capm : cu ≤ 9223372036854775807
  small : n ≤ 2097151
theorem WinR.est {w : World} {gb : Nat} {P lw S : List Int} {T : List Value} {A' : Option Addr} {c' cu n X D : Nat} (h : WinR w gb P lw S T A' c' cu n X D) {d1 un u1 : Nat}
    (e1 : rd (R D) n = d1) (e2 : rd lw (n + 1) = un) (e3 : rd lw n = u1) : 1 ≤ d1 ∧ X / D ≤ (un * 65536 + u1) / d1 ∧ X / D < 65536 := by
  have hD0 : D ≠ 0 := by
    rintro rfl
    have := h.lt
    simp at this
  have hd : 1 ≤ d1 := by
    have h1 := (dig_length_lt B16_two D n).1 (by have := h.ld_len; unfold R at this; omega)
    have h2 := lt_pow_length B16_two D
    rw [show (dig B16 D).length = n + 1 from h.ld_len] at h2
    have h3 := R_rd D n
    rw [e1] at h3
    have h4 : D / B16 ^ n < B16 := by rw [Nat.div_lt_iff_lt_mul (Nat.pow_pos B16_pos), ← Nat.pow_succ']; exact h2
    rw [Nat.mod_eq_of_lt h4] at h3
    have h5 := Nat.div_pos h1 (Nat.pow_pos B16_pos)
    omega
  refine ⟨hd, ?_, ?_⟩
  · have a1 := val_split B16 lw n (by have := h.lw_len; omega)
    rw [h.valw, val_drop_rd B16 lw n (by have := h.lw_len; omega), val_drop_rd B16 lw (n + 1) (by have := h.lw_len; omega), List.drop_of_length_le (by have := h.lw_len; omega), e2, e3] at a1
    have b1 := val_split B16 (R D) n (by have := h.ld_len; omega)
    rw [val_R, val_drop_rd B16 (R D) n (by have := h.ld_len; omega), List.drop_of_length_le (by have := h.ld_len; omega), e1] at b1
    have a2 := val_nonneg (h.okw.take n)
    have a3 := val_lt (h.okw.take n)
    have b2 := val_nonneg ((ok_R D).take n)
    rw [List.length_take, Nat.min_eq_left (by have := h.lw_len; omega)] at a3
    obtain ⟨X0, hX0⟩ := Int.eq_ofNat_of_zero_le a2
    obtain ⟨D0, hD0⟩ := Int.eq_ofNat_of_zero_le b2
    rw [hX0] at a1 a3
    rw [hD0] at b1
    simp only [val, Int.mul_zero, Int.add_zero] at a1 b1
    refine est_top (P := B16 ^ n) (D0 := D0) (X0 := X0) ?_ ?_ (by omega) hd
    · have : ((D : Nat) : Int) = ((d1 * B16 ^ n + D0 : Nat) : Int) := by rw [b1, Int.natCast_add, Int.natCast_mul, Int.mul_comm (d1 : Int), Int.add_comm]
      omega
    · have : ((X : Nat) : Int) = (((un * 65536 + u1) * B16 ^ n + X0 : Nat) : Int) := by
        rw [a1, Int.natCast_add, Int.natCast_mul, Int.natCast_add, Int.natCast_mul, Int.mul_comm (((un : Int) * _ + _)), Int.add_comm (X0 : Int), show ((65536 : Nat) : Int) = (B16 : Nat) from rfl, Int.mul_comm (un : Int), Int.add_comm (u1 : Int)]
      omega
  · exact (Nat.div_lt_iff_lt_mul (by omega)).2 (by rw [Nat.mul_comm]; exact h.lt)
theorem rdig_step {B : Nat} {cur lw ld : List Int} {i : Nat} {G ow s : Int} (hi : i < cur.length) (hs : s = rd lw i + ow - G * rd ld i)
    (h : val B (cur.take i) + (B ^ i : Nat) * ow = val B (lw.take i) - G * val B (ld.take i)) :
    val B ((cur.set i (s % B)).take (i + 1)) + (B ^ (i + 1) : Nat) * (s / B) = val B (lw.take (i + 1)) - G * val B (ld.take (i + 1)) := by
  rw [store_step hi, Int.add_assoc, pow_split B i s, hs, val_take_any, val_take_any]
  grind
theorem rdig_end {p : Nat} {v ow : Int} {X D q : Nat} (hv : 0 ≤ v) (hv2 : v < p) (ho : ow ≤ 0) (h : v + p * ow = (X : Int) - q * D) (hq : X / D = q) : v = ((X % D : Nat) : Int) := by
  have h1 := Nat.div_add_mod X D
  rw [hq] at h1
  have h2 : (X : Int) - q * D = ((X % D : Nat) : Int) := by
    have : (X : Int) = ((D * q + X % D : Nat) : Int) := by rw [h1]
    rw [Int.natCast_add, Int.natCast_mul, Int.mul_comm] at this
    omega
  rw [h2] at h
  rcases Int.lt_or_eq_of_le ho with h3 | h3
  · have h4 : (p : Int) * ow ≤ p * (-1) := Int.mul_le_mul_of_nonneg_left (by omega) (by omega)
    omega
  · rw [h3] at h; omega
theorem rLess_at (l : List Int) (u v g m k : Nat) (w : World) (A A' : Option Addr) (c c' : Nat) (hm : l.length = m) (hk : (R v).length = k) (h : Rd w A c l) (h' : Rd w A' c' (R v)) (ho : Ok B16 l) (hu : val B16 l = u) (hg : g < 18446744073709551616) (hs : (R v).length ≤ 2097152) :
    Calls Tryd.prog 132 #[.slice A m c, .slice A' k c', .int .u64 g] w fun e w' => e = .returned (.bool (decide (u < v * g))) ∧ Below w.heap.size w w' := by
  subst hm; subst hk; exact rLess l u v g w A A' c c' h h' ho hu hg hs
set_option maxHeartbeats 2000000 in
set_option maxRecDepth 100000 in
theorem rdigit (w : World) (gb : Nat) (P lw S : List Int) (T : List Value) (A' : Option Addr) (c' cu n X D : Nat) (h : WinR w gb P lw S T A' c' cu n X D) :
    Calls Tryd.prog 124 #[.slice (some ⟨gb, P.length, none⟩) (n + 2) cu, .slice A' (n + 1) c'] w fun e w' => e = .returned (.int .u32 (X / D : Nat)) ∧
      ∃ lw', lw'.length = n + 2 ∧ Ok B16 lw' ∧ val B16 lw' = ((X % D : Nat) : Int) ∧ BlkT w' gb (P ++ lw' ++ S) T ∧ w.grownBy w' (some gb) := by
  have H := Lib.hid h
  have hcap := h.cap
  have hcapm := h.capm
  have hsm := h.small
  obtain ⟨ad, rfl⟩ := h.rdd.some_ (by have := h.ld_len; omega)
  have a1 := (ok_R D).rd B16_pos n
  have a3 := h.okw.rd B16_pos (n + 1)
  have a4 := h.okw.rd B16_pos n
  obtain ⟨d1, e1⟩ := Int.eq_ofNat_of_zero_le a1.1
  obtain ⟨un, e3⟩ := Int.eq_ofNat_of_zero_le a3.1
  obtain ⟨u1, e4⟩ := Int.eq_ofNat_of_zero_le a4.1
  obtain ⟨hd1, hq1, hq2⟩ := h.est e1 e3 e4
  rw [B16_cast, e1] at a1
  rw [B16_cast, e3] at a3
  rw [B16_cast, e4] at a4
  have a1 := a1.2
  have a3 := a3.2
  have a4 := a4.2
  have c1 := h.rdd.cell n (by rw [h.ld_len]; omega)
  have c3 := h.blk.midCell (n + 1) (by rw [h.lw_len]; omega)
  have c4 := h.blk.midCell n (by rw [h.lw_len]; omega)
  rw [e1] at c1
  rw [e3] at c3
  rw [e4] at c4
  obtain ⟨q, hqd⟩ : ∃ q, X / D = q := ⟨_, rfl⟩
  have HQ := Lib.hid hqd
  rw [hqd] at hq1 hq2
  rw [hqd]
  obtain ⟨G0, hG⟩ : ∃ G0 : Int, ((un : Int) * 65536 + (u1 : Int)) / (d1 : Int) = G0 := ⟨_, rfl⟩
  have hq1 : (q : Int) ≤ G0 := by
    rw [← hG, show ((un : Int) * 65536 + (u1 : Int)) / (d1 : Int) = (((un * 65536 + u1) / d1 : Nat) : Int) from by rw [Int.natCast_ediv, Int.natCast_add, Int.natCast_mul]; rfl]
    omega
  obtain ⟨bb, hbb⟩ : ∃ bb, decide (65536 ≤ G0) = bb := ⟨_, rfl⟩
  have HBB := Lib.hid hbb
  clear hqd h e1 e3 e4
  have hz1 : ((d1 : Int) == 0) = false := beq_eq_false_iff_ne.2 (by omega)
  go_enter Tryd.func124, Tryd.ntmps124
  go_wp2
  go_quiet (fail)
  go_upto_if 35 with (fail)
  go_cut [7] (fun v7 wc => ∃ G : Nat, v7 = .int .u64 G ∧ G < 65536 ∧ q ≤ G ∧ ∃ nq, wc = w.drewN nq)
  case first =>
    have hs : (bb = true ∧ 65536 ≤ G0) ∨ (bb = false ∧ G0 < 65536) := by
      have := HBB.out
      by_cases hb : 65536 ≤ G0
      · left; exact ⟨by rw [← this]; exact decide_eq_true hb, hb⟩
      · right; exact ⟨by rw [← this]; exact decide_eq_false hb, by omega⟩
    have HGG := Lib.hid hG
    clear hG hbb
    rcases hs with ⟨rfl, hs⟩ | ⟨rfl, hs⟩
    · have HS := Lib.hid hs
      clear hs
      go_wp2
      go_meet
      case rel => exact ⟨65535, rfl, by omega, by omega, _, rfl⟩
    · obtain ⟨G2, hG2⟩ := Int.eq_ofNat_of_zero_le (show 0 ≤ G0 by omega)
      have HG2 := Lib.hid hG2
      have HS := Lib.hid hs
      clear hG2 hs
      go_wp2
      go_meet
      case rel => exact ⟨G2, by rw [HGG.out, HG2.out], by have := HG2.out; have := HS.out; omega, by have := HG2.out; omega, _, rfl⟩
  case rest =>
    obtain ⟨G1, rfl, hg1, hg2, nr, rfl⟩ := hcut
    clear hG hbb hq1 c1 c3 c4 hz1 a1 a3 a4 hd1
    go_wp2
    go_loopw [7] (fun v7 wr => ∃ G : Nat, v7 = .int .u64 G ∧ G < 65536 ∧ q ≤ G ∧ Hid (Below w.heap.size w wr)) (fun v7 _ => (intOf v7).toNat)
    case atStart => exact ⟨G1, rfl, hg1, hg2, Lib.hid ((Below.refl _ _).drewN _)⟩
    case round =>
      obtain ⟨G, rfl, hG1, hG2, hbel⟩ := hrel
      have RL := Lib.hid ((H.out.blk.below hbel.out).rdMid (by rw [H.out.lw_len]; exact hcap) hcapm)
      have RV := Lib.hid (H.out.rdd.below hbel.out)
      go_wp2_with fail
      refine (rLess_at lw X D G _ _ _ _ _ _ _ H.out.lw_len H.out.ld_len RL.out RV.out H.out.okw H.out.valw (by omega) (by rw [H.out.ld_len]; omega)).mono ?_
      rintro e w2 ⟨rfl, b2⟩
      have B2 := Lib.hid (below_step hbel.out hbel.out.size b2)
      clear b2
      by_cases hlt : X < D * G
      · have hdt : decide (X < D * G) = true := decide_eq_true hlt
        have hg : q < G := by
          have h1 := HQ.out
          rcases Nat.lt_or_ge q G with h2 | h2
          · exact h2
          · have h3 := Nat.div_mul_le_self X D
            have h4 := Nat.mul_le_mul_left D h2
            rw [h1, Nat.mul_comm] at h3
            omega
        rw [hdt]
        clear hlt hdt
        go_wp2
        go_roundw
        case rel => exact ⟨G - 1, by go_num, by omega, by omega, B2⟩
        case measure => simp [intOf]; omega
      · have hdt : decide (X < D * G) = false := decide_eq_false hlt
        have hg : G = q := by
          have h1 := HQ.out
          have hD0 : 0 < D := by
            rcases Nat.eq_zero_or_pos D with h2 | h2
            · have h3 := H.out.lt
              rw [h2] at h3
              simp at h3
            · exact h2
          have h5 : G ≤ X / D := (Nat.le_div_iff_mul_le hD0).2 (by rw [Nat.mul_comm]; omega)
          omega
        rw [hdt]
        clear hlt hdt hG2
        subst hg
        go_wp2
        go_loopw [8, 44] (fun v8 v44 wr => ∃ (i : Nat) (ow : Int) (cur : List Int), i ≤ n + 2 ∧ v44 = .int .i64 i ∧ v8 = .int .i64 ow ∧ -65535 ≤ ow ∧ ow ≤ 0 ∧ Hid (cur.length = n + 2) ∧ Hid (Ok B16 cur) ∧ Hid (cur.drop i = lw.drop i) ∧ Hid (val B16 (cur.take i) + (B16 ^ i : Nat) * ow = val B16 (lw.take i) - G * val B16 ((R D).take i)) ∧ Hid (BlkT wr gb (P ++ cur ++ S) T) ∧ Hid (w.grownBy wr (some gb))) (fun _ v44 _ => n + 2 - (intOf v44).toNat)
        case atStart => exact ⟨0, 0, lw, Nat.zero_le _, rfl, rfl, by omega, by omega, Lib.hid H.out.lw_len, Lib.hid H.out.okw, Lib.hid rfl, Lib.hid (by simp [val]), Lib.hid (H.out.blk.below B2.out), Lib.hid (grown_of_below B2.out _)⟩
        case round =>
          obtain ⟨i, ow, cur, hi, rfl, rfl, o0, o1, hlen, hok, hdrop, hval, hblk, hgr⟩ := hrel
          by_cases hlt : i < n + 2
          · obtain ⟨t3, t4⟩ := hok.out.rd B16_pos i
            rw [B16_cast] at t4
            have hcell := hblk.out.midCell i (by rw [hlen.out]; omega)
            have hfz := hblk.out.frozen (P.length + i)
            by_cases hin : i < n + 1
            · have hc := (H.out.rdd.grown hgr.out H.out.ne).cell i (by rw [H.out.ld_len]; omega)
              obtain ⟨t1, t2⟩ := (ok_R D).rd B16_pos i
              rw [B16_cast] at t2
              obtain ⟨p1, p2⟩ := prod_bd (x := (G : Int)) (y := rd (R D) i) (n := 65535) (by omega) (by omega) t1 (by omega)
              have hstep := rdig_step (G := G) (ld := R D) (s := rd cur i + ow - G * rd (R D) i) (i := i) (by rw [hlen.out]; omega) (by rw [(rd_of_drop hdrop.out).1]) hval.out
              simp only [B16_cast] at hstep
              have HS := Lib.hid hstep
              have hand := i64_and65535 (rd cur i + ow - G * rd (R D) i)
              clear hstep
              go_wp2
              go_roundw
              case rel =>
                exact ⟨i + 1, _, _, by omega, by go_num, rfl, by omega, by omega, Lib.hid (by rw [List.length_set]; exact hlen.out), Lib.hid (hok.out.set i (by omega) (by rw [B16_cast]; omega)),
                  Lib.hid (by rw [drop_set_succ]; exact (rd_of_drop hdrop.out).2), HS, hblk.out.midSet i (by rw [hlen.out]; omega) _, grown_set hgr.out _ _⟩
              case measure => simp [intOf]; omega
            · have hz : rd (R D) i = 0 := rd_ge (by rw [H.out.ld_len]; omega)
              have hstep := rdig_step (G := G) (ld := R D) (s := rd cur i + ow) (i := i) (by rw [hlen.out]; omega) (by rw [(rd_of_drop hdrop.out).1, hz]; omega) hval.out
              simp only [B16_cast] at hstep
              have HS := Lib.hid hstep
              have hand := i64_and65535 (rd cur i + ow)
              clear hstep hz
              go_wp2
              go_roundw
              case rel =>
                exact ⟨i + 1, _, _, by omega, by go_num, rfl, by omega, by omega, Lib.hid (by rw [List.length_set]; exact hlen.out), Lib.hid (hok.out.set i (by omega) (by rw [B16_cast]; omega)),
                  Lib.hid (by rw [drop_set_succ]; exact (rd_of_drop hdrop.out).2), HS, hblk.out.midSet i (by rw [hlen.out]; omega) _, grown_set hgr.out _ _⟩
              case measure => simp [intOf]; omega
          · obtain rfl : i = n + 2 := by omega
            have hv2 := hval.out
            rw [List.take_of_length_le (by rw [hlen.out]; omega), List.take_of_length_le (by rw [H.out.lw_len]; omega), List.take_of_length_le (by rw [H.out.ld_len]; omega), H.out.valw, val_R] at hv2
            have hlt3 := val_lt hok.out
            rw [hlen.out] at hlt3
            have E := Lib.hid (rdig_end (val_nonneg hok.out) hlt3 o1 hv2 HQ.out)
            clear hv2 hlt3
            go_wp2
            go_ret
            exact ⟨rfl, cur, hlen.out, hok.out, E.out, hblk.out, hgr.out⟩
end Go.Proofs.YtfmhplcpejmkhabDoor

namespace Go.Proofs.YtfmhplcpejmkhabDoor
open Go.RowKit Dig
set_option linter.unusedVariables false
set_option linter.unusedSimpArgs false
/-- k digits of the quotient are to come -/
structure DivInvR (A D m lq k : Nat) (lu qv : List Int) : Prop where
  ulen : lu.length = lq + m
  qlen : qv.length = lq
  uok : Ok B16 lu
  qok : Ok B16 qv
  rest : val B16 (lu.drop k) = ((A / B16 ^ k % D : Nat) : Int)
  low : ∀ i, i < k → rd lu i = ((A / B16 ^ i % B16 : Nat) : Int)
  quot : val B16 (qv.drop k) = ((A / B16 ^ k / D : Nat) : Int)
theorem DivInvR.window {A D m lq j : Nat} {lu qv : List Int} (h : DivInvR A D m lq (j + 1) lu qv) (hj : j < lq) (hm : 0 < m) (hD : 0 < D) (hD2 : D < B16 ^ m) :
    val B16 ((lu.drop j).take (m + 1)) = ((A / B16 ^ (j + 1) % D * B16 + A / B16 ^ j % B16 : Nat) : Int) ∧ val B16 (lu.drop (j + (m + 1))) = 0 ∧
    A / B16 ^ (j + 1) % D * B16 + A / B16 ^ j % B16 < D * B16 := by
  have e1 := val_drop_rd B16 lu j (by rw [h.ulen]; omega)
  rw [h.rest, h.low j (by omega)] at e1
  have e2 := val_split B16 (lu.drop j) (m + 1) (by rw [List.length_drop, h.ulen]; omega)
  rw [List.drop_drop] at e2
  have hx := Nat.mod_lt (A / B16 ^ j) B16_pos
  have hr := Nat.mod_lt (A / B16 ^ (j + 1)) hD
  have n1 := val_nonneg ((h.uok.drop j).take (m + 1))
  have n2 := val_nonneg (h.uok.drop (j + (m + 1)))
  generalize A / B16 ^ j % B16 = x at *
  generalize A / B16 ^ (j + 1) % D = r at *
  have hX : r * B16 + x < D * B16 := by
    have := Nat.mul_le_mul_right B16 hr
    rw [Nat.succ_mul] at this
    omega
  have hX2 : D * B16 ≤ B16 ^ (m + 1) := by
    rw [Nat.pow_succ B16 m]
    exact Nat.mul_le_mul_right _ (Nat.le_of_lt hD2)
  have e3 : val B16 (lu.drop j) = ((r * B16 + x : Nat) : Int) := by
    rw [e1, Int.natCast_add, Int.natCast_mul, Int.mul_comm (r : Int), Int.add_comm]
  have hS : val B16 (lu.drop (j + (m + 1))) = 0 := by
    by_cases h1 : 0 < val B16 (lu.drop (j + (m + 1)))
    · have h2 : ((B16 ^ (m + 1) : Nat) : Int) * 1 ≤ (B16 ^ (m + 1) : Nat) * val B16 (lu.drop (j + (m + 1))) := Int.mul_le_mul_of_nonneg_left (by omega) (by omega)
      omega
    · omega
  refine ⟨?_, hS, hX⟩
  rw [hS, Int.mul_zero, Int.add_zero] at e2
  rw [← e2, e3]
theorem DivInvR.step {A D m lq j X : Nat} {lu qv lw' : List Int} (h : DivInvR A D m lq (j + 1) lu qv) (hj : j < lq) (hD : 0 < D)
    (hX : X = A / B16 ^ (j + 1) % D * B16 + A / B16 ^ j % B16) (hS : val B16 (lu.drop (j + (m + 1))) = 0)
    (hl : lw'.length = m + 1) (ho : Ok B16 lw') (hv : val B16 lw' = ((X % D : Nat) : Int)) (hm : 0 < m) :
    DivInvR A D m lq j (lu.take j ++ lw' ++ lu.drop (j + (m + 1))) (qv.set j (X / D : Nat)) ∧ X / D < B16 := by
  have hx := Nat.mod_lt (A / B16 ^ j) B16_pos
  have hr := Nat.mod_lt (A / B16 ^ (j + 1)) hD
  have hdig : X / D < B16 := by rw [hX]; exact div_digit hr hx
  obtain ⟨q1, q2⟩ := div_high (H := A / B16 ^ (j + 1)) (x := A / B16 ^ j % B16) (B := B16) hD
  rw [← high_step, ← hX] at q1 q2
  have hlen := h.ulen
  have tl : (lu.take j).length = j := by rw [List.length_take]; omega
  refine ⟨⟨?_, ?_, ?_, ?_, ?_, ?_, ?_⟩, hdig⟩
  · simp [hl, hlen]; omega
  · rw [List.length_set]; exact h.qlen
  · exact ((h.uok.take j).app ho).app (h.uok.drop _)
  · exact h.qok.set _ (Int.natCast_nonneg _) (Int.ofNat_lt.2 hdig)
  · rw [List.append_assoc, List.drop_append, List.drop_of_length_le (by omega), List.nil_append, tl, Nat.sub_self, List.drop_zero, val_append, hS, hv, q2]
    simp
  · intro i hi
    rw [← h.low i (by omega)]
    rw [List.append_assoc, rd_append_left _ _ (by omega), rd_take _ hi]
  · rw [drop_set_step (by rw [h.qlen]; exact hj), h.quot, q1, Int.natCast_add, Int.natCast_mul, Int.mul_comm ((B16 : Nat) : Int), Int.add_comm]
theorem DivInvR.start {A D m lq : Nat} (hl : (R A).length + 1 = lq + m) (hD : A / B16 ^ lq < D) : DivInvR A D m lq lq (R A ++ [0]) (List.replicate lq 0) := by
  refine ⟨by simp [hl], by simp, (ok_R A).snoc (by omega) (by unfold B16; omega), Ok.replicate B16_pos _, ?_, ?_, ?_⟩
  · rw [Nat.mod_eq_of_lt hD]
    have e : ∀ k, val B16 ((R A ++ [0]).drop k) = val B16 ((R A).drop k) := by
      intro k
      rw [List.drop_append]
      rcases Nat.lt_or_ge k (R A).length with h | h
      · rw [show k - (R A).length = 0 from by omega]; exact dig_strip _
      · rw [List.drop_of_length_le h, List.nil_append]
        have e2 : List.drop (k - (R A).length) [(0 : Int)] = List.replicate (1 - (k - (R A).length)) 0 := by
          rw [show [(0 : Int)] = List.replicate 1 0 from rfl, List.drop_replicate]
        rw [e2, val_replicate]; rfl
    rw [e]
    unfold R
    rw [dig_drop B16_two, val_dig B16_two]
  · intro i _
    rw [← R_rd]
    rcases Nat.lt_or_ge i (R A).length with h | h
    · exact rd_append_left _ _ h
    · rw [rd_ge h]
      rcases Nat.lt_or_ge i ((R A).length + 1) with h2 | h2
      · obtain rfl : i = (R A).length := by omega
        simp [rd, List.getD_eq_getElem?_getD]
      · exact rd_ge (by simp; omega)
  · rw [List.drop_of_length_le (by simp), Nat.div_eq_of_lt hD]; rfl
theorem DivInvR.final {A D m lq : Nat} {lu qv : List Int} (h : DivInvR A D m lq 0 lu qv) (hD : 0 < D) (hD2 : D < B16 ^ m) : val B16 qv = ((A / D : Nat) : Int) ∧ val B16 (lu.take m) = ((A % D : Nat) : Int) := by
  have v1 := h.quot
  have v2 := h.rest
  rw [List.drop_zero, Nat.pow_zero, Nat.div_one] at v1 v2
  refine ⟨v1, ?_⟩
  have e2 := val_split B16 lu m (by rw [h.ulen]; omega)
  have n1 := val_nonneg (h.uok.take m)
  have n2 := val_nonneg (h.uok.drop m)
  have hr := Nat.mod_lt A hD
  have hS : val B16 (lu.drop m) = 0 := by
    by_cases h1 : 0 < val B16 (lu.drop m)
    · have h2 : ((B16 ^ m : Nat) : Int) * 1 ≤ (B16 ^ m : Nat) * val B16 (lu.drop m) := Int.mul_le_mul_of_nonneg_left (by omega) (by omega)
      omega
    · omega
  rw [hS, Int.mul_zero, Int.add_zero, v2] at e2
  exact e2.symm
theorem Own.blkT {w : World} {B : Nat} {v : Value} {l : List Int} (h : Own w B v l) (hl : 0 < l.length) : ∃ g c T, v = .slice (some ⟨g, 0, none⟩) l.length c ∧ B ≤ g ∧ BlkT w g l T ∧ l.length ≤ c ∧ c ≤ 9223372036854775807 := by
  rcases h.2 with ⟨e, h0⟩ | ⟨g, cap, cur, e, hb, hg, hn, hm, hs, ht⟩
  · omega
  · refine ⟨g, cap, cur.toList.drop l.length, e, hb, ?_, hn, by simpa [maxLen] using hm⟩
    unfold BlkT
    rw [hg, Nat.mul_one] at *
    rw [← ht, List.take_append_drop]
theorem rDiv_lt (a b : Nat) (w : World) (A A' : Option Addr) (c c' : Nat) (h : Rd w A c (R a)) (h' : Rd w A' c' (R b)) (hs : (R a).length ≤ 2000000) (hlt : a < b) :
    Calls Tryd.prog 107 #[.slice A (R a).length c, .slice A' (R b).length c'] w fun e w' => ∃ A c A' c', e = .returned (.tuple #[.slice A (R (a / b)).length c, .slice A' (R (a % b)).length c']) ∧ Rd w' A c (R (a / b)) ∧ Rd w' A' c' (R (a % b)) ∧ Below w.heap.size w w' := by
  have H0 := Lib.hid h
  have H1 := Lib.hid h'
  clear h h'
  have HC := Lib.hid (cmpI_lt hlt)
  have hz : (((R b).length : Int) == 0) = false := by
    rw [beq_eq_false_iff_ne]
    intro e
    have := R_length_zero (a := b) (by omega)
    omega
  have hlt2 := Lib.hid hlt
  obtain ⟨i0, hi0, hz0, hz1, hz2⟩ := info_parts info32
  rw [Nat.div_eq_of_lt hlt, Nat.mod_eq_of_lt hlt, R_zero]
  clear hlt
  go_enter Tryd.func107, Tryd.ntmps107
  go_wp2_with fail
  refine (rCmp a b _ _ _ _ _ H0.out H1.out).mono ?_
  rintro e w1 ⟨rfl, hb1⟩
  have HB := Lib.hid hb1
  have H0 := Lib.hid (H0.out.below hb1)
  clear hb1
  rw [HC.out]
  have hb := Lib.hid (below_step HB.out HB.out.size (below_alloc w1 (.cells #[] 72)))
  have hO := Lib.hid (World.ownsRow_made (base := w1.heap.size) (e := 72) (size := 1) w1 #[] 0 (Nat.le_refl _) (Nat.zero_le _) rfl)
  rcases A with _ | ad
  · have hnil : (R a) = [] := by
      rcases Nat.eq_zero_or_pos (R a).length with h0 | h0
      · exact List.eq_nil_of_length_eq_zero h0
      · obtain ⟨ad, e⟩ := H0.out.some_ h0; cases e
    have HN := Lib.hid hnil
    rw [hnil]
    clear hnil hz
    go_wp2_with (at_builtin; refine wpList_append_nil rfl _ _ 37 rfl w1.heap.size 72 i0 1 (by kernel_rfl) hi0 _ 0 c [] rfl hO.out rfl ?_)
    go_wp2
    go_ret2
    exact ⟨none, 0, some ⟨w1.heap.size, 0, none⟩, 0, by rw [HN.out]; rfl, Rd.nil _ none 0 (by omega), by rw [HN.out]; exact Rd.nil _ _ _ (by omega), hb.out⟩
  · have H := Lib.hid (H0.out.below (below_alloc w1 (.cells #[] 72)))
    go_wp2_with (at_builtin; refine wpList_append_own _ rfl _ _ 37 rfl w1.heap.size 72 i0 (.int .u32 0) 1 4 (by kernel_rfl) hi0 hz0 hz1 hz2 rfl (by decide) _ 0 [] rfl hO.out ad (R a).length c ((R a).map (Value.int .u32)) rfl (by simp) H.out.news (oneCell_u32 _) (by unfold maxLen; omega) (by omega) (by simp) ?_)
    intro v' w2 hown1 hgrow _
    have P1 := Lib.hid (Own.of_append hown1 (l := R a) (by simp) (by simp))
    have P2 := Lib.hid (hb.out.grown hgrow (by simp; have := HB.out.size; omega) (fun k hk => by simp [Value.ownBlock] at hk; subst hk; exact HB.out.size))
    clear hown1 hgrow
    obtain ⟨A9, c9, rfl, hr⟩ := P1.out.rd
    have HR := Lib.hid hr
    clear hr
    go_wp2
    go_ret2
    exact ⟨none, 0, A9, c9, rfl, Rd.nil _ _ _ (by omega), HR.out, P2.out⟩
theorem R_length_one {a : Nat} (h : (R a).length = 1) : rd (R a) 0 = a := by
  have h2 := lt_pow_length B16_two a
  rw [show (dig B16 a).length = 1 from h, Nat.pow_one] at h2
  rw [R_rd, Nat.pow_zero, Nat.div_one, Nat.mod_eq_of_lt h2]
set_option maxHeartbeats 1000000 in
theorem rDiv_one (a b : Nat) (w : World) (A A' : Option Addr) (c c' : Nat) (h : Rd w A c (R a)) (h' : Rd w A' c' (R b)) (hs : (R a).length ≤ 2000000) (hle : b ≤ a) (h1 : (R b).length = 1) :
    Calls Tryd.prog 107 #[.slice A (R a).length c, .slice A' (R b).length c'] w fun e w' => ∃ A c A' c', e = .returned (.tuple #[.slice A (R (a / b)).length c, .slice A' (R (a % b)).length c']) ∧ Rd w' A c (R (a / b)) ∧ Rd w' A' c' (R (a % b)) ∧ Below w.heap.size w w' := by
  have H0 := Lib.hid h
  have H1 := Lib.hid h'
  have hb0 : rd (R b) 0 = b := R_length_one h1
  have hbt := (ok_R b).rd B16_pos 0
  rw [hb0, B16_cast] at hbt
  have hbz : b ≠ 0 := by rintro rfl; simp [R_zero] at h1
  have hc : 0 ≤ cmpI a b := by unfold cmpI; rw [if_neg (by omega)]; split <;> omega
  have hl1 : (((R b).length : Int) == 1) = true := by rw [beq_iff_eq]; omega
  have hl0 : (((R b).length : Int) == 0) = false := by rw [beq_eq_false_iff_ne]; omega
  have HL := Lib.hid h1
  have HB0 := Lib.hid hb0
  have hlen : 0 < (R b).length := by omega
  have hb32 : b < 65536 := by omega
  obtain ⟨ad, rfl⟩ := h'.some_ hlen
  clear h h' h1 hb0 hle hbt
  go_enter Tryd.func107, Tryd.ntmps107
  go_wp2_with fail
  refine (rCmp a b _ _ _ _ _ H0.out H1.out).mono ?_
  rintro e w1 ⟨rfl, hb1⟩
  have HB := Lib.hid hb1
  have H0' := Lib.hid (H0.out.below hb1)
  have hcell := (H1.out.below hb1).cell 0 hlen
  rw [HB0.out] at hcell
  replace hcell : w1.cell? ad = some (.int .u32 b) := by simpa [Addr.add] using hcell
  clear hb1
  go_wp2_with fail
  refine (rSmall a b _ _ _ H0'.out (by omega) (by omega) hb32).mono ?_
  rintro e w2 ⟨A2, c2, rfl, hr2, hb2⟩
  have HR2 := Lib.hid hr2
  have HB2 := Lib.hid hb2
  clear hr2 hb2 hcell
  have hm := Nat.mod_lt a (show 0 < b by omega)
  go_wp2_with fail
  refine (rNatOf (a % b) _ (by omega)).mono ?_
  rintro e w3 ⟨A3, c3, rfl, hr3, hb3⟩
  have HR3 := Lib.hid hr3
  have HB3 := Lib.hid hb3
  clear hr3 hb3
  go_wp2
  go_ret2
  refine ⟨_, _, _, _, rfl, HR2.out.below HB3.out, HR3.out, ?_⟩
  exact below_step (below_step HB.out HB.out.size HB2.out) (Nat.le_trans HB.out.size HB2.out.size) HB3.out

theorem norm_facts16 {a b m s : Nat} (hb : 0 < b) (hle : b ≤ a) (hm : (R (b * 2 ^ s)).length = m) :
    0 < b * 2 ^ s ∧ b * 2 ^ s < B16 ^ m ∧ m ≤ (R (a * 2 ^ s)).length ∧ ∀ lq, (R (a * 2 ^ s)).length + 1 = lq + m → a * 2 ^ s / B16 ^ lq < b * 2 ^ s := by
  have h0 : 0 < b * 2 ^ s := Nat.mul_pos hb (Nat.two_pow_pos s)
  have h1 : b * 2 ^ s < B16 ^ m := by rw [← hm]; exact lt_pow_length B16_two _
  have h2 : m ≤ (R (a * 2 ^ s)).length := by rw [← hm]; exact dig_length_mono B16_two (Nat.mul_le_mul_right _ hle)
  refine ⟨h0, h1, h2, fun lq hl => ?_⟩
  have h3 := lt_pow_length B16_two (a * 2 ^ s)
  have h4 := pow_length_le B16_two (n := b * 2 ^ s) (by omega)
  rw [show (dig B16 (b * 2 ^ s)).length = m from hm] at h4
  rw [show (dig B16 (a * 2 ^ s)).length = lq + m - 1 from by unfold R at hl; omega] at h3
  have hm0 : 0 < m := by
    rcases Nat.eq_zero_or_pos m with h | h
    · rw [h, Nat.pow_zero] at h1; omega
    · exact h
  refine Nat.lt_of_lt_of_le ?_ h4
  rw [Nat.div_lt_iff_lt_mul (Nat.pow_pos B16_pos), ← Nat.pow_add, show m - 1 + lq = lq + m - 1 from by omega]
  exact h3
theorem R_shl_length {a s k : Nat} (hk : (R a).length ≤ k) (hs : s ≤ 16) : (R (a * 2 ^ s)).length ≤ k + 1 := by
  refine (dig_length_le B16_two _ _).2 ?_
  have h1 := lt_pow_length B16_two a
  have h2 : B16 ^ (dig B16 a).length ≤ B16 ^ k := Nat.pow_le_pow_right B16_pos hk
  have h3 : 2 ^ s ≤ B16 := Nat.pow_le_pow_right (n := 2) (by omega) hs
  rw [Nat.pow_succ]
  exact Nat.lt_of_lt_of_le (Nat.mul_lt_mul_of_pos_right h1 (Nat.two_pow_pos s)) (Nat.mul_le_mul (by omega) h3)
theorem rdigit_at (w : World) (gb j m : Nat) (P lw S : List Int) (T : List Value) (A' : Option Addr) (c' cu n X D : Nat) (hP : P.length = j) (hm : m = n + 1) (h : WinR w gb P lw S T A' c' cu n X D) :
    Calls Tryd.prog 124 #[.slice (some ⟨gb, j, none⟩) (m + 1) cu, .slice A' m c'] w fun e w' => e = .returned (.int .u32 (X / D : Nat)) ∧
      ∃ lw', lw'.length = m + 1 ∧ Ok B16 lw' ∧ val B16 lw' = ((X % D : Nat) : Int) ∧ BlkT w' gb (P ++ lw' ++ S) T ∧ w.grownBy w' (some gb) := by
  subst hP; subst hm; exact rdigit w gb P lw S T A' c' cu n X D h
theorem rTrim_at (m : Nat) (w : World) (A : Option Addr) (l : List Int) (c N : Nat) (hm : l.length = m) (h : Rd w A c l) (hs : strip l = R N) :
    Calls Tryd.prog 105 #[.slice A m c] w fun e w' => e = .returned (.slice A (R N).length c) ∧ w = w' := by
  subst hm; rw [← hs]; exact rTrim w A l c h
theorem rShr_at (x k : Nat) (w : World) (A : Option Addr) (c : Nat) (h : Rd w A c (R (x * 2 ^ k))) (hs : (R (x * 2 ^ k)).length ≤ 2097152) (hn : k ≤ 33554432) :
    Calls Tryd.prog 125 #[.slice A (R (x * 2 ^ k)).length c, .int .i64 k] w fun e w' => ∃ A c, e = .returned (.slice A (R x).length c) ∧ Rd w' A c (R x) ∧ Below w.heap.size w w' := by
  have := rShr (x * 2 ^ k) k w A c h hs hn
  rwa [Nat.mul_div_cancel _ (Nat.two_pow_pos k)] at this
set_option maxHeartbeats 4000000 in
set_option maxRecDepth 100000 in
theorem rDiv_big (a b : Nat) (w : World) (A A' : Option Addr) (c c' : Nat) (h : Rd w A c (R a)) (h' : Rd w A' c' (R b)) (hs : (R a).length ≤ 2000000) (hle : b ≤ a) (hn : 2 ≤ (R b).length) :
    Calls Tryd.prog 107 #[.slice A (R a).length c, .slice A' (R b).length c'] w fun e w' => ∃ A c A' c', e = .returned (.tuple #[.slice A (R (a / b)).length c, .slice A' (R (a % b)).length c']) ∧ Rd w' A c (R (a / b)) ∧ Rd w' A' c' (R (a % b)) ∧ Below w.heap.size w w' := by
  have H0 := Lib.hid h
  have H1 := Lib.hid h'
  have hc : 0 ≤ cmpI a b := by unfold cmpI; rw [if_neg (by omega)]; split <;> omega
  have hl1 : ((((R b).length : Nat) : Int) == 1) = false := by rw [beq_eq_false_iff_ne]; omega
  have hl0 : ((((R b).length : Nat) : Int) == 0) = false := by rw [beq_eq_false_iff_ne]; omega
  have hl : (R b).length ≤ (R a).length := dig_length_mono B16_two hle
  obtain ⟨t, ht, ht0, ht1, _⟩ := R_top (a := b) (by omega)
  have hb0 : 0 < b := by
    rcases Nat.eq_zero_or_pos b with hz | hz
    · subst hz; rw [R_zero] at hn; simp at hn
    · exact hz
  have HB0 := Lib.hid hb0
  have HLE := Lib.hid hle
  obtain ⟨ad, rfl⟩ := h'.some_ (by omega)
  have hcell0 := h'.cell ((R b).length - 1) (by omega)
  rw [ht] at hcell0
  have HC0 := Lib.hid hcell0
  have hcc := h'.le
  have hcm := h'.max
  obtain ⟨i0, hi0, hz0, hz1, hz2⟩ := info_parts info32
  clear h h' hle hcell0 ht hb0
  go_enter Tryd.func107, Tryd.ntmps107
  go_wp2_with fail
  refine (rCmp a b _ _ _ _ _ H0.out H1.out).mono ?_
  rintro e w1 ⟨rfl, hb1⟩
  have B1 := Lib.hid hb1
  have hcell := (cell_later hb1 HC0.out)
  clear hb1
  go_wp2_with fail
  go_loop [8] (fun v8 => ∃ (k : Nat), v8 = .int .i64 k ∧ k ≤ 15 ∧ Hid (t * 2 ^ k < 65536)) (fun v8 => 15 - (intOf v8).toNat)
  case atStart => exact ⟨0, rfl, by omega, Lib.hid (by simpa using ht1)⟩
  case round =>
    obtain ⟨k, rfl, hk, hkt⟩ := hrel
    obtain ⟨M, hM, hM2, hM3, hM4⟩ := pow_two_bd16 (r := k) (by omega)
    rw [← hM2] at hkt
    have HM2 := Lib.hid hM2
    obtain ⟨Z, hZ⟩ : ∃ Z : Int, (t : Int) * (M : Int) = Z := ⟨_, rfl⟩
    have hZ2 : Z = ((t * M : Nat) : Int) := by rw [← hZ, Int.natCast_mul]
    have hZ0 : 0 ≤ Z := by rw [hZ2]; omega
    have hZ1 : Z < 65536 := by rw [hZ2]; have := hkt.out; omega
    have HZ2 := Lib.hid hZ2
    obtain ⟨bb, hbb⟩ : ∃ bb, decide (Z < 32768) = bb := ⟨_, rfl⟩
    have hs9 : (bb = true ∧ Z < 32768) ∨ (bb = false ∧ ¬ Z < 32768) := by
      by_cases hb : Z < 32768
      · left; exact ⟨by rw [← hbb]; exact decide_eq_true hb, hb⟩
      · right; exact ⟨by rw [← hbb]; exact decide_eq_false hb, hb⟩
    have HS9 := Lib.hid hs9
    have ht2 : 1 ≤ t := by omega
    clear hM2 hZ2 hs9 ht0
    rcases HS9.out with ⟨rfl, hs9⟩ | ⟨rfl, hs9⟩
    · have hk2 : k < 15 := by
        rcases Nat.lt_or_ge k 15 with h | h
        · exact h
        · obtain rfl : k = 15 := by omega
          have h1 := HM2.out
          have h2 := HZ2.out
          subst h1
          omega
      have HK := Lib.hid (show t * 2 ^ (k + 1) < 65536 by
        have h1 := HM2.out
        have h2 := HZ2.out
        rw [Nat.pow_succ, ← h1, ← Nat.mul_assoc]
        omega)
      clear hs9
      go_wp2
      go_round
      case rel => exact ⟨k + 1, by go_num, by omega, HK⟩
      case measure => simp [intOf]; omega
    · clear hs9
      go_wp2_with fail
      refine (rShl b k _ _ _ (H1.out.below B1.out) (by omega) (by omega)).mono ?_
      rintro e w3 ⟨A3, c3, rfl, hr3, hb3⟩
      clear hM hM3 hM4 hZ hZ0 hZ1 hbb ht2 hcell
      obtain ⟨m, hm⟩ : ∃ m, (R (b * 2 ^ k)).length = m := ⟨_, rfl⟩
      obtain ⟨f1, f2, f3, f4⟩ := norm_facts16 HB0.out HLE.out hm
      have f5 : (R (a * 2 ^ k)).length ≤ 2000001 := R_shl_length hs (by omega)
      obtain ⟨LA, hLA⟩ : ∃ LA, (R (a * 2 ^ k)).length = LA := ⟨_, rfl⟩
      obtain ⟨lq, hlq⟩ : ∃ lq, LA + 1 = lq + m := ⟨LA + 1 - m, by omega⟩
      have hm0 : 1 ≤ m := by
        rcases Nat.eq_zero_or_pos m with h | h
        · rw [h, Nat.pow_zero] at f2; omega
        · exact h
      have F4 := Lib.hid (f4 lq (by omega))
      have hcc3 := hr3.le
      have hcm3 := hr3.max
      obtain ⟨ad3, rfl⟩ := hr3.some_ (by omega)
      rw [hm] at hcc3 ⊢
      rw [hLA] at f3 f5
      have F1 := Lib.hid f1
      have F2 := Lib.hid f2
      have HR3 := Lib.hid hr3
      have HM := Lib.hid hm
      have HLA := Lib.hid hLA
      have HLQ := Lib.hid hlq
      have hlq1 : LA + 1 ≤ lq + m := by omega
      have hlq2 : lq + m ≤ LA + 1 := by omega
      have B3 := Lib.hid (below_step B1.out B1.out.size hb3)
      clear hr3 hb3 hm hLA hlq f1 f2 f4
      go_wp2_with fail
      refine (rShlOwn a k _ _ _ (H0.out.below B3.out) (by omega) (by omega)).mono ?_
      rintro e w4 ⟨v4, rfl, o4, b4⟩
      have O4 := Lib.hid o4
      have B4 := Lib.hid b4
      have hsz4 := b4.size
      have hll : (R (a * 2 ^ k)).length ≤ 2000001 := by rw [HLA.out]; exact f5
      clear o4 b4
      go_wp2_with (at_builtin; refine wpList_append_own _ rfl _ _ 37 rfl w3.heap.size 72 i0 (.int .u32 0) 1 4 (by kernel_rfl) hi0 hz0 hz1 hz2 rfl (by decide) _ _ _ rfl (O4.out.alloc _) ⟨w4.heap.size, 0, none⟩ 1 1 [.int .u32 0] rfl rfl (rd_single _ _) (one_single _) (by unfold maxLen; omega) (by omega) (by simp; omega) ?_)
      intro v5 w5 hown5 hgrow5 _
      obtain ⟨p1, p2⟩ := O4.out.push B4.out hsz4 hown5 hgrow5
      have hst := DivInvR.start (A := a * 2 ^ k) (D := b * 2 ^ k) (m := m) (lq := lq) (by rw [HLA.out]; exact HLQ.out) F4.out
      have hlu : (R (a * 2 ^ k) ++ [0]).length = LA + 1 := by rw [List.length_append, HLA.out]; rfl
      generalize R (a * 2 ^ k) ++ [0] = lu0 at p1 hst hlu
      obtain ⟨g, c5, T, e5, hg, hbt, hc5, hcm5⟩ := p1.blkT (by omega)
      rw [hlu] at e5 hc5
      subst e5
      have HST := Lib.hid hst
      have HBT := Lib.hid hbt
      have B5 := Lib.hid p2
      have HR5 := Lib.hid (HR3.out.below p2)
      have hg5 := hbt.lt
      have hgad : ad3.block < g := by
        have := HR3.out.block_lt (by rw [HM.out]; omega)
        omega
      clear p1 p2 hst hlu hown5 hgrow5 hbt hll
      have hmk := make_rn lq ((LA : Int) + 1 - (m : Int)) (by omega) (by omega)
      go_wp2_with fail
      go_loopw [13] (fun v13 wr => ∃ (j : Nat) (lu qv : List Int), j ≤ lq ∧ v13 = .int .i64 ((j : Int) - 1) ∧ Hid (DivInvR (a * 2 ^ k) (b * 2 ^ k) m lq j lu qv) ∧ Hid (BlkT wr g lu T) ∧ Hid (Blk wr w5.heap.size qv) ∧ Hid (Below w3.heap.size w3 wr)) (fun v13 _ => (intOf v13 + 1).toNat)
      case atStart => exact ⟨lq, _, _, Nat.le_refl _, by first | rfl | (go_num; done) | exact congrArg (Value.int .i64) (by omega), HST, Lib.hid (HBT.out.below (below_alloc _ _)), Lib.hid (Blk.made _ _), Lib.hid (below_step B5.out B5.out.size (below_alloc _ _))⟩
      case round =>
        obtain ⟨j1, lu, qv, hj, rfl, hinv, hbu, hbq, hbel⟩ := hrel
        by_cases hlt : 0 < j1
        · obtain ⟨j, rfl⟩ : ∃ j, j1 = j + 1 := ⟨j1 - 1, by omega⟩
          have hki : ((j + 1 : Nat) : Int) - 1 = (j : Int) := by omega
          rw [hki]
          clear hki hmk
          obtain ⟨x1, x2, x3⟩ := hinv.out.window (by omega) hm0 F1.out F2.out
          obtain ⟨X, hX⟩ : ∃ X, a * 2 ^ k / B16 ^ (j + 1) % (b * 2 ^ k) * B16 + a * 2 ^ k / B16 ^ j % B16 = X := ⟨_, rfl⟩
          rw [hX] at x1 x3
          have hwin : WinR wr g (lu.take j) ((lu.drop j).take (m + 1)) (lu.drop (j + (m + 1))) T (some ad3) c3 (c5 - j) (m - 1) X (b * 2 ^ k) := by
            have ul := hinv.out.ulen
            refine ⟨by rw [← take_drop_window]; exact hbu.out, HR3.out.below hbel.out, ?_, ?_, ?_, (hinv.out.uok.drop j).take _, x1, x3, by omega, by omega, by omega⟩
            · intro ad' e
              cases e; omega
            · rw [List.length_take, List.length_drop]; omega
            · rw [HM.out]; omega
          have hPl : (lu.take j).length = j := by have := hinv.out.ulen; rw [List.length_take]; omega
          have HW := Lib.hid hwin
          have HPL := Lib.hid hPl
          have HSTEP := Lib.hid (fun lw' h1 h2 h3 => hinv.out.step (lw' := lw') (by omega) F1.out hX.symm x2 h1 h2 h3 hm0)
          clear x1 x2 x3 hX hwin hPl
          go_wp2_with fail
          rw [show j + m + 1 - j = m + 1 from by omega]
          refine (rdigit_at _ _ _ _ _ _ _ _ _ _ _ _ _ _ HPL.out (by omega) HW.out).mono ?_
          rintro e w7 ⟨rfl, lw', l1, l2, l3, l4, l5⟩
          obtain ⟨st, hdig⟩ := HSTEP.out lw' l1 l2 l3
          have hq7 := hbq.out.grown l5 (by omega)
          have hcell := hq7.cell j (by rw [hinv.out.qlen]; omega)
          have hfz := hq7.frozen j
          obtain ⟨Q, hQ⟩ : ∃ Q, X / (b * 2 ^ k) = Q := ⟨_, rfl⟩
          rw [hQ] at st hdig
          rw [hQ]
          have ST := Lib.hid st
          have HU := Lib.hid (l4.other (w' := w7.setCell ⟨w5.heap.size, j, none⟩ (.int .u32 (Q : Nat))) (Below.heap_setCell _ _ _ _ (by show g ≠ w5.heap.size; omega)))
          have HQ7 := Lib.hid (hq7.set j (Q : Nat))
          have HW7 := Lib.hid ((hbel.out.grown l5 hbel.out.size (by intro k hk; cases hk; exact hg)).setCell (p := ⟨w5.heap.size, j, none⟩) (by show w3.heap.size ≤ w5.heap.size; omega) (.int .u32 (Q : Nat)))
          clear st l1 l2 l3 l4 l5 hQ hq7
          go_wp2
          go_roundw
          case rel => exact ⟨j, _, _, by omega, rfl, ST, HU, HQ7, HW7⟩
          case measure => simp [intOf]
        · obtain rfl : j1 = 0 := by omega
          obtain ⟨v1, v2⟩ := hinv.out.final F1.out F2.out
          rw [Nat.mul_div_mul_right _ _ (Nat.two_pow_pos k)] at v1
          rw [Nat.mul_mod_mul_right] at v2
          have hql := hinv.out.qlen
          have S1 := Lib.hid (strip_R hinv.out.qok v1)
          have S2 := Lib.hid (strip_R (hinv.out.uok.take m) v2)
          have QL := Lib.hid hql
          have RQ := Lib.hid (hbq.out.rd lq (by omega) (by omega))
          have RU := Lib.hid ((hbu.out.rd (c := c5) (by have := hinv.out.ulen; omega) hcm5).take m)
          have UL := Lib.hid (show (lu.take m).length = m by have := hinv.out.ulen; rw [List.length_take]; omega)
          clear v1 v2 hql hmk
          go_wp2_with fail
          have hmi : (0 : Int) ≤ (m : Int) := by omega
          have hmc : (m : Int) ≤ (c5 : Int) := by omega
          have hl9 : (R (a % b * 2 ^ k)).length ≤ 2097152 := by
            have h1 : (R (a % b * 2 ^ k)).length ≤ (R (a * 2 ^ k)).length := dig_length_mono B16_two (Nat.mul_le_mul_right _ (Nat.mod_le _ _))
            have := HLA.out
            omega
          have BL := Lib.hid (below_step B3.out B3.out.size hbel.out)
          have RQ := Lib.hid (RQ.out.below (Below.refl _ _).drew)
          have RU := Lib.hid (RU.out.below (Below.refl _ _).drew)
          go_region_held3 (fun W' => True) (trivial)
            (first
              | (go_at_call_of 105 (Value.slice (some ⟨w5.heap.size, 0, none⟩) lq lq)
                 refine (rTrim_at lq _ _ qv lq (a / b) QL.out RQ.out S1.out).mono ?_
                 rintro e w' ⟨rfl, rfl⟩)
              | (go_at_call 105
                 refine (rTrim_at m _ _ (lu.take m) c5 (a % b * 2 ^ k) UL.out RU.out S2.out).mono ?_
                 rintro e w' ⟨rfl, rfl⟩)
              | (go_at_call 125
                 refine (rShr_at (a % b) k _ _ _ (by rw [← S2.out]; exact RU.out.strip) hl9 (by omega)).mono ?_
                 rintro e w9 ⟨A9, c9, rfl, hr9, hb9⟩))
          go_wp2
          go_ret2
          refine ⟨_, _, _, _, rfl, ?_, hr9, ?_⟩
          · rw [← S1.out]; exact RQ.out.strip.below hb9
          · exact below_step (BL.out.drew) BL.out.size hb9
theorem rDiv (a b : Nat) (w : World) (A A' : Option Addr) (c c' : Nat) (h : Rd w A c (R a)) (h' : Rd w A' c' (R b)) (hs : (R a).length ≤ 2000000) (hb : 0 < b) :
    Calls Tryd.prog 107 #[.slice A (R a).length c, .slice A' (R b).length c'] w fun e w' => ∃ A c A' c', e = .returned (.tuple #[.slice A (R (a / b)).length c, .slice A' (R (a % b)).length c']) ∧ Rd w' A c (R (a / b)) ∧ Rd w' A' c' (R (a % b)) ∧ Below w.heap.size w w' := by
  rcases Nat.lt_or_ge a b with hlt | hle
  · exact rDiv_lt a b w A A' c c' h h' hs hlt
  · by_cases h1 : (R b).length = 1
    · exact rDiv_one a b w A A' c c' h h' hs hle h1
    · have h0 : (R b).length ≠ 0 := by
        intro e
        have := R_length_zero (a := b) (by omega)
        omega
      exact rDiv_big a b w A A' c c' h h' hs hle (by omega)
end Go.Proofs.YtfmhplcpejmkhabDoor

namespace Go.Proofs.YtfmhplcpejmkhabDoor
set_option linter.unusedVariables false

/-- a number with a sign -/
def sg (s : Bool) (a : Nat) : Int := if s then -(a : Int) else a
theorem sg_abs (s : Bool) (a : Nat) : (sg s a).natAbs = a := by unfold sg; split <;> omega
theorem sg_zero (s : Bool) : sg s 0 = 0 := by unfold sg; split <;> rfl
/-- the sign of a rational number, as the program has it -/
def ng (q : Rat) : Bool := decide (q.num < 0)
theorem sg_ng (q : Rat) : sg (ng q) q.num.natAbs = q.num := by
  unfold sg ng
  by_cases h : q.num < 0
  · rw [if_pos (by simpa using h)]; omega
  · rw [if_neg (by simpa using h)]; omega
theorem mk_ng (q : Rat) : mkRat (sg (ng q) q.num.natAbs) q.den = q := by rw [sg_ng, Rat.mkRat_self]
theorem sg_div (s : Bool) (a g : Nat) (hg : g ∣ a) : sg s a / (g : Int) = sg s (a / g) := by
  obtain ⟨k, rfl⟩ := hg
  rcases Nat.eq_zero_or_pos g with h | h
  · subst h; simp [sg_zero]
  · rw [Nat.mul_div_cancel_left _ h]
    unfold sg
    split
    · rw [Int.natCast_mul, ← Int.mul_neg, Int.mul_ediv_cancel_left _ (by omega)]
    · rw [Int.natCast_mul, Int.mul_ediv_cancel_left _ (by omega)]
theorem mk_num (s : Bool) (a : Nat) {d : Nat} (hd : d ≠ 0) : (mkRat (sg s a) d).num = sg s (a / Nat.gcd a d) := by
  rw [Rat.num_mkRat, if_neg hd, sg_abs, Nat.gcd_comm, sg_div _ _ _ (Nat.gcd_dvd_left _ _)]
theorem mk_abs (s : Bool) (a : Nat) {d : Nat} (hd : d ≠ 0) : (mkRat (sg s a) d).num.natAbs = a / Nat.gcd a d := by
  rw [mk_num s a hd, sg_abs]
theorem mk_den (s : Bool) (a : Nat) {d : Nat} (hd : d ≠ 0) : (mkRat (sg s a) d).den = d / Nat.gcd a d := by
  rw [Rat.den_mkRat, if_neg hd, sg_abs, Nat.gcd_comm]
theorem div_gcd_pos {a d : Nat} (ha : a ≠ 0) : 0 < a / Nat.gcd a d := Nat.div_gcd_pos_of_pos_left d (by omega)
theorem mk_sign (s : Bool) {a d : Nat} (hd : d ≠ 0) (ha : a ≠ 0) : ng (mkRat (sg s a) d) = s := by
  unfold ng
  rw [mk_num s a hd]
  have := div_gcd_pos (d := d) ha
  unfold sg
  cases s <;> simp <;> omega
theorem mk_zero (s : Bool) (d : Nat) : mkRat (sg s 0) d = 0 := by rw [sg_zero, Rat.zero_mkRat]

/-- the common power of 2 falls out, and one of the two is odd behind it -/
theorem twos_out {a d k : Nat} (ha : a ≠ 0) (hd : d ≠ 0) (hk : k = min (tz a) (tz d)) :
    ∃ a' d', a = 2 ^ k * a' ∧ d = 2 ^ k * d' ∧ (a' % 2 = 1 ∨ d' % 2 = 1) := by
  obtain ⟨x, hx⟩ := tz_spec ha
  obtain ⟨y, hy⟩ := tz_spec hd
  rcases Nat.le_total (tz a) (tz d) with h | h
  · refine ⟨2 * x + 1, 2 ^ (tz d - tz a) * (2 * y + 1), ?_, ?_, .inl (by omega)⟩
    · rw [hk, Nat.min_eq_left h]; exact hx
    · rw [hk, Nat.min_eq_left h, ← Nat.mul_assoc, ← Nat.pow_add, show tz a + (tz d - tz a) = tz d from by omega]; exact hy
  · refine ⟨2 ^ (tz a - tz d) * (2 * x + 1), 2 * y + 1, ?_, ?_, .inr (by omega)⟩
    · rw [hk, Nat.min_eq_right h, ← Nat.mul_assoc, ← Nat.pow_add, show tz d + (tz a - tz d) = tz a from by omega]; exact hx
    · rw [hk, Nat.min_eq_right h]; exact hy
theorem bl_mul_odd (k m : Nat) : bl (2 ^ k * (2 * m + 1)) = k + bl (2 * m + 1) := by
  have h1 := lt_bl (2 * m + 1)
  have h2 := bl_le (n := 2 * m + 1) (by omega)
  have h3 := bl_pos (n := 2 * m + 1) (by omega)
  obtain ⟨t, ht⟩ : ∃ t, bl (2 * m + 1) = t + 1 := ⟨bl (2 * m + 1) - 1, by omega⟩
  rw [ht] at h1 h2 ⊢
  rw [Nat.add_sub_cancel] at h2
  exact bl_unique (k := k + t) (by rw [Nat.add_assoc, Nat.pow_add]; exact Nat.mul_lt_mul_of_pos_left h1 (Nat.two_pow_pos k)) (by rw [Nat.pow_add]; exact Nat.mul_le_mul_left _ h2)
/-- a number whose exponent of 2 is its length less 1 is a power of 2 -/
theorem pow_two_of {d : Nat} (hd : d ≠ 0) (h : tz d + 1 = bl d) : d = 2 ^ tz d := by
  obtain ⟨m, hm⟩ := tz_spec hd
  have hb := bl_mul_odd (tz d) m
  rw [← hm, ← h] at hb
  have hm0 : m = 0 := by
    rcases Nat.eq_zero_or_pos m with h0 | h0
    · exact h0
    · have := bl_half (n := 2 * m + 1) (by omega)
      have h2 := bl_pos (n := (2 * m + 1) / 2) (by omega)
      omega
  rw [hm0] at hm
  simpa using hm
theorem gcd_pow_two {a k : Nat} (ha : a % 2 = 1) : Nat.gcd a (2 ^ k) = 1 := by
  have : Nat.Coprime a 2 := by
    rw [Nat.coprime_iff_gcd_eq_one, Nat.gcd_comm, Nat.gcd_rec, ha]; rfl
  exact Nat.Coprime.pow_right k this
theorem gcd_of_power {a d : Nat} (hd : d ≠ 0) (h : tz d + 1 = bl d) (ho : a % 2 = 1 ∨ d % 2 = 1) : Nat.gcd a d = 1 := by
  have e := pow_two_of hd h
  rcases ho with ho | ho
  · rw [e]; exact gcd_pow_two ho
  · have hz : tz d = 0 := by
      rw [tz, dif_neg hd, if_pos ho]
    rw [hz, Nat.pow_zero] at e
    rw [e, Nat.gcd_one_right]
/-- what reducing gives, behind the common power of 2 -/
theorem reduce_parts {a d a' d' p : Nat} (hp : 0 < p) (ha : a = p * a') (hd : d = p * d') : a / Nat.gcd a d = a' / Nat.gcd a' d' ∧ d / Nat.gcd a d = d' / Nat.gcd a' d' := by
  subst ha; subst hd
  rw [Nat.gcd_mul_left]
  exact ⟨Nat.mul_div_mul_left _ _ hp, Nat.mul_div_mul_left _ _ hp⟩
end Go.Proofs.YtfmhplcpejmkhabDoor

namespace Go.Proofs.YtfmhplcpejmkhabDoor
open Go.RowKit Dig
set_option linter.unusedVariables false
set_option linter.unusedSimpArgs false

/-- a fraction in memory: sign, numerator, denominator -/
def Fr (w : World) (v : Value) (s : Bool) (n d : Nat) : Prop := ∃ A1 c1 A2 c2, v = .agg #[.bool s, .slice A1 (W n).length c1, .slice A2 (W d).length c2] ∧ Rd w A1 c1 (W n) ∧ Rd w A2 c2 (W d)
/-- the fraction of a rational number -/
def IsF (w : World) (v : Value) (q : Rat) : Prop := Fr w v (ng q) q.num.natAbs q.den
theorem Fr.below {w w' : World} {v : Value} {s : Bool} {n d : Nat} (h : Fr w v s n d) (hb : Below w.heap.size w w') : Fr w' v s n d := by
  obtain ⟨A1, c1, A2, c2, e, h1, h2⟩ := h
  exact ⟨A1, c1, A2, c2, e, h1.below hb, h2.below hb⟩
theorem IsF.below {w w' : World} {v : Value} {q : Rat} (h : IsF w v q) (hb : Below w.heap.size w w') : IsF w' v q := Fr.below h hb
theorem Tab.below {w w' : World} (h : Tab w) (hb : Below w.heap.size w w') : Tab w' := by
  intro j hj
  have hc := h j hj
  exact (hb.cell (World.block_lt_of_cell? w _ hc)).trans hc

/-- a block of three cells -/
def Box (w : World) (g : Nat) (x y z : Value) (t : TypeId) : Prop := w.heap[g]? = some (.cells #[x, y, z] t (0, 0))
theorem Box.lt {w : World} {g : Nat} {x y z : Value} {t : TypeId} (h : Box w g x y z t) : g < w.heap.size := (Array.getElem?_eq_some_iff.1 h).1
theorem Box.below {w w' : World} {g : Nat} {x y z : Value} {t : TypeId} (h : Box w g x y z t) (hb : Below w.heap.size w w') : Box w' g x y z t := (hb.block g h.lt).trans h
theorem Box.new (w : World) (x y z : Value) (t : TypeId) : Box (w.alloc (.cells #[x, y, z] t)) w.heap.size x y z t := heap_alloc_new w _
theorem Box.cells {w : World} {g : Nat} {x y z : Value} {t : TypeId} (h : Box w g x y z t) :
    w.cell? ⟨g, 0, none⟩ = some x ∧ w.cell? ⟨g, 1, none⟩ = some y ∧ w.cell? ⟨g, 2, none⟩ = some z ∧ w.frozen? ⟨g, 0, none⟩ = false ∧ w.frozen? ⟨g, 1, none⟩ = false ∧ w.frozen? ⟨g, 2, none⟩ = false := by
  unfold Box at h
  simp [World.cell?, World.frozen?, h]
theorem Box.set0 {w : World} {g : Nat} {x y z : Value} {t : TypeId} (h : Box w g x y z t) (a : Value) : Box (w.setCell ⟨g, 0, none⟩ a) g a y z t := by
  unfold Box at h ⊢; simp [World.setCell, Array.getElem?_modify, h]
theorem Box.set1 {w : World} {g : Nat} {x y z : Value} {t : TypeId} (h : Box w g x y z t) (a : Value) : Box (w.setCell ⟨g, 1, none⟩ a) g x a z t := by
  unfold Box at h ⊢; simp [World.setCell, Array.getElem?_modify, h]
theorem Box.set2 {w : World} {g : Nat} {x y z : Value} {t : TypeId} (h : Box w g x y z t) (a : Value) : Box (w.setCell ⟨g, 2, none⟩ a) g x y a t := by
  unfold Box at h ⊢; simp [World.setCell, Array.getElem?_modify, h]
theorem Box.set3 {w : World} {g : Nat} {x y z : Value} {t : TypeId} (h : Box w g x y z t) (a b c : Value) : Box (((w.setCell ⟨g, 0, none⟩ a).setCell ⟨g, 1, none⟩ b).setCell ⟨g, 2, none⟩ c) g a b c t := ((h.set0 a).set1 b).set2 c
theorem below_set3 {B : Nat} {w0 w : World} {g : Nat} (hb : Below B w0 w) (hg : B ≤ g) (a b c : Value) : Below B w0 (((w.setCell ⟨g, 0, none⟩ a).setCell ⟨g, 1, none⟩ b).setCell ⟨g, 2, none⟩ c) :=
  ((hb.setCell (p := ⟨g, 0, none⟩) hg a).setCell (p := ⟨g, 1, none⟩) hg b).setCell (p := ⟨g, 2, none⟩) hg c
/-- no number -/
def NI (v : Value) : Prop := ∀ k n, v ≠ .int k n
theorem NI.bool (b : Bool) : NI (.bool b) := fun _ _ h => by cases h
theorem NI.slice (A : Option Addr) (n c : Nat) : NI (.slice A n c) := fun _ _ h => by cases h
theorem Rd.box_ne {w : World} {A : Option Addr} {cc g : Nat} {l : List Int} {x y z : Value} {t : TypeId} (h : Rd w A cc l) (hb : Box w g x y z t) (hx : NI x) (hy : NI y) (hz : NI z) (hl : 0 < l.length) :
    ∀ ad, A = some ad → ad.block ≠ g := by
  rintro ad rfl rfl
  have hc := h.cell 0 hl
  rw [show ad.add 0 = ad from by simp [Addr.add]] at hc
  unfold Box at hb
  simp only [World.cell?, hb] at hc
  split at hc
  · cases hc
  · match ho : ad.off, hc with
    | 0, hc => simp at hc; exact hx _ _ hc
    | 1, hc => simp at hc; exact hy _ _ hc
    | 2, hc => simp at hc; exact hz _ _ hc
    | n + 3, hc => simp at hc
theorem Rd.grown_box {w w' : World} {A : Option Addr} {cc g : Nat} {l : List Int} {x y z : Value} {t : TypeId} (h : Rd w A cc l) (hb : Box w g x y z t) (hx : NI x) (hy : NI y) (hz : NI z) (hg : w.grownBy w' (some g)) : Rd w' A cc l := by
  by_cases hl : 0 < l.length
  · exact h.grown hg (h.box_ne hb hx hy hz hl)
  · exact ⟨h.le, h.max, fun j hj => absurd hj (by omega)⟩
theorem grown_set3 (w : World) (g : Nat) (a b c : Value) : w.grownBy (((w.setCell ⟨g, 0, none⟩ a).setCell ⟨g, 1, none⟩ b).setCell ⟨g, 2, none⟩ c) (some g) :=
  grown_set (grown_set (grown_set ⟨rfl, rfl, rfl, Nat.le_refl _, fun _ _ _ => rfl⟩ 0 a) 1 b) 2 c
set_option maxHeartbeats 1000000 in
theorem wReduce_zero (s : Bool) (d : Nat) (w : World) (A A' : Option Addr) (c c' : Nat) (h : Rd w A c (W 0)) (h' : Rd w A' c' (W d)) :
    Calls Tryd.prog 92 #[.bool s, .slice A (W 0).length c, .slice A' (W d).length c'] w fun e w' => ∃ v, e = .returned v ∧ IsF w' v 0 ∧ Below w.heap.size w w' := by
  have H0 := Lib.hid h
  have H1 := Lib.hid h'
  have hz := Lib.hid W_zero
  clear h h'
  go_enter Tryd.func92, Tryd.ntmps92
  go_wp2_with fail
  refine (wZero _ A (W 0) c).mono ?_
  rintro e w1 ⟨rfl, rfl⟩
  have hd : decide (W 0 = []) = true := by simp [W_zero]
  rw [hd]
  go_wp2_with fail
  refine (wSmall _ 1 (by omega) (by omega)).mono ?_
  rintro e w2 ⟨A1, c1, rfl, hr1, hb1⟩
  have hbx := (Box.new w (.bool false) (.slice none 0 0) (.slice none 0 0) 65).below hb1
  obtain ⟨k0, k1, k2, f0, f1, f2⟩ := hbx.cells
  have R1 := Lib.hid hr1
  have HB := Lib.hid (below_step (below_alloc w _) (by simp) hb1)
  have hbx' := hbx
  have HBX := Lib.hid hbx
  clear hr1 hb1 hbx
  have HX := Lib.hid (hbx'.set3 (.bool false) (.slice none 0 0) (.slice A1 (W 1).length c1))
  go_wp2_with fail
  obtain ⟨q0, q1, q2, _, _, _⟩ := HX.out.cells
  refine bodyPost_ret (v := .agg #[.bool false, .slice none 0 0, .slice A1 (W 1).length c1]) (by simp [results, Tryd.results92, go_sem, q0, q1, q2]) rfl ?_
  refine ⟨_, rfl, ⟨none, 0, A1, c1, ?_, ?_, ?_⟩, below_set3 HB.out (Nat.le_refl _) _ _ _⟩
  · rw [show ((0 : Rat).num.natAbs) = 0 from rfl, W_zero]; rfl
  · rw [show ((0 : Rat).num.natAbs) = 0 from rfl, W_zero]; exact Rd.nil _ _ _ (by omega)
  · exact R1.out.grown_box HBX.out (NI.bool _) (NI.slice _ _ _) (NI.slice _ _ _) (grown_set3 _ _ _ _ _)

theorem reduce_close {w : World} {s : Bool} {a d n' d' g : Nat} {A1 A2 : Option Addr} {c1 c2 : Nat} (ha : a ≠ 0) (hd : d ≠ 0) (hn : n' = a / Nat.gcd a d) (hd' : d' = d / Nat.gcd a d) (h1 : Rd w A1 c1 (W n')) (h2 : Rd w A2 c2 (W d'))
    (hb : Box w g (.bool false) (.slice none 0 0) (.slice none 0 0) 65) :
    IsF (((w.setCell ⟨g, 0, none⟩ (.bool s)).setCell ⟨g, 1, none⟩ (.slice A1 (W n').length c1)).setCell ⟨g, 2, none⟩ (.slice A2 (W d').length c2)) (.agg #[.bool s, .slice A1 (W n').length c1, .slice A2 (W d').length c2]) (mkRat (sg s a) d) := by
  refine ⟨A1, c1, A2, c2, ?_, ?_, ?_⟩
  · rw [mk_sign s hd ha, mk_abs s a hd, mk_den s a hd, hn, hd']
  · rw [mk_abs s a hd, ← hn]; exact h1.grown_box hb (NI.bool _) (NI.slice _ _ _) (NI.slice _ _ _) (grown_set3 _ _ _ _ _)
  · rw [mk_den s a hd, ← hd']; exact h2.grown_box hb (NI.bool _) (NI.slice _ _ _) (NI.slice _ _ _) (grown_set3 _ _ _ _ _)
theorem W_nil_false {a : Nat} (h : a ≠ 0) : decide (W a = []) = false := by
  rw [decide_eq_false_iff_not]
  intro e
  exact h (W_inj (e.trans W_zero.symm))
theorem tz_le_bl {a : Nat} (h : a ≠ 0) : tz a ≤ bl a := by
  obtain ⟨m, e⟩ := tz_spec h
  have := bl_mul_odd (tz a) m
  rw [← e] at this; omega
set_option maxHeartbeats 2000000 in
theorem wReduce_pos (s : Bool) (a d : Nat) (w : World) (A A' : Option Addr) (c c' : Nat) (h : Rd w A c (W a)) (h' : Rd w A' c' (W d)) (ha : a ≠ 0) (hd : d ≠ 0) (la : (W a).length ≤ 1000000) (ld : (W d).length ≤ 1000000) (hT : Tab w) :
    Calls Tryd.prog 92 #[.bool s, .slice A (W a).length c, .slice A' (W d).length c'] w fun e w' => ∃ v, e = .returned v ∧ IsF w' v (mkRat (sg s a) d) ∧ Below w.heap.size w w' := by
  have H0 := Lib.hid h
  have H1 := Lib.hid h'
  have HT := Lib.hid hT
  have HA := Lib.hid ha
  have HD := Lib.hid hd
  have ba := bl_length a
  have bd := bl_length d
  have ta := tz_le_bl ha
  have td := tz_le_bl hd
  clear h h' hT ha hd
  go_enter Tryd.func92, Tryd.ntmps92
  go_wp2_with fail
  refine (wZero _ A (W a) c).mono ?_
  rintro e w1 ⟨rfl, rfl⟩
  rw [W_nil_false HA.out]
  have hb1 := below_alloc w (.cells #[.bool false, .slice none 0 0, .slice none 0 0] 65)
  have HB1 := Lib.hid hb1
  have BX := Lib.hid (Box.new w (.bool false) (.slice none 0 0) (.slice none 0 0) 65)
  have HW1 := Lib.hid (show (w.alloc (.cells #[.bool false, .slice none 0 0, .slice none 0 0] 65)).heap.size = w.heap.size + 1 by simp)
  obtain ⟨w1, hw1⟩ : ∃ w1, w.alloc (.cells #[.bool false, .slice none 0 0, .slice none 0 0] 65) = w1 := ⟨_, rfl⟩
  rw [hw1] at HB1 BX HW1 ⊢
  clear hb1 hw1
  have R0 := Lib.hid (H0.out.below HB1.out)
  have R1 := Lib.hid (H1.out.below HB1.out)
  have T1 := Lib.hid (HT.out.below HB1.out)
  go_wp2_with fail
  refine (wTwos a _ _ _ R0.out (by omega) T1.out).mono ?_
  rintro e w2 ⟨rfl, rfl⟩
  go_wp2_with fail
  refine (wTwos d _ _ _ R1.out (by omega) T1.out).mono ?_
  rintro e w2 ⟨rfl, rfl⟩
  obtain ⟨k, hk⟩ : ∃ k, k = min (tz a) (tz d) := ⟨_, rfl⟩
  have hk2 : min ((tz a : Nat) : Int) ((tz d : Nat) : Int) = (k : Int) := by omega
  have HK := Lib.hid hk
  have hk3 : k ≤ 32000000 := by omega
  clear hk
  go_upto_if 19 with (fail)
  go_cut [1, 2] (fun v1 v2 wc => ∃ (A1 A2 : Option Addr) (c1 c2 : Nat), v1 = .slice A1 (W (a / 2 ^ k)).length c1 ∧ v2 = .slice A2 (W (d / 2 ^ k)).length c2 ∧ Hid (Rd wc A1 c1 (W (a / 2 ^ k))) ∧ Hid (Rd wc A2 c2 (W (d / 2 ^ k))) ∧ Hid (Box wc w.heap.size (.bool false) (.slice none 0 0) (.slice none 0 0) 65) ∧ Hid (Below w.heap.size w wc))
  case first =>
    by_cases hk0 : 0 < k
    · go_wp2_with fail
      refine (wShr a k _ _ _ R0.out (by omega) (by omega)).mono ?_
      rintro e w3 ⟨A3, c3, rfl, hr3, hb3⟩
      have R3 := Lib.hid hr3
      have R1' := Lib.hid (R1.out.below hb3)
      have BX3 := Lib.hid (BX.out.below hb3)
      have HB3 := Lib.hid (below_step HB1.out HB1.out.size hb3)
      clear hr3 hb3
      go_wp2_with fail
      refine (wShr d k _ _ _ R1'.out (by omega) (by omega)).mono ?_
      rintro e w4 ⟨A4, c4, rfl, hr4, hb4⟩
      have R4 := Lib.hid hr4
      have R3' := Lib.hid (R3.out.below hb4)
      have BX4 := Lib.hid (BX3.out.below hb4)
      have HB4 := Lib.hid (below_step HB3.out HB3.out.size hb4)
      clear hr4 hb4
      go_wp2
      go_meet
      case rel => exact ⟨_, _, _, _, rfl, rfl, R3', R4, BX4, HB4⟩
    · have hz : k = 0 := by omega
      have HZ := Lib.hid hz
      clear hz
      go_wp2
      go_meet
      case rel =>
        rw [HZ.out, Nat.pow_zero, Nat.div_one, Nat.div_one]
        exact ⟨_, _, _, _, rfl, rfl, R0, R1, BX, HB1⟩
  case rest =>
    obtain ⟨A1, A2, c1, c2, rfl, rfl, R3, R4, BX4, HB4⟩ := hcut
    obtain ⟨a', d', ea, ed, ho⟩ := twos_out HA.out HD.out HK.out
    have hp := Nat.two_pow_pos k
    have ea2 : a / 2 ^ k = a' := by rw [ea, Nat.mul_div_cancel_left _ hp]
    have ed2 : d / 2 ^ k = d' := by rw [ed, Nat.mul_div_cancel_left _ hp]
    rw [ea2] at R3 ⊢
    rw [ed2] at R4 ⊢
    obtain ⟨p1, p2⟩ := reduce_parts hp ea ed
    have hd0 : d' ≠ 0 := by rintro rfl; exact HD.out (by rw [ed, Nat.mul_zero])
    have ha0 : a' ≠ 0 := by rintro rfl; exact HA.out (by rw [ea, Nat.mul_zero])
    have la' : (W a').length ≤ 1000000 := Nat.le_trans (dig_length_mono B32_two (by rw [← ea2]; exact Nat.div_le_self _ _)) la
    have ld' : (W d').length ≤ 1000000 := Nat.le_trans (dig_length_mono B32_two (by rw [← ed2]; exact Nat.div_le_self _ _)) ld
    have bd' := bl_length d'
    have td' := tz_le_bl hd0
    have P1 := Lib.hid p1
    have P2 := Lib.hid p2
    have HO := Lib.hid ho
    have D0 := Lib.hid hd0
    have A0 := Lib.hid ha0
    have T4 := Lib.hid (HT.out.below HB4.out)
    have bp := bl_pos hd0
    clear ea ed ho ea2 ed2 p1 p2 hd0 ha0 hp hk2 R0 R1 T1 BX HB1
    go_wp2_with fail
    refine (wTwos d' _ _ _ R4.out (by omega) T4.out).mono ?_
    rintro e w5 ⟨rfl, rfl⟩
    go_wp2_with fail
    refine (wBits d' _ _ _ R4.out (by omega)).mono ?_
    rintro e w5 ⟨rfl, rfl⟩
    by_cases hpw : tz d' + 1 = bl d'
    · have hb : (((tz d' : Nat) : Int) != ((bl d' : Nat) : Int) - 1) = false := by rw [bne_eq_false_iff_eq]; omega
      have hg := gcd_of_power D0.out hpw HO.out
      have HX := Lib.hid (BX4.out.set3 (.bool s) (.slice A1 (W a').length c1) (.slice A2 (W d').length c2))
      obtain ⟨k0, k1, k2, f0, f1, f2⟩ := BX4.out.cells
      have HG := Lib.hid hg
      clear hg hpw
      go_wp2
      obtain ⟨q0, q1, q2, _, _, _⟩ := HX.out.cells
      refine bodyPost_ret (v := .agg #[.bool s, .slice A1 (W (a')).length c1, .slice A2 (W (d')).length c2]) (by simp [results, Tryd.results92, go_sem, q0, q1, q2]) rfl ?_
      exact ⟨_, rfl, reduce_close HA.out HD.out (by rw [P1.out, HG.out, Nat.div_one]) (by rw [P2.out, HG.out, Nat.div_one]) R3.out R4.out BX4.out, below_set3 HB4.out (Nat.le_refl _) _ _ _⟩
    · have hb : (((tz d' : Nat) : Int) != ((bl d' : Nat) : Int) - 1) = true := by rw [bne_iff_ne]; omega
      clear hpw
      go_wp2_with fail
      refine (wGCD a' d' _ _ _ _ _ R3.out R4.out la' ld').mono ?_
      rintro e w6 ⟨A6, c6, rfl, hr6, hb6⟩
      have R6 := Lib.hid hr6
      have R3a := Lib.hid (R3.out.below hb6)
      have R4a := Lib.hid (R4.out.below hb6)
      have BX6 := Lib.hid (BX4.out.below hb6)
      have HB6 := Lib.hid (below_step HB4.out HB4.out.size hb6)
      have hgp : 0 < Nat.gcd a' d' := Nat.gcd_pos_of_pos_left _ (by have := A0.out; omega)
      clear hr6 hb6
      go_wp2_with fail
      refine (wOne (Nat.gcd a' d') _ _ _ R6.out).mono ?_
      rintro e w7 ⟨rfl, rfl⟩
      by_cases hg1 : Nat.gcd a' d' = 1
      · have hgb : decide (Nat.gcd a' d' = 1) = true := by simp [hg1]
        have HG := Lib.hid hg1
        have HX := Lib.hid (BX6.out.set3 (.bool s) (.slice A1 (W a').length c1) (.slice A2 (W d').length c2))
        obtain ⟨k0, k1, k2, f0, f1, f2⟩ := BX6.out.cells
        rw [hgb]
        clear hg1
        go_wp2
        obtain ⟨q0, q1, q2, _, _, _⟩ := HX.out.cells
        refine bodyPost_ret (v := .agg #[.bool s, .slice A1 (W (a')).length c1, .slice A2 (W (d')).length c2]) (by simp [results, Tryd.results92, go_sem, q0, q1, q2]) rfl ?_
        exact ⟨_, rfl, reduce_close HA.out HD.out (by rw [P1.out, HG.out, Nat.div_one]) (by rw [P2.out, HG.out, Nat.div_one]) R3a.out R4a.out BX6.out, below_set3 HB6.out (Nat.le_refl _) _ _ _⟩
      · have hgb : decide (Nat.gcd a' d' = 1) = false := by simp [hg1]
        rw [hgb]
        clear hg1 hgb
        go_wp2_with fail
        refine (wDiv a' (Nat.gcd a' d') _ _ _ _ _ R3a.out R6.out la' hgp).mono ?_
        rintro e w8 ⟨A8, c8, A8', c8', rfl, hr8, _, hb8⟩
        have R8 := Lib.hid hr8
        have R6b := Lib.hid (R6.out.below hb8)
        have R4b := Lib.hid (R4a.out.below hb8)
        have BX8 := Lib.hid (BX6.out.below hb8)
        have HB8 := Lib.hid (below_step HB6.out HB6.out.size hb8)
        clear hr8 hb8
        go_wp2_with fail
        refine (wDiv d' (Nat.gcd a' d') _ _ _ _ _ R4b.out R6b.out ld' hgp).mono ?_
        rintro e w9 ⟨A9, c9, A9', c9', rfl, hr9, _, hb9⟩
        have R9 := Lib.hid hr9
        have R8b := Lib.hid (R8.out.below hb9)
        have BX9 := Lib.hid (BX8.out.below hb9)
        have HB9 := Lib.hid (below_step HB8.out HB8.out.size hb9)
        have HX := Lib.hid (BX9.out.set3 (.bool s) (.slice A8 (W (a' / Nat.gcd a' d')).length c8) (.slice A9 (W (d' / Nat.gcd a' d')).length c9))
        obtain ⟨k0, k1, k2, f0, f1, f2⟩ := BX9.out.cells
        clear hr9 hb9
        go_wp2
        obtain ⟨q0, q1, q2, _, _, _⟩ := HX.out.cells
        refine bodyPost_ret (v := .agg #[.bool s, .slice A8 (W (a' / Nat.gcd a' d')).length c8, .slice A9 (W (d' / Nat.gcd a' d')).length c9]) (by simp [results, Tryd.results92, go_sem, q0, q1, q2]) rfl ?_
        exact ⟨_, rfl, reduce_close HA.out HD.out P1.out.symm P2.out.symm R8b.out R9.out BX9.out, below_set3 HB9.out (Nat.le_refl _) _ _ _⟩

/-- word.Reduce: the rational number of a sign, a numerator and a denominator other than 0. -/
theorem wReduce (s : Bool) (a d : Nat) (w : World) (A A' : Option Addr) (c c' : Nat) (h : Rd w A c (W a)) (h' : Rd w A' c' (W d)) (hd : d ≠ 0) (la : (W a).length ≤ 1000000) (ld : (W d).length ≤ 1000000) (hT : Tab w) :
    Calls Tryd.prog 92 #[.bool s, .slice A (W a).length c, .slice A' (W d).length c'] w fun e w' => ∃ v, e = .returned v ∧ IsF w' v (mkRat (sg s a) d) ∧ Below w.heap.size w w' := by
  by_cases ha : a = 0
  · subst ha
    rw [mk_zero]
    exact wReduce_zero s d w A A' c c' h h'
  · exact wReduce_pos s a d w A A' c c' h h' ha hd la ld hT
end Go.Proofs.YtfmhplcpejmkhabDoor

namespace Go.Proofs.YtfmhplcpejmkhabDoor
open Go.RowKit Dig
set_option linter.unusedVariables false
set_option linter.unusedSimpArgs false

/-- a fraction in a variable -/
structure Fld (M : World) (g : Nat) (s : Bool) (A1 : Option Addr) (c1 n : Nat) (A2 : Option Addr) (c2 d : Nat) : Prop where
  box : Box M g (.bool s) (.slice A1 (W n).length c1) (.slice A2 (W d).length c2) 65
  r1 : Rd M A1 c1 (W n)
  r2 : Rd M A2 c2 (W d)
theorem Fld.below {M M' : World} {g : Nat} {s : Bool} {A1 : Option Addr} {c1 n : Nat} {A2 : Option Addr} {c2 d : Nat} (h : Fld M g s A1 c1 n A2 c2 d) (hb : Below M.heap.size M M') : Fld M' g s A1 c1 n A2 c2 d :=
  ⟨h.box.below hb, h.r1.below hb, h.r2.below hb⟩
/-- a variable for a result -/
def Res (M : World) (g : Nat) (t : TypeId) : Prop := ∃ x y z, NI x ∧ NI y ∧ NI z ∧ Box M g x y z t
theorem Res.below {M M' : World} {g : Nat} {t : TypeId} (h : Res M g t) (hb : Below M.heap.size M M') : Res M' g t := by
  obtain ⟨x, y, z, h1, h2, h3, h4⟩ := h
  exact ⟨x, y, z, h1, h2, h3, h4.below hb⟩
theorem Res.set3 {M : World} {g : Nat} {t : TypeId} (h : Res M g t) {a b c : Value} (ha : NI a) (hb : NI b) (hc : NI c) : Res (((M.setCell ⟨g, 0, none⟩ a).setCell ⟨g, 1, none⟩ b).setCell ⟨g, 2, none⟩ c) g t := by
  obtain ⟨x, y, z, h1, h2, h3, h4⟩ := h
  exact ⟨a, b, c, ha, hb, hc, h4.set3 a b c⟩
theorem Fld.grown {M M' : World} {g g3 : Nat} {s : Bool} {A1 : Option Addr} {c1 n : Nat} {A2 : Option Addr} {c2 d : Nat} {t : TypeId} (h : Fld M g s A1 c1 n A2 c2 d) (hr : Res M g3 t) (hne : g ≠ g3) (hg : M.grownBy M' (some g3)) : Fld M' g s A1 c1 n A2 c2 d := by
  obtain ⟨x, y, z, h1, h2, h3, h4⟩ := hr
  exact ⟨(hg.block g h.box.lt (fun e => hne (Option.some.inj e))).trans h.box, h.r1.grown_box h4 h1 h2 h3 hg, h.r2.grown_box h4 h1 h2 h3 hg⟩
theorem Tab.grown {M M' : World} {g3 : Nat} (h : Tab M) (hg : M.grownBy M' (some g3)) (h0 : g3 ≠ 0) : Tab M' := by
  intro j hj
  exact hg.cell (h j hj) (fun e => h0 (Option.some.inj e).symm)
theorem Below.grownBy {B : Nat} {w M M' : World} {g3 : Nat} (h : Below B w M) (hg : M.grownBy M' (some g3)) (hB : B ≤ M.heap.size) (h3 : B ≤ g3) : Below B w M' :=
  h.grown hg hB (fun k hk => by cases hk; exact h3)
theorem Res.cells {M : World} {g : Nat} {t : TypeId} (h : Res M g t) : ∃ x y z, M.cell? ⟨g, 0, none⟩ = some x ∧ M.cell? ⟨g, 1, none⟩ = some y ∧ M.cell? ⟨g, 2, none⟩ = some z ∧ M.frozen? ⟨g, 0, none⟩ = false ∧ M.frozen? ⟨g, 1, none⟩ = false ∧ M.frozen? ⟨g, 2, none⟩ = false := by
  obtain ⟨x, y, z, h1, h2, h3, h4⟩ := h
  exact ⟨x, y, z, h4.cells⟩

/-- what stays while a statement over two fractions goes on -/
structure Two (w M : World) (g1 g2 g3 : Nat) (s1 : Bool) (A1 : Option Addr) (c1 n1 : Nat) (A2 : Option Addr) (c2 d1 : Nat) (s2 : Bool) (A3 : Option Addr) (c3 n2 : Nat) (A4 : Option Addr) (c4 d2 : Nat) : Prop where
  f : Fld M g1 s1 A1 c1 n1 A2 c2 d1
  g : Fld M g2 s2 A3 c3 n2 A4 c4 d2
  res : Res M g3 65
  tab : Tab M
  bel : Below w.heap.size w M
  n1 : g1 ≠ g3
  n2 : g2 ≠ g3
  n3 : w.heap.size ≤ g3
  n4 : g3 ≠ 0
theorem Two.below {w M M' : World} {g1 g2 g3 : Nat} {s1 : Bool} {A1 : Option Addr} {c1 n1 : Nat} {A2 : Option Addr} {c2 d1 : Nat} {s2 : Bool} {A3 : Option Addr} {c3 n2 : Nat} {A4 : Option Addr} {c4 d2 : Nat}
    (h : Two w M g1 g2 g3 s1 A1 c1 n1 A2 c2 d1 s2 A3 c3 n2 A4 c4 d2) (hb : Below M.heap.size M M') : Two w M' g1 g2 g3 s1 A1 c1 n1 A2 c2 d1 s2 A3 c3 n2 A4 c4 d2 :=
  ⟨h.f.below hb, h.g.below hb, h.res.below hb, h.tab.below hb, below_step h.bel h.bel.size hb, h.n1, h.n2, h.n3, h.n4⟩
theorem Two.grown {w M : World} {g1 g2 g3 : Nat} {s1 : Bool} {A1 : Option Addr} {c1 n1 : Nat} {A2 : Option Addr} {c2 d1 : Nat} {s2 : Bool} {A3 : Option Addr} {c3 n2 : Nat} {A4 : Option Addr} {c4 d2 : Nat}
    (h : Two w M g1 g2 g3 s1 A1 c1 n1 A2 c2 d1 s2 A3 c3 n2 A4 c4 d2) {a b c : Value} (ha : NI a) (hb : NI b) (hc : NI c) : Two w (((M.setCell ⟨g3, 0, none⟩ a).setCell ⟨g3, 1, none⟩ b).setCell ⟨g3, 2, none⟩ c) g1 g2 g3 s1 A1 c1 n1 A2 c2 d1 s2 A3 c3 n2 A4 c4 d2 :=
  have hg := grown_set3 M g3 a b c
  ⟨h.f.grown h.res h.n1 hg, h.g.grown h.res h.n2 hg, h.res.set3 ha hb hc, h.tab.grown hg h.n4, below_set3 h.bel h.n3 _ _ _, h.n1, h.n2, h.n3, h.n4⟩
theorem Two.cells {w M : World} {g1 g2 g3 : Nat} {s1 : Bool} {A1 : Option Addr} {c1 n1 : Nat} {A2 : Option Addr} {c2 d1 : Nat} {s2 : Bool} {A3 : Option Addr} {c3 n2 : Nat} {A4 : Option Addr} {c4 d2 : Nat}
    (h : Two w M g1 g2 g3 s1 A1 c1 n1 A2 c2 d1 s2 A3 c3 n2 A4 c4 d2) :
    M.cell? ⟨g1, 0, none⟩ = some (.bool s1) ∧ M.cell? ⟨g1, 1, none⟩ = some (.slice A1 (W n1).length c1) ∧ M.cell? ⟨g1, 2, none⟩ = some (.slice A2 (W d1).length c2) ∧
    M.cell? ⟨g2, 0, none⟩ = some (.bool s2) ∧ M.cell? ⟨g2, 1, none⟩ = some (.slice A3 (W n2).length c3) ∧ M.cell? ⟨g2, 2, none⟩ = some (.slice A4 (W d2).length c4) ∧
    Hid (Two w M g1 g2 g3 s1 A1 c1 n1 A2 c2 d1 s2 A3 c3 n2 A4 c4 d2) := by
  obtain ⟨a1, a2, a3, _, _, _⟩ := h.f.box.cells
  obtain ⟨b1, b2, b3, _, _, _⟩ := h.g.box.cells
  exact ⟨a1, a2, a3, b1, b2, b3, h⟩
/-- at the beginning: both arguments and the result lie in new variables -/
theorem Two.start {w : World} {s1 : Bool} {A1 : Option Addr} {c1 n1 : Nat} {A2 : Option Addr} {c2 d1 : Nat} {s2 : Bool} {A3 : Option Addr} {c3 n2 : Nat} {A4 : Option Addr} {c4 d2 : Nat}
    (h1 : Rd w A1 c1 (W n1)) (h2 : Rd w A2 c2 (W d1)) (h3 : Rd w A3 c3 (W n2)) (h4 : Rd w A4 c4 (W d2)) (hT : Tab w) :
    Two w (((w.alloc (.cells #[.bool s1, .slice A1 (W n1).length c1, .slice A2 (W d1).length c2] 65)).alloc (.cells #[.bool s2, .slice A3 (W n2).length c3, .slice A4 (W d2).length c4] 65)).alloc (.cells #[.bool false, .slice none 0 0, .slice none 0 0] 65)).drew w.heap.size (w.heap.size + 1) (w.heap.size + 1 + 1) s1 A1 c1 n1 A2 c2 d1 s2 A3 c3 n2 A4 c4 d2 := by
  have b1 := below_alloc w (.cells #[.bool s1, .slice A1 (W n1).length c1, .slice A2 (W d1).length c2] 65)
  have k1 := Box.new w (.bool s1) (.slice A1 (W n1).length c1) (.slice A2 (W d1).length c2) 65
  have z1 : (w.alloc (.cells #[.bool s1, .slice A1 (W n1).length c1, .slice A2 (W d1).length c2] 65)).heap.size = w.heap.size + 1 := by simp
  generalize w.alloc (.cells #[.bool s1, .slice A1 (W n1).length c1, .slice A2 (W d1).length c2] 65) = w1 at *
  have b2 := below_alloc w1 (.cells #[.bool s2, .slice A3 (W n2).length c3, .slice A4 (W d2).length c4] 65)
  have k2 := Box.new w1 (.bool s2) (.slice A3 (W n2).length c3) (.slice A4 (W d2).length c4) 65
  have z2 : (w1.alloc (.cells #[.bool s2, .slice A3 (W n2).length c3, .slice A4 (W d2).length c4] 65)).heap.size = w1.heap.size + 1 := by simp
  generalize w1.alloc (.cells #[.bool s2, .slice A3 (W n2).length c3, .slice A4 (W d2).length c4] 65) = w2 at *
  have b3 := below_alloc w2 (.cells #[.bool false, .slice none 0 0, .slice none 0 0] 65)
  have k3 := Box.new w2 (.bool false) (.slice none 0 0) (.slice none 0 0) 65
  rw [← z1, ← z2] 
  rw [z1] at k2
  rw [z2, z1] at k3
  generalize w2.alloc (.cells #[.bool false, .slice none 0 0, .slice none 0 0] 65) = w3 at *
  have hd : Below w3.heap.size w3 w3.drew := (Below.refl _ _).drew
  have b13 : Below w1.heap.size w1 w3 := below_step b2 b2.size b3
  have b03 : Below w.heap.size w w3 := below_step b1 b1.size b13
  refine ⟨⟨(k1.below b13).below hd, (h1.below b03).below hd, (h2.below b03).below hd⟩, ⟨?_, (h3.below b03).below hd, (h4.below b03).below hd⟩, ⟨.bool false, .slice none 0 0, .slice none 0 0, NI.bool _, NI.slice _ _ _, NI.slice _ _ _, ?_⟩, (hT.below b03).below hd, b03.drew, by omega, by omega, by omega, by omega⟩
  · rw [z1]; exact (k2.below b3).below hd
  · rw [z2, z1]; exact k3.below hd
section
variable {w M M' : World} {g1 g2 g3 : Nat} {s1 : Bool} {A1 : Option Addr} {c1 n1 : Nat} {A2 : Option Addr} {c2 d1 : Nat} {s2 : Bool} {A3 : Option Addr} {c3 n2 : Nat} {A4 : Option Addr} {c4 d2 : Nat}
theorem Two.of (h : (World.cell? M ⟨g1, 0, none⟩ = some (.bool s1) ∧ World.cell? M ⟨g1, 1, none⟩ = some (.slice A1 (W n1).length c1) ∧ World.cell? M ⟨g1, 2, none⟩ = some (.slice A2 (W d1).length c2) ∧ World.cell? M ⟨g2, 0, none⟩ = some (.bool s2) ∧ World.cell? M ⟨g2, 1, none⟩ = some (.slice A3 (W n2).length c3) ∧ World.cell? M ⟨g2, 2, none⟩ = some (.slice A4 (W d2).length c4) ∧ Hid (Two w M g1 g2 g3 s1 A1 c1 n1 A2 c2 d1 s2 A3 c3 n2 A4 c4 d2))) : Two w M g1 g2 g3 s1 A1 c1 n1 A2 c2 d1 s2 A3 c3 n2 A4 c4 d2 := h.2.2.2.2.2.2.out
theorem Two.next (h : (World.cell? M ⟨g1, 0, none⟩ = some (.bool s1) ∧ World.cell? M ⟨g1, 1, none⟩ = some (.slice A1 (W n1).length c1) ∧ World.cell? M ⟨g1, 2, none⟩ = some (.slice A2 (W d1).length c2) ∧ World.cell? M ⟨g2, 0, none⟩ = some (.bool s2) ∧ World.cell? M ⟨g2, 1, none⟩ = some (.slice A3 (W n2).length c3) ∧ World.cell? M ⟨g2, 2, none⟩ = some (.slice A4 (W d2).length c4) ∧ Hid (Two w M g1 g2 g3 s1 A1 c1 n1 A2 c2 d1 s2 A3 c3 n2 A4 c4 d2))) (hb : Below M.heap.size M M') : (World.cell? M' ⟨g1, 0, none⟩ = some (.bool s1) ∧ World.cell? M' ⟨g1, 1, none⟩ = some (.slice A1 (W n1).length c1) ∧ World.cell? M' ⟨g1, 2, none⟩ = some (.slice A2 (W d1).length c2) ∧ World.cell? M' ⟨g2, 0, none⟩ = some (.bool s2) ∧ World.cell? M' ⟨g2, 1, none⟩ = some (.slice A3 (W n2).length c3) ∧ World.cell? M' ⟨g2, 2, none⟩ = some (.slice A4 (W d2).length c4) ∧ Hid (Two w M' g1 g2 g3 s1 A1 c1 n1 A2 c2 d1 s2 A3 c3 n2 A4 c4 d2)) := ((Two.of h).below hb).cells
theorem Two.nextS (h : (World.cell? M ⟨g1, 0, none⟩ = some (.bool s1) ∧ World.cell? M ⟨g1, 1, none⟩ = some (.slice A1 (W n1).length c1) ∧ World.cell? M ⟨g1, 2, none⟩ = some (.slice A2 (W d1).length c2) ∧ World.cell? M ⟨g2, 0, none⟩ = some (.bool s2) ∧ World.cell? M ⟨g2, 1, none⟩ = some (.slice A3 (W n2).length c3) ∧ World.cell? M ⟨g2, 2, none⟩ = some (.slice A4 (W d2).length c4) ∧ Hid (Two w M g1 g2 g3 s1 A1 c1 n1 A2 c2 d1 s2 A3 c3 n2 A4 c4 d2))) {a : Bool} {B C : Option Addr} {b b' c c' : Nat} : (World.cell? (((M.setCell ⟨g3, 0, none⟩ (.bool a)).setCell ⟨g3, 1, none⟩ (.slice B b b')).setCell ⟨g3, 2, none⟩ (.slice C c c')) ⟨g1, 0, none⟩ = some (.bool s1) ∧ World.cell? (((M.setCell ⟨g3, 0, none⟩ (.bool a)).setCell ⟨g3, 1, none⟩ (.slice B b b')).setCell ⟨g3, 2, none⟩ (.slice C c c')) ⟨g1, 1, none⟩ = some (.slice A1 (W n1).length c1) ∧ World.cell? (((M.setCell ⟨g3, 0, none⟩ (.bool a)).setCell ⟨g3, 1, none⟩ (.slice B b b')).setCell ⟨g3, 2, none⟩ (.slice C c c')) ⟨g1, 2, none⟩ = some (.slice A2 (W d1).length c2) ∧ World.cell? (((M.setCell ⟨g3, 0, none⟩ (.bool a)).setCell ⟨g3, 1, none⟩ (.slice B b b')).setCell ⟨g3, 2, none⟩ (.slice C c c')) ⟨g2, 0, none⟩ = some (.bool s2) ∧ World.cell? (((M.setCell ⟨g3, 0, none⟩ (.bool a)).setCell ⟨g3, 1, none⟩ (.slice B b b')).setCell ⟨g3, 2, none⟩ (.slice C c c')) ⟨g2, 1, none⟩ = some (.slice A3 (W n2).length c3) ∧ World.cell? (((M.setCell ⟨g3, 0, none⟩ (.bool a)).setCell ⟨g3, 1, none⟩ (.slice B b b')).setCell ⟨g3, 2, none⟩ (.slice C c c')) ⟨g2, 2, none⟩ = some (.slice A4 (W d2).length c4) ∧ Hid (Two w (((M.setCell ⟨g3, 0, none⟩ (.bool a)).setCell ⟨g3, 1, none⟩ (.slice B b b')).setCell ⟨g3, 2, none⟩ (.slice C c c')) g1 g2 g3 s1 A1 c1 n1 A2 c2 d1 s2 A3 c3 n2 A4 c4 d2)) :=
  ((Two.of h).grown (NI.bool _) (NI.slice _ _ _) (NI.slice _ _ _)).cells
end

/-- the end of a statement over two fractions: the result lies in its variable -/
theorem Two.finish {w M : World} {g1 g2 g3 : Nat} {s1 : Bool} {A1 : Option Addr} {c1 n1 : Nat} {A2 : Option Addr} {c2 d1 : Nat} {s2 : Bool} {A3 : Option Addr} {c3 n2 : Nat} {A4 : Option Addr} {c4 d2 : Nat}
    (h : Two w M g1 g2 g3 s1 A1 c1 n1 A2 c2 d1 s2 A3 c3 n2 A4 c4 d2) {s : Bool} {B1 B2 : Option Addr} {b1 b2 n d : Nat} (h1 : Rd M B1 b1 (W n)) (h2 : Rd M B2 b2 (W d)) :
    let M' := ((M.setCell ⟨g3, 0, none⟩ (.bool s)).setCell ⟨g3, 1, none⟩ (.slice B1 (W n).length b1)).setCell ⟨g3, 2, none⟩ (.slice B2 (W d).length b2)
    M'.cell? ⟨g3, 0, none⟩ = some (.bool s) ∧ M'.cell? ⟨g3, 1, none⟩ = some (.slice B1 (W n).length b1) ∧ M'.cell? ⟨g3, 2, none⟩ = some (.slice B2 (W d).length b2) ∧
    Rd M' B1 b1 (W n) ∧ Rd M' B2 b2 (W d) ∧ Below w.heap.size w M' := by
  intro M'
  obtain ⟨x, y, z, hx, hy, hz, hb⟩ := h.res
  obtain ⟨q0, q1, q2, _, _, _⟩ := (hb.set3 (.bool s) (.slice B1 (W n).length b1) (.slice B2 (W d).length b2)).cells
  exact ⟨q0, q1, q2, h1.grown_box hb hx hy hz (grown_set3 _ _ _ _ _), h2.grown_box hb hx hy hz (grown_set3 _ _ _ _ _), below_set3 h.bel h.n3 _ _ _⟩

end Go.Proofs.YtfmhplcpejmkhabDoor

namespace Go.Proofs.YtfmhplcpejmkhabDoor
open Go.RowKit Dig
set_option linter.unusedVariables false
set_option linter.unusedSimpArgs false

set_option maxHeartbeats 2000000 in
theorem fracMul (s1 : Bool) (n1 d1 : Nat) (s2 : Bool) (n2 d2 : Nat) (w : World) (A1 A2 A3 A4 : Option Addr) (c1 c2 c3 c4 : Nat) (h1 : Rd w A1 c1 (W n1)) (h2 : Rd w A2 c2 (W d1)) (h3 : Rd w A3 c3 (W n2)) (h4 : Rd w A4 c4 (W d2))
    (l1 : (W n1).length ≤ 400000) (l2 : (W d1).length ≤ 400000) (l3 : (W n2).length ≤ 400000) (l4 : (W d2).length ≤ 400000) (z1 : d1 ≠ 0) (z2 : d2 ≠ 0) (hT : Tab w) :
    Calls Tryd.prog 86 #[.agg #[.bool s1, .slice A1 (W n1).length c1, .slice A2 (W d1).length c2], .agg #[.bool s2, .slice A3 (W n2).length c3, .slice A4 (W d2).length c4]] w fun e w' => ∃ u, e = .returned u ∧ IsF w' u (mkRat (sg (!s1 == s2) (n1 * n2)) (d1 * d2)) ∧ Below w.heap.size w w' := by
  have T0 := Lib.hid (Two.start (s1 := s1) (s2 := s2) h1 h2 h3 h4 hT)
  have Z := Lib.hid (Nat.mul_ne_zero z1 z2)
  have L5 := Lib.hid (Nat.le_trans (W_mul_length n1 n2) (by omega : _ ≤ 1000000))
  have L6 := Lib.hid (Nat.le_trans (W_mul_length d1 d2) (by omega : _ ≤ 1000000))
  clear h1 h2 h3 h4 hT z1 z2
  go_enter Tryd.func86, Tryd.ntmps86
  go_wp2_with fail
  go_region_held3 (fun W' => (World.cell? W' ⟨(w.heap.size), 0, none⟩ = some (.bool s1) ∧ World.cell? W' ⟨(w.heap.size), 1, none⟩ = some (.slice A1 (W n1).length c1) ∧ World.cell? W' ⟨(w.heap.size), 2, none⟩ = some (.slice A2 (W d1).length c2) ∧ World.cell? W' ⟨(w.heap.size + 1), 0, none⟩ = some (.bool s2) ∧ World.cell? W' ⟨(w.heap.size + 1), 1, none⟩ = some (.slice A3 (W n2).length c3) ∧ World.cell? W' ⟨(w.heap.size + 1), 2, none⟩ = some (.slice A4 (W d2).length c4) ∧ Hid (Two w W' (w.heap.size) (w.heap.size + 1) (w.heap.size + 1 + 1) s1 A1 c1 n1 A2 c2 d1 s2 A3 c3 n2 A4 c4 d2)))
    (first | exact T0.out.cells | exact Two.next (by assumption) (by assumption) | exact Two.nextS (by assumption))
    (first
       | (go_at_call 110
          first
            | refine (wMul _ _ _ _ _ _ _ (Two.of (by assumption)).f.r1 (Two.of (by assumption)).g.r1 (by omega) (by omega)).mono ?_
            | refine (wMul _ _ _ _ _ _ _ (Two.of (by assumption)).f.r2 (Two.of (by assumption)).g.r2 (by omega) (by omega)).mono ?_
          rintro e w' ⟨A5, c5, rfl, hr5, hb5⟩)
       | (go_at_call 92
          refine (wReduce _ _ _ _ _ _ _ _ (by first | assumption | exact Rd.below (by assumption) (by assumption)) (by first | assumption | exact Rd.below (by assumption) (by assumption)) Z.out L5.out L6.out (Two.of (by assumption)).tab).mono ?_
          rintro e w' ⟨u, rfl, ⟨B1, b1, B2, b2, rfl, hB1, hB2⟩, hb5⟩
          have hh := Two.of (by assumption)
          obtain ⟨x, y, z, hx, hy, hz, k1, k2, k3⟩ := (hh.res.below hb5).cells))
  go_wp2
  obtain ⟨q0, q1, q2, r1, r2, hb⟩ := (hh.below hb5).finish (s := ng (mkRat (sg (!s1 == s2) (n1 * n2)) (d1 * d2))) hB1 hB2
  refine bodyPost_ret (v := .agg #[.bool (ng (mkRat (sg (!s1 == s2) (n1 * n2)) (d1 * d2))), .slice B1 (W (mkRat (sg (!s1 == s2) (n1 * n2)) (d1 * d2)).num.natAbs).length b1, .slice B2 (W (mkRat (sg (!s1 == s2) (n1 * n2)) (d1 * d2)).den).length b2]) (by simp [results, Tryd.results86, go_sem, q0, q1, q2]) rfl ?_
  exact ⟨_, rfl, ⟨_, _, _, _, rfl, r1, r2⟩, hb⟩
theorem Below.drew_step {w w' : World} (h : Below w.drew.heap.size w.drew w') : Below w.heap.size w w' := below_step (Below.refl _ _).drew (Nat.le_refl _) h
theorem sg_add_same {s t : Bool} (h : s = t) {a b d : Nat} {x y : Nat} : mkRat (sg s a * (x : Int) + sg t b * (y : Int)) d = mkRat (sg s (a * x + b * y)) d := by
  subst h
  congr 1
  cases s <;> simp [sg] <;> grind
theorem sg_add_sub {s t : Bool} (h : s ≠ t) {a b d : Nat} {x y : Nat} (hc : b * y ≤ a * x) : mkRat (sg s a * (x : Int) + sg t b * (y : Int)) d = mkRat (sg s (a * x - b * y)) d := by
  have : ((a * x - b * y : Nat) : Int) = (a : Int) * x - b * y := by rw [Int.ofNat_sub hc, Int.natCast_mul, Int.natCast_mul]
  congr 1
  cases s <;> cases t <;> simp_all [sg] <;> grind
theorem sg_add_sub' {s t : Bool} (h : s ≠ t) {a b d : Nat} {x y : Nat} (hc : a * x ≤ b * y) : mkRat (sg s a * (x : Int) + sg t b * (y : Int)) d = mkRat (sg t (b * y - a * x)) d := by
  have : ((b * y - a * x : Nat) : Int) = (b : Int) * y - a * x := by rw [Int.ofNat_sub hc, Int.natCast_mul, Int.natCast_mul]
  congr 1
  cases s <;> cases t <;> simp_all [sg] <;> grind
set_option maxHeartbeats 2000000 in
theorem fracAdd (s1 : Bool) (n1 d1 : Nat) (s2 : Bool) (n2 d2 : Nat) (w : World) (A1 A2 A3 A4 : Option Addr) (c1 c2 c3 c4 : Nat) (h1 : Rd w A1 c1 (W n1)) (h2 : Rd w A2 c2 (W d1)) (h3 : Rd w A3 c3 (W n2)) (h4 : Rd w A4 c4 (W d2))
    (l1 : (W n1).length ≤ 200000) (l2 : (W d1).length ≤ 200000) (l3 : (W n2).length ≤ 200000) (l4 : (W d2).length ≤ 200000) (z1 : d1 ≠ 0) (z2 : d2 ≠ 0) (hT : Tab w) :
    Calls Tryd.prog 78 #[.agg #[.bool s1, .slice A1 (W n1).length c1, .slice A2 (W d1).length c2], .agg #[.bool s2, .slice A3 (W n2).length c3, .slice A4 (W d2).length c4]] w fun e w' => ∃ u, e = .returned u ∧ IsF w' u (mkRat (sg s1 n1 * d2 + sg s2 n2 * d1) (d1 * d2)) ∧ Below w.heap.size w w' := by
  have T0 := Lib.hid (Two.start (s1 := s1) (s2 := s2) h1 h2 h3 h4 hT)
  have Z := Lib.hid (Nat.mul_ne_zero z1 z2)
  have L3 := Lib.hid (Nat.le_trans (W_mul_length n1 d2) (by omega : _ ≤ 400000))
  have L4 := Lib.hid (Nat.le_trans (W_mul_length n2 d1) (by omega : _ ≤ 400000))
  have L6 := Lib.hid (Nat.le_trans (W_mul_length d1 d2) (by omega : _ ≤ 1000000))
  have LA := Lib.hid (show (W (n1 * d2 + n2 * d1)).length ≤ 1000000 from Nat.le_trans (W_add_length _ _) (by have := L3.out; have := L4.out; omega))
  clear h1 h2 h3 h4 hT z1 z2
  go_enter Tryd.func78, Tryd.ntmps78
  go_wp2_with fail
  go_region_held3 (fun W' => (World.cell? W' ⟨(w.heap.size), 0, none⟩ = some (.bool s1) ∧ World.cell? W' ⟨(w.heap.size), 1, none⟩ = some (.slice A1 (W n1).length c1) ∧ World.cell? W' ⟨(w.heap.size), 2, none⟩ = some (.slice A2 (W d1).length c2) ∧ World.cell? W' ⟨(w.heap.size + 1), 0, none⟩ = some (.bool s2) ∧ World.cell? W' ⟨(w.heap.size + 1), 1, none⟩ = some (.slice A3 (W n2).length c3) ∧ World.cell? W' ⟨(w.heap.size + 1), 2, none⟩ = some (.slice A4 (W d2).length c4) ∧ Hid (Two w W' (w.heap.size) (w.heap.size + 1) (w.heap.size + 1 + 1) s1 A1 c1 n1 A2 c2 d1 s2 A3 c3 n2 A4 c4 d2)))
    (first | exact T0.out.cells | exact Two.next (by assumption) (by assumption) | exact Two.nextS (by assumption))
    (first
       | (go_at_call 110
          refine (wMul _ _ _ _ _ _ _ (Two.of (by assumption)).f.r1 (Two.of (by assumption)).g.r2 (by omega) (by omega)).mono ?_
          rintro e wa ⟨Aa, ca, rfl, ra, ba⟩)
       | (go_at_call 110
          refine (wMul _ _ _ _ _ _ _ (Two.of (by assumption)).g.r1 (Two.of (by assumption)).f.r2 (by omega) (by omega)).mono ?_
          rintro e wb ⟨Ab, cb, rfl, rb, bb⟩))
  have tb := Two.of (by assumption)
  have TB := Lib.hid tb
  obtain ⟨x1, x2, x3, x4, x5, x6, _⟩ := tb.cells
  have RA := Lib.hid (ra.below bb)
  have RB := Lib.hid rb
  clear ra rb ba bb tb
  go_wp2_with fail
  refine (wMul _ _ _ _ _ _ _ TB.out.f.r2 TB.out.g.r2 (by omega) (by omega)).mono ?_
  rintro e wc ⟨Ac, cc, rfl, rc, bc⟩
  have RA1 := Lib.hid (RA.out.below bc)
  have RB1 := Lib.hid (RB.out.below bc)
  have RC1 := Lib.hid rc
  have TC := Lib.hid (TB.out.below bc)
  clear rc bc x1 x2 x3 x4 x5 x6
  obtain ⟨x1, x2, x3, x4, x5, x6, _⟩ := TC.out.cells
  by_cases hs : s1 = s2
  · have hsb : (s1 == s2) = true := beq_iff_eq.2 hs
    have HS := Lib.hid hs
    clear hs
    go_wp2_with fail
    go_region_held3 (fun W' => (World.cell? W' ⟨(w.heap.size), 0, none⟩ = some (.bool s1) ∧ World.cell? W' ⟨(w.heap.size), 1, none⟩ = some (.slice A1 (W n1).length c1) ∧ World.cell? W' ⟨(w.heap.size), 2, none⟩ = some (.slice A2 (W d1).length c2) ∧ World.cell? W' ⟨(w.heap.size + 1), 0, none⟩ = some (.bool s2) ∧ World.cell? W' ⟨(w.heap.size + 1), 1, none⟩ = some (.slice A3 (W n2).length c3) ∧ World.cell? W' ⟨(w.heap.size + 1), 2, none⟩ = some (.slice A4 (W d2).length c4) ∧ Hid (Two w W' (w.heap.size) (w.heap.size + 1) (w.heap.size + 1 + 1) s1 A1 c1 n1 A2 c2 d1 s2 A3 c3 n2 A4 c4 d2)))
    (first | exact (TC.out.below (Below.refl _ _).drew).cells | exact Two.next (by assumption) (by assumption) | exact Two.nextS (by assumption))
    (first
       | (go_at_call 111
          refine (wAdd _ _ _ _ _ _ _ (RA1.out.below (Below.refl _ _).drew) (RB1.out.below (Below.refl _ _).drew) (by have := L3.out; omega) (by have := L4.out; omega)).mono ?_
          rintro e wd ⟨Ad, cd, rfl, rd, bd⟩)
       | (go_at_call 92
          refine (wReduce _ _ _ _ _ _ _ _ rd (RC1.out.below (Below.drew_step bd)) Z.out LA.out L6.out (Two.of (by assumption)).tab).mono ?_
          rintro e we ⟨u, rfl, ⟨B1, b1, B2, b2, rfl, hB1, hB2⟩, be⟩
          have hh := (Two.of (by assumption)).below be
          obtain ⟨x, y, z, hx, hy, hz, k1, k2, k3⟩ := hh.res.cells))
    go_wp2
    obtain ⟨q0, q1, q2, r1, r2, hb⟩ := hh.finish (s := ng (mkRat (sg s1 (n1 * d2 + n2 * d1)) (d1 * d2))) hB1 hB2
    refine bodyPost_ret (v := .agg #[.bool (ng (mkRat (sg s1 (n1 * d2 + n2 * d1)) (d1 * d2))), .slice B1 (W (mkRat (sg s1 (n1 * d2 + n2 * d1)) (d1 * d2)).num.natAbs).length b1, .slice B2 (W (mkRat (sg s1 (n1 * d2 + n2 * d1)) (d1 * d2)).den).length b2]) (by simp [results, Tryd.results78, go_sem, q0, q1, q2]) rfl ?_
    refine ⟨_, rfl, ?_, hb⟩
    
    rw [sg_add_same HS.out]; exact ⟨_, _, _, _, rfl, r1, r2⟩
  · have hsb : (s1 == s2) = false := beq_eq_false_iff_ne.2 hs
    have HS := Lib.hid hs
    clear hs
    go_wp2_with fail
    refine (wCmp _ _ _ _ _ _ _ RA1.out RB1.out).mono ?_
    rintro e w5 ⟨rfl, b5⟩
    have RA1 := Lib.hid (RA1.out.below b5)
    have RB1 := Lib.hid (RB1.out.below b5)
    have RC1 := Lib.hid (RC1.out.below b5)
    have TC := Lib.hid (TC.out.below b5)
    clear b5 x1 x2 x3 x4 x5 x6
    obtain ⟨x1, x2, x3, x4, x5, x6, _⟩ := TC.out.cells
    by_cases hc : n2 * d1 ≤ n1 * d2
    · have hcb : (0 : Int) ≤ cmpI (n1 * d2) (n2 * d1) := by unfold cmpI; split <;> omega
      have HC := Lib.hid hc
      clear hc
      go_wp2_with fail
      go_region_held3 (fun W' => (World.cell? W' ⟨(w.heap.size), 0, none⟩ = some (.bool s1) ∧ World.cell? W' ⟨(w.heap.size), 1, none⟩ = some (.slice A1 (W n1).length c1) ∧ World.cell? W' ⟨(w.heap.size), 2, none⟩ = some (.slice A2 (W d1).length c2) ∧ World.cell? W' ⟨(w.heap.size + 1), 0, none⟩ = some (.bool s2) ∧ World.cell? W' ⟨(w.heap.size + 1), 1, none⟩ = some (.slice A3 (W n2).length c3) ∧ World.cell? W' ⟨(w.heap.size + 1), 2, none⟩ = some (.slice A4 (W d2).length c4) ∧ Hid (Two w W' (w.heap.size) (w.heap.size + 1) (w.heap.size + 1 + 1) s1 A1 c1 n1 A2 c2 d1 s2 A3 c3 n2 A4 c4 d2)))
      (first | exact (TC.out.below (Below.refl _ _).drew).cells | exact Two.next (by assumption) (by assumption) | exact Two.nextS (by assumption))
      (first
         | (go_at_call 114
            refine (wSub _ _ _ _ _ _ _ (RA1.out.below (Below.refl _ _).drew) (RB1.out.below (Below.refl _ _).drew) (by have := L3.out; omega) HC.out).mono ?_
            rintro e wd ⟨Ad, cd, rfl, rd, bd⟩)
         | (go_at_call 92
            refine (wReduce _ _ _ _ _ _ _ _ rd (RC1.out.below (Below.drew_step bd)) Z.out (Nat.le_trans (dig_length_mono B32_two (Nat.sub_le _ _)) (Nat.le_trans L3.out (by omega))) L6.out (Two.of (by assumption)).tab).mono ?_
            rintro e we ⟨u, rfl, ⟨B1, b1, B2, b2, rfl, hB1, hB2⟩, be⟩
            have hh := (Two.of (by assumption)).below be
            obtain ⟨x, y, z, hx, hy, hz, k1, k2, k3⟩ := hh.res.cells))
      go_wp2
      obtain ⟨q0, q1, q2, r1, r2, hb⟩ := hh.finish (s := ng (mkRat (sg s1 (n1 * d2 - n2 * d1)) (d1 * d2))) hB1 hB2
      refine bodyPost_ret (v := .agg #[.bool (ng (mkRat (sg s1 (n1 * d2 - n2 * d1)) (d1 * d2))), .slice B1 (W (mkRat (sg s1 (n1 * d2 - n2 * d1)) (d1 * d2)).num.natAbs).length b1, .slice B2 (W (mkRat (sg s1 (n1 * d2 - n2 * d1)) (d1 * d2)).den).length b2]) (by simp [results, Tryd.results78, go_sem, q0, q1, q2]) rfl ?_
      refine ⟨_, rfl, ?_, hb⟩
      
      rw [sg_add_sub HS.out HC.out]; exact ⟨_, _, _, _, rfl, r1, r2⟩
    · have hcb : cmpI (n1 * d2) (n2 * d1) < (0 : Int) := by unfold cmpI; split <;> omega
      have HC := Lib.hid (show n1 * d2 ≤ n2 * d1 by omega)
      clear hc
      go_wp2_with fail
      go_region_held3 (fun W' => (World.cell? W' ⟨(w.heap.size), 0, none⟩ = some (.bool s1) ∧ World.cell? W' ⟨(w.heap.size), 1, none⟩ = some (.slice A1 (W n1).length c1) ∧ World.cell? W' ⟨(w.heap.size), 2, none⟩ = some (.slice A2 (W d1).length c2) ∧ World.cell? W' ⟨(w.heap.size + 1), 0, none⟩ = some (.bool s2) ∧ World.cell? W' ⟨(w.heap.size + 1), 1, none⟩ = some (.slice A3 (W n2).length c3) ∧ World.cell? W' ⟨(w.heap.size + 1), 2, none⟩ = some (.slice A4 (W d2).length c4) ∧ Hid (Two w W' (w.heap.size) (w.heap.size + 1) (w.heap.size + 1 + 1) s1 A1 c1 n1 A2 c2 d1 s2 A3 c3 n2 A4 c4 d2)))
      (first | exact (TC.out.below (Below.refl _ _).drew).cells | exact Two.next (by assumption) (by assumption) | exact Two.nextS (by assumption))
      (first
         | (go_at_call 114
            refine (wSub _ _ _ _ _ _ _ (RB1.out.below (Below.refl _ _).drew) (RA1.out.below (Below.refl _ _).drew) (by have := L4.out; omega) HC.out).mono ?_
            rintro e wd ⟨Ad, cd, rfl, rd, bd⟩)
         | (go_at_call 92
            refine (wReduce _ _ _ _ _ _ _ _ rd (RC1.out.below (Below.drew_step bd)) Z.out (Nat.le_trans (dig_length_mono B32_two (Nat.sub_le _ _)) (Nat.le_trans L4.out (by omega))) L6.out (Two.of (by assumption)).tab).mono ?_
            rintro e we ⟨u, rfl, ⟨B1, b1, B2, b2, rfl, hB1, hB2⟩, be⟩
            have hh := (Two.of (by assumption)).below be
            obtain ⟨x, y, z, hx, hy, hz, k1, k2, k3⟩ := hh.res.cells))
      go_wp2
      obtain ⟨q0, q1, q2, r1, r2, hb⟩ := hh.finish (s := ng (mkRat (sg s2 (n2 * d1 - n1 * d2)) (d1 * d2))) hB1 hB2
      refine bodyPost_ret (v := .agg #[.bool (ng (mkRat (sg s2 (n2 * d1 - n1 * d2)) (d1 * d2))), .slice B1 (W (mkRat (sg s2 (n2 * d1 - n1 * d2)) (d1 * d2)).num.natAbs).length b1, .slice B2 (W (mkRat (sg s2 (n2 * d1 - n1 * d2)) (d1 * d2)).den).length b2]) (by simp [results, Tryd.results78, go_sem, q0, q1, q2]) rfl ?_
      refine ⟨_, rfl, ?_, hb⟩
      
      rw [sg_add_sub' HS.out HC.out]; exact ⟨_, _, _, _, rfl, r1, r2⟩
end Go.Proofs.YtfmhplcpejmkhabDoor

namespace Go.Proofs.YtfmhplcpejmkhabDoor
open Go.RowKit Dig
set_option linter.unusedVariables false
set_option linter.unusedSimpArgs false

theorem below_alloc2 (w : World) (x y z x' y' z' : Value) (t t' : TypeId) : Below w.heap.size w ((w.alloc (.cells #[x, y, z] t)).alloc (.cells #[x', y', z'] t')) := below_step (below_alloc w _) (by simp) (below_alloc _ _)
theorem W_nil (n : Nat) : decide (W n = []) = decide (n = 0) := by
  by_cases h : n = 0
  · subst h; simp [W_zero]
  · rw [W_nil_false h]; simp [h]
set_option maxHeartbeats 2000000 in
theorem fracOpposite (s1 : Bool) (n1 d1 : Nat) (w : World) (A1 A2 : Option Addr) (c1 c2 : Nat) :
    Calls Tryd.prog 65 #[.agg #[.bool s1, .slice A1 (W n1).length c1, .slice A2 (W d1).length c2]] w fun e w' => e = .returned (.agg #[.bool (!s1 && !decide (n1 = 0)), .slice A1 (W n1).length c1, .slice A2 (W d1).length c2]) ∧ Below w.heap.size w w' := by
  go_enter Tryd.func65, Tryd.ntmps65
  cases s1
  · go_wp2_with fail
    refine (wZero _ _ _ _).mono ?_
    rintro e w' ⟨rfl, rfl⟩
    rw [W_nil]
    go_wp2_with fail
    refine bodyPost_ret (v := .agg #[.bool (!decide (n1 = 0)), .slice A1 (W n1).length c1, .slice A2 (W d1).length c2]) (by simp [results, Tryd.results65, go_sem]) rfl ⟨rfl, below_alloc2 _ _ _ _ _ _ _ _ _⟩
  · go_wp2_with fail
    refine bodyPost_ret (v := .agg #[.bool false, .slice A1 (W n1).length c1, .slice A2 (W d1).length c2]) (by simp [results, Tryd.results65, go_sem]) rfl ⟨rfl, below_alloc2 _ _ _ _ _ _ _ _ _⟩
set_option maxHeartbeats 2000000 in
theorem fracInverse (s1 : Bool) (n1 d1 : Nat) (w : World) (A1 A2 : Option Addr) (c1 c2 : Nat) :
    Calls Tryd.prog 55 #[.agg #[.bool s1, .slice A1 (W n1).length c1, .slice A2 (W d1).length c2]] w fun e w' => e = .returned (.agg #[.bool s1, .slice A2 (W d1).length c2, .slice A1 (W n1).length c1]) ∧ Below w.heap.size w w' := by
  go_enter Tryd.func55, Tryd.ntmps55
  go_wp2_with fail
  refine bodyPost_ret (v := .agg #[.bool s1, .slice A2 (W d1).length c2, .slice A1 (W n1).length c1]) (by simp [results, Tryd.results55, go_sem]) rfl ⟨rfl, below_alloc2 _ _ _ _ _ _ _ _ _⟩
/-- how two integers compare -/
def cmpZ (a b : Int) : Int := if a < b then -1 else if a = b then 0 else 1
/-- the sign of a fraction -/
def sgnI (s : Bool) (n : Nat) : Int := if n = 0 then 0 else if s then -1 else 1
set_option maxHeartbeats 2000000 in
theorem fracSign (s1 : Bool) (n1 d1 : Nat) (w : World) (A1 A2 : Option Addr) (c1 c2 : Nat) :
    Calls Tryd.prog 63 #[.agg #[.bool s1, .slice A1 (W n1).length c1, .slice A2 (W d1).length c2]] w fun e w' => e = .returned (.int .i64 (sgnI s1 n1)) ∧ Below w.heap.size w w' := by
  go_enter Tryd.func63, Tryd.ntmps63
  go_wp2_with fail
  refine (wZero _ _ _ _).mono ?_
  rintro e w' ⟨rfl, rfl⟩
  by_cases h : n1 = 0
  · rw [W_nil, show decide (n1 = 0) = true by simp [h]]
    have h := Lib.hid h
    go_wp2_with fail
    go_ret
    exact ⟨ret_int (by rw [sgnI, if_pos h.out]), below_alloc _ _⟩
  · rw [W_nil_false h]
    have h := Lib.hid h
    cases s1
    · go_wp2_with fail
      go_ret
      exact ⟨ret_int (by rw [sgnI, if_neg h.out]; rfl), below_alloc _ _⟩
    · go_wp2_with fail
      go_ret
      exact ⟨ret_int (by rw [sgnI, if_neg h.out]; rfl), below_alloc _ _⟩
set_option maxHeartbeats 2000000 in
theorem fracFits (s1 : Bool) (n1 d1 : Nat) (w : World) (A1 A2 : Option Addr) (c1 c2 : Nat) :
    Calls Tryd.prog 98 #[.agg #[.bool s1, .slice A1 (W n1).length c1, .slice A2 (W d1).length c2]] w fun e w' => e = .returned (.bool (decide ((W n1).length ≤ 64) && decide ((W d1).length ≤ 64))) ∧ Below w.heap.size w w' := by
  go_enter Tryd.func98, Tryd.ntmps98
  go_wp2_with fail
  all_goals (go_ret; refine ⟨ret_bool ?_, below_alloc _ _⟩; rw [Bool.eq_iff_iff]; simp only [Bool.and_eq_true, decide_eq_true_eq, Bool.false_eq_true, false_iff]; omega)


/-- what stays while a statement over two fractions without a result variable goes on -/
structure Pr (w M : World) (g1 g2 : Nat) (s1 : Bool) (A1 : Option Addr) (c1 n1 : Nat) (A2 : Option Addr) (c2 d1 : Nat) (s2 : Bool) (A3 : Option Addr) (c3 n2 : Nat) (A4 : Option Addr) (c4 d2 : Nat) : Prop where
  f : Fld M g1 s1 A1 c1 n1 A2 c2 d1
  g : Fld M g2 s2 A3 c3 n2 A4 c4 d2
  bel : Below w.heap.size w M
section
variable {w M M' : World} {g1 g2 : Nat} {s1 : Bool} {A1 : Option Addr} {c1 n1 : Nat} {A2 : Option Addr} {c2 d1 : Nat} {s2 : Bool} {A3 : Option Addr} {c3 n2 : Nat} {A4 : Option Addr} {c4 d2 : Nat}
theorem Pr.of (h : (World.cell? M ⟨g1, 0, none⟩ = some (.bool s1) ∧ World.cell? M ⟨g1, 1, none⟩ = some (.slice A1 (W n1).length c1) ∧ World.cell? M ⟨g1, 2, none⟩ = some (.slice A2 (W d1).length c2) ∧ World.cell? M ⟨g2, 0, none⟩ = some (.bool s2) ∧ World.cell? M ⟨g2, 1, none⟩ = some (.slice A3 (W n2).length c3) ∧ World.cell? M ⟨g2, 2, none⟩ = some (.slice A4 (W d2).length c4) ∧ Hid (Pr w M g1 g2 s1 A1 c1 n1 A2 c2 d1 s2 A3 c3 n2 A4 c4 d2))) : Pr w M g1 g2 s1 A1 c1 n1 A2 c2 d1 s2 A3 c3 n2 A4 c4 d2 := h.2.2.2.2.2.2.out
theorem Pr.below (h : Pr w M g1 g2 s1 A1 c1 n1 A2 c2 d1 s2 A3 c3 n2 A4 c4 d2) (hb : Below M.heap.size M M') : Pr w M' g1 g2 s1 A1 c1 n1 A2 c2 d1 s2 A3 c3 n2 A4 c4 d2 :=
  ⟨h.f.below hb, h.g.below hb, below_step h.bel h.bel.size hb⟩
theorem Pr.cells (h : Pr w M g1 g2 s1 A1 c1 n1 A2 c2 d1 s2 A3 c3 n2 A4 c4 d2) : (World.cell? M ⟨g1, 0, none⟩ = some (.bool s1) ∧ World.cell? M ⟨g1, 1, none⟩ = some (.slice A1 (W n1).length c1) ∧ World.cell? M ⟨g1, 2, none⟩ = some (.slice A2 (W d1).length c2) ∧ World.cell? M ⟨g2, 0, none⟩ = some (.bool s2) ∧ World.cell? M ⟨g2, 1, none⟩ = some (.slice A3 (W n2).length c3) ∧ World.cell? M ⟨g2, 2, none⟩ = some (.slice A4 (W d2).length c4) ∧ Hid (Pr w M g1 g2 s1 A1 c1 n1 A2 c2 d1 s2 A3 c3 n2 A4 c4 d2)) := by
  obtain ⟨a1, a2, a3, _, _, _⟩ := h.f.box.cells
  obtain ⟨b1, b2, b3, _, _, _⟩ := h.g.box.cells
  exact ⟨a1, a2, a3, b1, b2, b3, h⟩
theorem Pr.next (h : (World.cell? M ⟨g1, 0, none⟩ = some (.bool s1) ∧ World.cell? M ⟨g1, 1, none⟩ = some (.slice A1 (W n1).length c1) ∧ World.cell? M ⟨g1, 2, none⟩ = some (.slice A2 (W d1).length c2) ∧ World.cell? M ⟨g2, 0, none⟩ = some (.bool s2) ∧ World.cell? M ⟨g2, 1, none⟩ = some (.slice A3 (W n2).length c3) ∧ World.cell? M ⟨g2, 2, none⟩ = some (.slice A4 (W d2).length c4) ∧ Hid (Pr w M g1 g2 s1 A1 c1 n1 A2 c2 d1 s2 A3 c3 n2 A4 c4 d2))) (hb : Below M.heap.size M M') : (World.cell? M' ⟨g1, 0, none⟩ = some (.bool s1) ∧ World.cell? M' ⟨g1, 1, none⟩ = some (.slice A1 (W n1).length c1) ∧ World.cell? M' ⟨g1, 2, none⟩ = some (.slice A2 (W d1).length c2) ∧ World.cell? M' ⟨g2, 0, none⟩ = some (.bool s2) ∧ World.cell? M' ⟨g2, 1, none⟩ = some (.slice A3 (W n2).length c3) ∧ World.cell? M' ⟨g2, 2, none⟩ = some (.slice A4 (W d2).length c4) ∧ Hid (Pr w M' g1 g2 s1 A1 c1 n1 A2 c2 d1 s2 A3 c3 n2 A4 c4 d2)) := ((Pr.of h).below hb).cells
end
theorem Pr.start {w : World} {s1 : Bool} {A1 : Option Addr} {c1 n1 : Nat} {A2 : Option Addr} {c2 d1 : Nat} {s2 : Bool} {A3 : Option Addr} {c3 n2 : Nat} {A4 : Option Addr} {c4 d2 : Nat}
    (h1 : Rd w A1 c1 (W n1)) (h2 : Rd w A2 c2 (W d1)) (h3 : Rd w A3 c3 (W n2)) (h4 : Rd w A4 c4 (W d2)) :
    Pr w (((w.alloc (.cells #[.bool s1, .slice A1 (W n1).length c1, .slice A2 (W d1).length c2] 65)).alloc (.cells #[.bool s2, .slice A3 (W n2).length c3, .slice A4 (W d2).length c4] 65))).drew w.heap.size (w.heap.size + 1) s1 A1 c1 n1 A2 c2 d1 s2 A3 c3 n2 A4 c4 d2 := by
  have b1 := below_alloc w (.cells #[.bool s1, .slice A1 (W n1).length c1, .slice A2 (W d1).length c2] 65)
  have k1 := Box.new w (.bool s1) (.slice A1 (W n1).length c1) (.slice A2 (W d1).length c2) 65
  have z1 : (w.alloc (.cells #[.bool s1, .slice A1 (W n1).length c1, .slice A2 (W d1).length c2] 65)).heap.size = w.heap.size + 1 := by simp
  generalize w.alloc (.cells #[.bool s1, .slice A1 (W n1).length c1, .slice A2 (W d1).length c2] 65) = w1 at *
  have b2 := below_alloc w1 (.cells #[.bool s2, .slice A3 (W n2).length c3, .slice A4 (W d2).length c4] 65)
  have k2 := Box.new w1 (.bool s2) (.slice A3 (W n2).length c3) (.slice A4 (W d2).length c4) 65
  rw [z1] at k2
  generalize w1.alloc (.cells #[.bool s2, .slice A3 (W n2).length c3, .slice A4 (W d2).length c4] 65) = w2 at *
  have hd : Below w2.heap.size w2 w2.drew := (Below.refl _ _).drew
  have b02 : Below w.heap.size w w2 := below_step b1 b1.size b2
  exact ⟨⟨(k1.below b2).below hd, (h1.below b02).below hd, (h2.below b02).below hd⟩, ⟨k2.below hd, (h3.below b02).below hd, (h4.below b02).below hd⟩, b02.drew⟩

section
variable {s1 s2 : Bool} {n1 n2 d1 d2 : Nat}
theorem prod_zero {n d : Nat} (hd : d ≠ 0) : (n * d = 0 ∧ n = 0) ∨ (0 < n * d ∧ n ≠ 0) := by
  rcases Nat.eq_zero_or_pos n with h | h
  · left; subst h; simp
  · right; exact ⟨Nat.mul_pos h (by omega), by omega⟩
theorem sg_mul (s : Bool) (n d : Nat) : sg s n * (d : Int) = sg s (n * d) := by cases s <;> simp [sg] <;> grind
theorem cmp_same_pos (h : sgnI false n1 = sgnI s2 n2) (z1 : d1 ≠ 0) (z2 : d2 ≠ 0) : cmpI (n1 * d2) (n2 * d1) = cmpZ (sg false n1 * d2) (sg s2 n2 * d1) := by
  rw [sg_mul, sg_mul]
  have a := prod_zero (n := n1) z2
  have b := prod_zero (n := n2) z1
  generalize n1 * d2 = x at *
  generalize n2 * d1 = y at *
  unfold sgnI at h
  unfold cmpI cmpZ sg
  cases s2 <;> simp at h ⊢ <;> (repeat' split) <;> grind
theorem cmp_same_neg (h : sgnI true n1 = sgnI s2 n2) (z1 : d1 ≠ 0) (z2 : d2 ≠ 0) : -cmpI (n1 * d2) (n2 * d1) = cmpZ (sg true n1 * d2) (sg s2 n2 * d1) := by
  rw [sg_mul, sg_mul]
  have a := prod_zero (n := n1) z2
  have b := prod_zero (n := n2) z1
  generalize n1 * d2 = x at *
  generalize n2 * d1 = y at *
  unfold sgnI at h
  unfold cmpI cmpZ sg
  cases s2 <;> simp at h ⊢ <;> (repeat' split) <;> grind
theorem cmp_diff_lt (h : sgnI s1 n1 < sgnI s2 n2) (z1 : d1 ≠ 0) (z2 : d2 ≠ 0) : -1 = cmpZ (sg s1 n1 * d2) (sg s2 n2 * d1) := by
  rw [sg_mul, sg_mul]
  have a := prod_zero (n := n1) z2
  have b := prod_zero (n := n2) z1
  generalize n1 * d2 = x at *
  generalize n2 * d1 = y at *
  unfold sgnI at h
  unfold cmpZ sg
  cases s1 <;> cases s2 <;> simp at h ⊢ <;> (repeat' split) <;> grind
theorem cmp_diff_gt (h' : ¬sgnI s1 n1 = sgnI s2 n2) (h : ¬sgnI s1 n1 < sgnI s2 n2) (z1 : d1 ≠ 0) (z2 : d2 ≠ 0) : 1 = cmpZ (sg s1 n1 * d2) (sg s2 n2 * d1) := by
  rw [sg_mul, sg_mul]
  have a := prod_zero (n := n1) z2
  have b := prod_zero (n := n2) z1
  generalize n1 * d2 = x at *
  generalize n2 * d1 = y at *
  unfold sgnI at h h'
  unfold cmpZ sg
  cases s1 <;> cases s2 <;> simp at h h' ⊢ <;> (repeat' split) <;> grind
theorem wrap_neg_cmp (a b : Nat) : IntKind.i64.wrap (-cmpI a b) = -cmpI a b := by
  unfold cmpI; split
  · rfl
  · split <;> rfl
end

set_option maxHeartbeats 4000000 in
set_option maxRecDepth 100000 in
theorem fracCmp (s1 : Bool) (n1 d1 : Nat) (s2 : Bool) (n2 d2 : Nat) (w : World) (A1 A2 A3 A4 : Option Addr) (c1 c2 c3 c4 : Nat) (h1 : Rd w A1 c1 (W n1)) (h2 : Rd w A2 c2 (W d1)) (h3 : Rd w A3 c3 (W n2)) (h4 : Rd w A4 c4 (W d2))
    (l1 : (W n1).length ≤ 400000) (l2 : (W d1).length ≤ 400000) (l3 : (W n2).length ≤ 400000) (l4 : (W d2).length ≤ 400000) (z1 : d1 ≠ 0) (z2 : d2 ≠ 0) :
    Calls Tryd.prog 75 #[.agg #[.bool s1, .slice A1 (W n1).length c1, .slice A2 (W d1).length c2], .agg #[.bool s2, .slice A3 (W n2).length c3, .slice A4 (W d2).length c4]] w fun e w' => e = .returned (.int .i64 (cmpZ (sg s1 n1 * d2) (sg s2 n2 * d1))) ∧ Below w.heap.size w w' := by
  have T0 := Lib.hid (Pr.start (s1 := s1) (s2 := s2) h1 h2 h3 h4)
  have Z1 := Lib.hid z1
  have Z2 := Lib.hid z2
  clear h1 h2 h3 h4 z1 z2
  go_enter Tryd.func75, Tryd.ntmps75
  go_wp2_with fail
  go_region_held3 (fun W' => (World.cell? W' ⟨(w.heap.size), 0, none⟩ = some (.bool s1) ∧ World.cell? W' ⟨(w.heap.size), 1, none⟩ = some (.slice A1 (W n1).length c1) ∧ World.cell? W' ⟨(w.heap.size), 2, none⟩ = some (.slice A2 (W d1).length c2) ∧ World.cell? W' ⟨(w.heap.size + 1), 0, none⟩ = some (.bool s2) ∧ World.cell? W' ⟨(w.heap.size + 1), 1, none⟩ = some (.slice A3 (W n2).length c3) ∧ World.cell? W' ⟨(w.heap.size + 1), 2, none⟩ = some (.slice A4 (W d2).length c4) ∧ Hid (Pr w W' (w.heap.size) (w.heap.size + 1) s1 A1 c1 n1 A2 c2 d1 s2 A3 c3 n2 A4 c4 d2)))
    (first | exact T0.out.cells | exact Pr.next (by assumption) (by assumption))
    (first
       | (go_at_call 63
          refine (fracSign _ _ _ _ _ _ _ _).mono ?_
          rintro e wb ⟨rfl, bb⟩))
  have tb := Pr.of (by assumption)
  have TB := Lib.hid tb
  obtain ⟨x1, x2, x3, x4, x5, x6, _⟩ := tb.cells
  clear tb
  by_cases hs : sgnI s1 n1 = sgnI s2 n2
  · have hsb : (sgnI s1 n1 != sgnI s2 n2) = false := by rw [bne_eq_false_iff_eq]; exact hs
    have HS := Lib.hid hs
    clear hs
    go_wp2_with fail
    go_region_held3 (fun W' => (World.cell? W' ⟨(w.heap.size), 0, none⟩ = some (.bool s1) ∧ World.cell? W' ⟨(w.heap.size), 1, none⟩ = some (.slice A1 (W n1).length c1) ∧ World.cell? W' ⟨(w.heap.size), 2, none⟩ = some (.slice A2 (W d1).length c2) ∧ World.cell? W' ⟨(w.heap.size + 1), 0, none⟩ = some (.bool s2) ∧ World.cell? W' ⟨(w.heap.size + 1), 1, none⟩ = some (.slice A3 (W n2).length c3) ∧ World.cell? W' ⟨(w.heap.size + 1), 2, none⟩ = some (.slice A4 (W d2).length c4) ∧ Hid (Pr w W' (w.heap.size) (w.heap.size + 1) s1 A1 c1 n1 A2 c2 d1 s2 A3 c3 n2 A4 c4 d2)))
      (first | exact (TB.out.below (Below.refl _ _).drew).cells | exact Pr.next (by assumption) (by assumption))
      (first
         | (go_at_call 110
            refine (wMul _ _ _ _ _ _ _ (Pr.of (by assumption)).f.r1 (Pr.of (by assumption)).g.r2 (by omega) (by omega)).mono ?_
            rintro e wc ⟨Ac, cc, rfl, rc, bc⟩)
         | (go_at_call 110
            refine (wMul _ _ _ _ _ _ _ (Pr.of (by assumption)).g.r1 (Pr.of (by assumption)).f.r2 (by omega) (by omega)).mono ?_
            rintro e wd ⟨Ad, cd, rfl, rd, bd⟩)
         | (go_at_call 112
            refine (wCmp _ _ _ _ _ _ _ (rc.below bd) rd).mono ?_
            rintro e we ⟨rfl, be⟩))
    have tc := Pr.of (by assumption)
    have TC := Lib.hid tc
    obtain ⟨x1, x2, x3, x4, x5, x6, _⟩ := tc.cells
    clear tc

    rcases hb : s1 with _ | _
    · subst hb
      go_wp2_with fail
      go_ret
      exact ⟨ret_int (cmp_same_pos HS.out Z1.out Z2.out), TC.out.bel⟩
    · subst hb
      have hw := wrap_neg_cmp (n1 * d2) (n2 * d1)
      go_wp2_with fail
      go_ret
      exact ⟨ret_int (cmp_same_neg HS.out Z1.out Z2.out), TC.out.bel⟩
  · have hsb : (sgnI s1 n1 != sgnI s2 n2) = true := by rw [bne_iff_ne]; exact hs
    have HS := Lib.hid hs
    clear hs
    go_wp2_with fail
    go_region_held3 (fun W' => (World.cell? W' ⟨(w.heap.size), 0, none⟩ = some (.bool s1) ∧ World.cell? W' ⟨(w.heap.size), 1, none⟩ = some (.slice A1 (W n1).length c1) ∧ World.cell? W' ⟨(w.heap.size), 2, none⟩ = some (.slice A2 (W d1).length c2) ∧ World.cell? W' ⟨(w.heap.size + 1), 0, none⟩ = some (.bool s2) ∧ World.cell? W' ⟨(w.heap.size + 1), 1, none⟩ = some (.slice A3 (W n2).length c3) ∧ World.cell? W' ⟨(w.heap.size + 1), 2, none⟩ = some (.slice A4 (W d2).length c4) ∧ Hid (Pr w W' (w.heap.size) (w.heap.size + 1) s1 A1 c1 n1 A2 c2 d1 s2 A3 c3 n2 A4 c4 d2)))
      (first | exact (TB.out.below (Below.refl _ _).drew).cells | exact Pr.next (by assumption) (by assumption))
      (first
         | (go_at_call 63
            refine (fracSign _ _ _ _ _ _ _ _).mono ?_
            rintro e wc ⟨rfl, bc⟩))
    have tc := Pr.of (by assumption)
    have TC := Lib.hid tc
    obtain ⟨x1, x2, x3, x4, x5, x6, _⟩ := tc.cells
    clear tc

    by_cases hl : sgnI s1 n1 < sgnI s2 n2
    · have HL := Lib.hid hl
      go_wp2_with fail
      go_ret
      exact ⟨ret_int (cmp_diff_lt HL.out Z1.out Z2.out), TC.out.bel⟩
    · have hl2 : sgnI s2 n2 ≤ sgnI s1 n1 := by omega
      have HL := Lib.hid hl
      clear hl
      go_wp2_with fail
      go_ret
      exact ⟨ret_int (cmp_diff_gt HS.out (Int.not_lt.2 HL.out) Z1.out Z2.out), TC.out.bel⟩
end Go.Proofs.YtfmhplcpejmkhabDoor

namespace Go.Proofs.YtfmhplcpejmkhabDoor
open Go.RowKit Dig
set_option linter.unusedVariables false
set_option linter.unusedSimpArgs false
/-- at the beginning: the argument and the result lie in new variables -/
theorem Two.start1 {w : World} {s1 : Bool} {A1 : Option Addr} {c1 n1 : Nat} {A2 : Option Addr} {c2 d1 : Nat} (h1 : Rd w A1 c1 (W n1)) (h2 : Rd w A2 c2 (W d1)) (hT : Tab w) :
    Two w (((w.alloc (.cells #[.bool s1, .slice A1 (W n1).length c1, .slice A2 (W d1).length c2] 65))).alloc (.cells #[.bool false, .slice none 0 0, .slice none 0 0] 65)).drew w.heap.size w.heap.size (w.heap.size + 1) s1 A1 c1 n1 A2 c2 d1 s1 A1 c1 n1 A2 c2 d1 := by
  have b1 := below_alloc w (.cells #[.bool s1, .slice A1 (W n1).length c1, .slice A2 (W d1).length c2] 65)
  have k1 := Box.new w (.bool s1) (.slice A1 (W n1).length c1) (.slice A2 (W d1).length c2) 65
  have z1 : (w.alloc (.cells #[.bool s1, .slice A1 (W n1).length c1, .slice A2 (W d1).length c2] 65)).heap.size = w.heap.size + 1 := by simp
  generalize w.alloc (.cells #[.bool s1, .slice A1 (W n1).length c1, .slice A2 (W d1).length c2] 65) = w1 at *
  have b3 := below_alloc w1 (.cells #[.bool false, .slice none 0 0, .slice none 0 0] 65)
  have k3 := Box.new w1 (.bool false) (.slice none 0 0) (.slice none 0 0) 65
  rw [z1] at k3
  generalize w1.alloc (.cells #[.bool false, .slice none 0 0, .slice none 0 0] 65) = w3 at *
  have hd : Below w3.heap.size w3 w3.drew := (Below.refl _ _).drew
  have b03 : Below w.heap.size w w3 := below_step b1 b1.size b3
  exact ⟨⟨(k1.below b3).below hd, (h1.below b03).below hd, (h2.below b03).below hd⟩, ⟨(k1.below b3).below hd, (h1.below b03).below hd, (h2.below b03).below hd⟩, ⟨.bool false, .slice none 0 0, .slice none 0 0, NI.bool _, NI.slice _ _ _, NI.slice _ _ _, k3.below hd⟩, (hT.below b03).below hd, b03.drew, by omega, by omega, by omega, by omega⟩

theorem W_le_one {n : Nat} (h : n < 4294967296) : (W n).length ≤ 1 := (dig_length_le B32_two n 1).2 (by rw [show B32 = 4294967296 from rfl]; omega)
theorem wSmall1 (w : World) : Calls Tryd.prog 94 #[.int .u64 1] w fun e w' => ∃ A c, e = .returned (.slice A (W 1).length c) ∧ Rd w' A c (W 1) ∧ Below w.heap.size w w' := wSmall w 1 (by omega) (by omega)
/-- the numerator on a grid -/
def gridN (s : Bool) (n d p : Nat) (up : Bool) : Nat := n * 2 ^ p / d + if (up != s) = true ∧ n * 2 ^ p % d ≠ 0 then 1 else 0
set_option maxHeartbeats 4000000 in
set_option maxRecDepth 100000 in
theorem fracGrid (s1 : Bool) (n1 d1 : Nat) (p : Nat) (up : Bool) (w : World) (A1 A2 : Option Addr) (c1 c2 : Nat) (h1 : Rd w A1 c1 (W n1)) (h2 : Rd w A2 c2 (W d1)) 
    (l1 : (W n1).length ≤ 200000) (l2 : (W d1).length ≤ 200000) (lp : p ≤ 100000) (z1 : d1 ≠ 0) (hT : Tab w) :
    Calls Tryd.prog 116 #[.agg #[.bool s1, .slice A1 (W n1).length c1, .slice A2 (W d1).length c2], .int .i64 p, .bool up] w fun e w' => ∃ u, e = .returned u ∧ IsF w' u (mkRat (sg s1 (gridN s1 n1 d1 p up)) (2 ^ p)) ∧ Below w.heap.size w w' := by
  have T0 := Lib.hid (Two.start1 (s1 := s1) h1 h2 hT)
  have L3 := Lib.hid (Nat.le_trans (W_mul_length n1 (2 ^ p)) (by have := W_two_pow p; omega : _ ≤ 400000))
  have Z := Lib.hid z1
  have L4 := Lib.hid (Nat.le_trans (W_two_pow p) (by omega : _ ≤ 400000))
  clear h1 h2 hT z1
  go_enter Tryd.func116, Tryd.ntmps116
  go_wp2_with fail
  go_region_held3 (fun W' => (World.cell? W' ⟨(w.heap.size), 0, none⟩ = some (.bool s1) ∧ World.cell? W' ⟨(w.heap.size), 1, none⟩ = some (.slice A1 (W n1).length c1) ∧ World.cell? W' ⟨(w.heap.size), 2, none⟩ = some (.slice A2 (W d1).length c2) ∧ World.cell? W' ⟨(w.heap.size), 0, none⟩ = some (.bool s1) ∧ World.cell? W' ⟨(w.heap.size), 1, none⟩ = some (.slice A1 (W n1).length c1) ∧ World.cell? W' ⟨(w.heap.size), 2, none⟩ = some (.slice A2 (W d1).length c2) ∧ Hid (Two w W' (w.heap.size) (w.heap.size) (w.heap.size + 1) s1 A1 c1 n1 A2 c2 d1 s1 A1 c1 n1 A2 c2 d1)))
    (first | exact T0.out.cells | exact Two.next (by assumption) (by assumption) | exact Two.nextS (by assumption))
    (first
       | (go_at_call 108
          refine (wShl _ _ _ _ _ (Two.of (by assumption)).f.r1 (by omega) (by omega)).mono ?_
          rintro e wa ⟨Aa, ca, rfl, ra, ba⟩)
       | (go_at_call 109
          refine (wDiv _ _ _ _ _ _ _ ra (Two.of (by assumption)).f.r2 (Nat.le_trans L3.out (by omega)) (by have := Z.out; omega)).mono ?_
          rintro e wb ⟨Aq, cq, Ar, cr, rfl, rq, rr, bb⟩))
  have tb := Two.of (by assumption)
  have TB := Lib.hid tb
  obtain ⟨x1, x2, x3, x4, x5, x6, _⟩ := tb.cells
  have RQ := Lib.hid rq
  have RR := Lib.hid rr
  clear ra rq rr ba bb tb
  have LQ := Lib.hid (show (W (n1 * 2 ^ p / d1)).length ≤ 400000 from Nat.le_trans (dig_length_mono B32_two (Nat.div_le_self _ _)) L3.out)
  by_cases hu : up = !s1
  · subst hu
    have hu : ((!s1) != s1) = true := by cases s1 <;> rfl
    have HU := Lib.hid hu
    clear hu
    go_wp2_with fail
    refine (wZero _ _ _ _).mono ?_
    rintro e w5 ⟨rfl, rfl⟩
    by_cases hz : n1 * 2 ^ p % d1 = 0
    · rw [W_nil, show decide (n1 * 2 ^ p % d1 = 0) = true by simp [hz]]
      have HZ := Lib.hid hz
      clear hz
      go_wp2_with fail
      go_region_held3 (fun W' => (World.cell? W' ⟨(w.heap.size), 0, none⟩ = some (.bool s1) ∧ World.cell? W' ⟨(w.heap.size), 1, none⟩ = some (.slice A1 (W n1).length c1) ∧ World.cell? W' ⟨(w.heap.size), 2, none⟩ = some (.slice A2 (W d1).length c2) ∧ World.cell? W' ⟨(w.heap.size), 0, none⟩ = some (.bool s1) ∧ World.cell? W' ⟨(w.heap.size), 1, none⟩ = some (.slice A1 (W n1).length c1) ∧ World.cell? W' ⟨(w.heap.size), 2, none⟩ = some (.slice A2 (W d1).length c2) ∧ Hid (Two w W' (w.heap.size) (w.heap.size) (w.heap.size + 1) s1 A1 c1 n1 A2 c2 d1 s1 A1 c1 n1 A2 c2 d1)))
        (first | exact (TB.out.below (Below.refl _ _).drew).cells | exact Two.next (by assumption) (by assumption) | exact Two.nextS (by assumption))
        (first
           | (go_at_call 94
              refine (wSmall1 _).mono ?_
              rintro e wc ⟨Ac, cc, rfl, rc, bc⟩)
           | (go_at_call 108
              refine (wShl 1 p _ _ _ rc (Nat.le_trans (W_le_one (by omega)) (by omega)) (by omega)).mono ?_
              rintro e wd ⟨Ad, cd, rfl, rd, bd⟩
              rw [Nat.one_mul] at rd)
           | (go_at_call 92
              refine (wReduce _ _ _ _ _ _ _ _ ((RQ.out.below (Below.drew_step bc)).below bd) rd (by have := Nat.two_pow_pos p; omega) (Nat.le_trans LQ.out (by omega)) (Nat.le_trans L4.out (by omega)) (Two.of (by assumption)).tab).mono ?_
              rintro e we ⟨u, rfl, ⟨B1, b1, B2, b2, rfl, hB1, hB2⟩, be⟩
              have hh := (Two.of (by assumption)).below be
              obtain ⟨x, y, z, hx, hy, hz, k1, k2, k3⟩ := hh.res.cells))
      go_wp2
      obtain ⟨q0, q1, q2, r1, r2, hb⟩ := hh.finish (s := ng (mkRat (sg s1 (n1 * 2 ^ p / d1)) (2 ^ p))) hB1 hB2
      refine bodyPost_ret (v := .agg #[.bool (ng (mkRat (sg s1 (n1 * 2 ^ p / d1)) (2 ^ p))), .slice B1 (W (mkRat (sg s1 (n1 * 2 ^ p / d1)) (2 ^ p)).num.natAbs).length b1, .slice B2 (W (mkRat (sg s1 (n1 * 2 ^ p / d1)) (2 ^ p)).den).length b2]) (by simp [results, Tryd.results116, go_sem, q0, q1, q2]) rfl ?_
      refine ⟨_, rfl, ?_, hb⟩
      rw [show gridN s1 n1 d1 p (!s1) = n1 * 2 ^ p / d1 from by rw [gridN, if_neg (fun h => h.2 HZ.out), Nat.add_zero]]
      exact ⟨_, _, _, _, rfl, r1, r2⟩
    · rw [W_nil_false hz]
      have HZ := Lib.hid hz
      clear hz
      go_wp2_with fail
      refine (wSmall1 _).mono ?_
      rintro e w6 ⟨A6, c6, rfl, r6, b6⟩
      have RQ := Lib.hid (RQ.out.below b6)
      have TB := Lib.hid (TB.out.below b6)
      have R6 := Lib.hid r6
      clear r6 b6 x1 x2 x3 x4 x5 x6
      obtain ⟨x1, x2, x3, x4, x5, x6, _⟩ := TB.out.cells
      go_wp2_with fail
      refine (wAdd _ 1 _ _ _ _ _ RQ.out R6.out (Nat.le_trans LQ.out (by omega)) (Nat.le_trans (W_le_one (by omega)) (by omega))).mono ?_
      rintro e w7 ⟨A7, c7, rfl, r7, b7⟩
      have RQ := Lib.hid r7
      have TB := Lib.hid (TB.out.below b7)
      have LQ := Lib.hid (show (W (n1 * 2 ^ p / d1 + 1)).length ≤ 500000 from Nat.le_trans (W_add_length _ _) (by have := LQ.out; have h1 := W_le_one (n := 1) (by omega); omega))
      clear r7 b7 x1 x2 x3 x4 x5 x6
      obtain ⟨x1, x2, x3, x4, x5, x6, _⟩ := TB.out.cells
      go_wp2_with fail
      go_region_held3 (fun W' => (World.cell? W' ⟨(w.heap.size), 0, none⟩ = some (.bool s1) ∧ World.cell? W' ⟨(w.heap.size), 1, none⟩ = some (.slice A1 (W n1).length c1) ∧ World.cell? W' ⟨(w.heap.size), 2, none⟩ = some (.slice A2 (W d1).length c2) ∧ World.cell? W' ⟨(w.heap.size), 0, none⟩ = some (.bool s1) ∧ World.cell? W' ⟨(w.heap.size), 1, none⟩ = some (.slice A1 (W n1).length c1) ∧ World.cell? W' ⟨(w.heap.size), 2, none⟩ = some (.slice A2 (W d1).length c2) ∧ Hid (Two w W' (w.heap.size) (w.heap.size) (w.heap.size + 1) s1 A1 c1 n1 A2 c2 d1 s1 A1 c1 n1 A2 c2 d1)))
        (first | exact (TB.out.below (Below.refl _ _).drew).cells | exact Two.next (by assumption) (by assumption) | exact Two.nextS (by assumption))
        (first
           | (go_at_call 94
              refine (wSmall1 _).mono ?_
              rintro e wc ⟨Ac, cc, rfl, rc, bc⟩)
           | (go_at_call 108
              refine (wShl 1 p _ _ _ rc (Nat.le_trans (W_le_one (by omega)) (by omega)) (by omega)).mono ?_
              rintro e wd ⟨Ad, cd, rfl, rd, bd⟩
              rw [Nat.one_mul] at rd)
           | (go_at_call 92
              refine (wReduce _ _ _ _ _ _ _ _ ((RQ.out.below (Below.drew_step bc)).below bd) rd (by have := Nat.two_pow_pos p; omega) (Nat.le_trans LQ.out (by omega)) (Nat.le_trans L4.out (by omega)) (Two.of (by assumption)).tab).mono ?_
              rintro e we ⟨u, rfl, ⟨B1, b1, B2, b2, rfl, hB1, hB2⟩, be⟩
              have hh := (Two.of (by assumption)).below be
              obtain ⟨x, y, z, hx, hy, hz, k1, k2, k3⟩ := hh.res.cells))
      go_wp2
      obtain ⟨q0, q1, q2, r1, r2, hb⟩ := hh.finish (s := ng (mkRat (sg s1 (n1 * 2 ^ p / d1 + 1)) (2 ^ p))) hB1 hB2
      refine bodyPost_ret (v := .agg #[.bool (ng (mkRat (sg s1 (n1 * 2 ^ p / d1 + 1)) (2 ^ p))), .slice B1 (W (mkRat (sg s1 (n1 * 2 ^ p / d1 + 1)) (2 ^ p)).num.natAbs).length b1, .slice B2 (W (mkRat (sg s1 (n1 * 2 ^ p / d1 + 1)) (2 ^ p)).den).length b2]) (by simp [results, Tryd.results116, go_sem, q0, q1, q2]) rfl ?_
      refine ⟨_, rfl, ?_, hb⟩
      rw [show gridN s1 n1 d1 p (!s1) = n1 * 2 ^ p / d1 + 1 from by rw [gridN, if_pos ⟨HU.out, HZ.out⟩]]
      exact ⟨_, _, _, _, rfl, r1, r2⟩
  · have hu2 : up = s1 := by cases up <;> cases s1 <;> simp at hu ⊢
    subst hu2
    clear hu
    go_wp2_with fail
    go_region_held3 (fun W' => (World.cell? W' ⟨(w.heap.size), 0, none⟩ = some (.bool up) ∧ World.cell? W' ⟨(w.heap.size), 1, none⟩ = some (.slice A1 (W n1).length c1) ∧ World.cell? W' ⟨(w.heap.size), 2, none⟩ = some (.slice A2 (W d1).length c2) ∧ World.cell? W' ⟨(w.heap.size), 0, none⟩ = some (.bool up) ∧ World.cell? W' ⟨(w.heap.size), 1, none⟩ = some (.slice A1 (W n1).length c1) ∧ World.cell? W' ⟨(w.heap.size), 2, none⟩ = some (.slice A2 (W d1).length c2) ∧ Hid (Two w W' (w.heap.size) (w.heap.size) (w.heap.size + 1) up A1 c1 n1 A2 c2 d1 up A1 c1 n1 A2 c2 d1)))
      (first | exact (TB.out.below (Below.refl _ _).drew).cells | exact Two.next (by assumption) (by assumption) | exact Two.nextS (by assumption))
      (first
         | (go_at_call 94
            refine (wSmall1 _).mono ?_
            rintro e wc ⟨Ac, cc, rfl, rc, bc⟩)
         | (go_at_call 108
            refine (wShl 1 p _ _ _ rc (Nat.le_trans (W_le_one (by omega)) (by omega)) (by omega)).mono ?_
            rintro e wd ⟨Ad, cd, rfl, rd, bd⟩
            rw [Nat.one_mul] at rd)
         | (go_at_call 92
            refine (wReduce _ _ _ _ _ _ _ _ ((RQ.out.below (Below.drew_step bc)).below bd) rd (by have := Nat.two_pow_pos p; omega) (Nat.le_trans LQ.out (by omega)) (Nat.le_trans L4.out (by omega)) (Two.of (by assumption)).tab).mono ?_
            rintro e we ⟨u, rfl, ⟨B1, b1, B2, b2, rfl, hB1, hB2⟩, be⟩
            have hh := (Two.of (by assumption)).below be
            obtain ⟨x, y, z, hx, hy, hz, k1, k2, k3⟩ := hh.res.cells))
    go_wp2
    obtain ⟨q0, q1, q2, r1, r2, hb⟩ := hh.finish (s := ng (mkRat (sg up (n1 * 2 ^ p / d1)) (2 ^ p))) hB1 hB2
    refine bodyPost_ret (v := .agg #[.bool (ng (mkRat (sg up (n1 * 2 ^ p / d1)) (2 ^ p))), .slice B1 (W (mkRat (sg up (n1 * 2 ^ p / d1)) (2 ^ p)).num.natAbs).length b1, .slice B2 (W (mkRat (sg up (n1 * 2 ^ p / d1)) (2 ^ p)).den).length b2]) (by simp [results, Tryd.results116, go_sem, q0, q1, q2]) rfl ?_
    refine ⟨_, rfl, ?_, hb⟩
    rw [show gridN up n1 d1 p up = n1 * 2 ^ p / d1 from by rw [gridN, if_neg (fun h => by have h1 := h.1; cases up <;> cases h1), Nat.add_zero]]
    exact ⟨_, _, _, _, rfl, r1, r2⟩
end Go.Proofs.YtfmhplcpejmkhabDoor

namespace Go.Proofs.YtfmhplcpejmkhabDoor
open Go.RowKit Dig
set_option linter.unusedVariables false
set_option linter.unusedSimpArgs false
set_option maxHeartbeats 4000000 in
set_option maxRecDepth 100000 in
theorem fracInt (n : Int) (h0 : -9223372036854775808 ≤ n) (h1 : n ≤ 9223372036854775807) (w : World) :
    Calls Tryd.prog 118 #[.int .i64 n] w fun e w' => ∃ u, e = .returned u ∧ Fr w' u (decide (n < 0)) n.natAbs 1 ∧ Below w.heap.size w w' := by
  have HB := Lib.hid (below_alloc w (.cells #[.bool false, .slice none 0 0, .slice none 0 0] 65))
  have BX := Lib.hid (Box.new w (.bool false) (.slice none 0 0) (.slice none 0 0) 65)
  go_enter Tryd.func118, Tryd.ntmps118
  by_cases hn : n < 0
  · have hw : IntKind.u64.wrap n = n + 18446744073709551616 := by rw [wrap_u64]; omega
    have hw2 : IntKind.u64.wrap (-(n + 18446744073709551616)) = -n := by rw [wrap_u64]; omega
    have hd : decide (n < 0) = true := by simpa using hn
    go_wp2_with fail
    refine (wSmall _ _ (by omega) (by omega)).mono ?_
    rintro e wa ⟨Aa, ca, rfl, ra, ba⟩
    rw [show (-n).toNat = n.natAbs by omega] at ra ⊢
    have RA := Lib.hid ra
    have BX := Lib.hid (BX.out.below ba)
    have HB := Lib.hid (below_step HB.out (by simp) ba)
    clear ra ba
    go_wp2_with fail
    refine (wSmall1 _).mono ?_
    rintro e wb ⟨Ab, cb, rfl, rb, bb⟩
    have RA := Lib.hid (RA.out.below bb)
    have RB := Lib.hid rb
    have bx := BX.out.below bb
    have HB := Lib.hid (below_step HB.out HB.out.size bb)
    obtain ⟨k0, k1, k2, f0, f1, f2⟩ := bx.cells
    have BX := Lib.hid bx
    have HX := Lib.hid (BX.out.set3 (.bool (decide (n < 0))) (.slice Aa (W n.natAbs).length ca) (.slice Ab (W 1).length cb))
    rw [hd] at HX
    clear rb bb bx
    go_wp2_with fail
    obtain ⟨q0, q1, q2, _, _, _⟩ := HX.out.cells
    refine bodyPost_ret (v := .agg #[.bool true, .slice Aa (W n.natAbs).length ca, .slice Ab (W 1).length cb]) (by simp [results, Tryd.results118, go_sem, q0, q1, q2]) rfl ?_
    exact ⟨_, rfl, ⟨_, _, _, _, by rw [hd], RA.out.grown_box BX.out (NI.bool _) (NI.slice _ _ _) (NI.slice _ _ _) (grown_set3 _ _ _ _ _), RB.out.grown_box BX.out (NI.bool _) (NI.slice _ _ _) (NI.slice _ _ _) (grown_set3 _ _ _ _ _)⟩, below_set3 HB.out (Nat.le_refl _) _ _ _⟩
  · have hw : IntKind.u64.wrap n = n := by rw [wrap_u64]; omega
    have hd : decide (n < 0) = false := by simpa using hn
    go_wp2_with fail
    refine (wSmall _ _ (by omega) (by omega)).mono ?_
    rintro e wa ⟨Aa, ca, rfl, ra, ba⟩
    rw [show n.toNat = n.natAbs by omega] at ra ⊢
    have RA := Lib.hid ra
    have BX := Lib.hid (BX.out.below ba)
    have HB := Lib.hid (below_step HB.out (by simp) ba)
    clear ra ba
    go_wp2_with fail
    refine (wSmall1 _).mono ?_
    rintro e wb ⟨Ab, cb, rfl, rb, bb⟩
    have RA := Lib.hid (RA.out.below bb)
    have RB := Lib.hid rb
    have bx := BX.out.below bb
    have HB := Lib.hid (below_step HB.out HB.out.size bb)
    obtain ⟨k0, k1, k2, f0, f1, f2⟩ := bx.cells
    have BX := Lib.hid bx
    have HX := Lib.hid (BX.out.set3 (.bool (decide (n < 0))) (.slice Aa (W n.natAbs).length ca) (.slice Ab (W 1).length cb))
    rw [hd] at HX
    clear rb bb bx
    go_wp2_with fail
    obtain ⟨q0, q1, q2, _, _, _⟩ := HX.out.cells
    refine bodyPost_ret (v := .agg #[.bool false, .slice Aa (W n.natAbs).length ca, .slice Ab (W 1).length cb]) (by simp [results, Tryd.results118, go_sem, q0, q1, q2]) rfl ?_
    exact ⟨_, rfl, ⟨_, _, _, _, by rw [hd], RA.out.grown_box BX.out (NI.bool _) (NI.slice _ _ _) (NI.slice _ _ _) (grown_set3 _ _ _ _ _), RB.out.grown_box BX.out (NI.bool _) (NI.slice _ _ _) (NI.slice _ _ _) (grown_set3 _ _ _ _ _)⟩, below_set3 HB.out (Nat.le_refl _) _ _ _⟩
end Go.Proofs.YtfmhplcpejmkhabDoor

namespace Go.Proofs.YtfmhplcpejmkhabDoor
open Go.RowKit Dig
set_option linter.unusedVariables false
set_option linter.unusedSimpArgs false
theorem tmod_two (p : Nat) : (p : Int).tmod 2 = ((p % 2 : Nat) : Int) := by rw [Int.tmod_eq_emod_of_nonneg (by omega)]; omega
theorem beq_one (p : Nat) : (((p % 2 : Nat) : Int) == 1) = decide (p % 2 = 1) := by
  rw [Bool.eq_iff_iff]; simp only [beq_iff_eq, decide_eq_true_eq]; omega
set_option maxHeartbeats 4000000 in
set_option maxRecDepth 100000 in
theorem fracPow_true (n1 d1 : Nat) (p : Nat) (w : World) (A1 A2 : Option Addr) (c1 c2 : Nat) (h1 : Rd w A1 c1 (W n1)) (h2 : Rd w A2 c2 (W d1)) 
    (l1 : (W n1).length * p ≤ 500000) (l2 : (W d1).length * p ≤ 500000) (lp : p ≤ 100000) (hT : Tab w) :
    Calls Tryd.prog 56 #[.agg #[.bool true, .slice A1 (W n1).length c1, .slice A2 (W d1).length c2], .int .i64 p] w fun e w' => ∃ u, e = .returned u ∧ Fr w' u (true && decide (p % 2 = 1)) (n1 ^ p) (d1 ^ p) ∧ Below w.heap.size w w' := by
  have T0 := Lib.hid (Two.start1 (s1 := true) h1 h2 hT)
  have L1 := Lib.hid l1
  have L2 := Lib.hid l2
  clear h1 h2 hT l1 l2
  have hm := tmod_two p
  have hm2 : IntKind.i64.wrap ((p % 2 : Nat) : Int) = ((p % 2 : Nat) : Int) := wraps_i64 _ (by omega) (by omega)
  have hq := beq_one p
  go_enter Tryd.func56, Tryd.ntmps56
  go_wp2_with fail
  first | (go_region_held3 (fun W' => (World.cell? W' ⟨(w.heap.size), 0, none⟩ = some (.bool true) ∧ World.cell? W' ⟨(w.heap.size), 1, none⟩ = some (.slice A1 (W n1).length c1) ∧ World.cell? W' ⟨(w.heap.size), 2, none⟩ = some (.slice A2 (W d1).length c2) ∧ World.cell? W' ⟨(w.heap.size), 0, none⟩ = some (.bool true) ∧ World.cell? W' ⟨(w.heap.size), 1, none⟩ = some (.slice A1 (W n1).length c1) ∧ World.cell? W' ⟨(w.heap.size), 2, none⟩ = some (.slice A2 (W d1).length c2) ∧ Hid (Two w W' (w.heap.size) (w.heap.size) (w.heap.size + 1) true A1 c1 n1 A2 c2 d1 true A1 c1 n1 A2 c2 d1)))
    (first | assumption | exact T0.out.cells | exact Two.next (by assumption) (by assumption) | exact Two.nextS (by assumption))
    (first
       | (go_at_call_of 95 (Value.slice A1 (W n1).length c1)
          refine (wPow _ _ _ _ _ (by exact (Two.of (by assumption)).f.r1) (by omega) L1.out).mono ?_
          rintro e wa ⟨Aa, ca, rfl, ra, ba⟩)
       | (go_at_call_of 95 (Value.slice A2 (W d1).length c2)
          refine (wPow _ _ _ _ _ (by exact (Two.of (by assumption)).f.r2) (by omega) L2.out).mono ?_
          rintro e wb ⟨Ab, cb, rfl, rb, bb⟩
          have hh := (Two.of (by assumption)).below bb
          obtain ⟨x, y, z, hx, hy, hz, k1, k2, k3⟩ := hh.res.cells))) | fail "no"
  all_goals (
    go_wp2
    obtain ⟨q0, q1, q2, r1, r2, hb⟩ := hh.finish (s := ((p : Int) % 2 == 1)) (ra.below bb) rb
    refine bodyPost_ret (v := .agg #[.bool ((p : Int) % 2 == 1), .slice Aa (W (n1 ^ p)).length ca, .slice Ab (W (d1 ^ p)).length cb]) (by simp [results, Tryd.results56, go_sem, q0, q1, q2]) rfl ?_
    exact ⟨_, rfl, ⟨_, _, _, _, by rw [Bool.true_and, ← beq_one]; rfl, r1, r2⟩, hb⟩)
set_option maxHeartbeats 4000000 in
set_option maxRecDepth 100000 in
theorem fracPow_false (n1 d1 : Nat) (p : Nat) (w : World) (A1 A2 : Option Addr) (c1 c2 : Nat) (h1 : Rd w A1 c1 (W n1)) (h2 : Rd w A2 c2 (W d1)) 
    (l1 : (W n1).length * p ≤ 500000) (l2 : (W d1).length * p ≤ 500000) (lp : p ≤ 100000) (hT : Tab w) :
    Calls Tryd.prog 56 #[.agg #[.bool false, .slice A1 (W n1).length c1, .slice A2 (W d1).length c2], .int .i64 p] w fun e w' => ∃ u, e = .returned u ∧ Fr w' u (false && decide (p % 2 = 1)) (n1 ^ p) (d1 ^ p) ∧ Below w.heap.size w w' := by
  have T0 := Lib.hid (Two.start1 (s1 := false) h1 h2 hT)
  have L1 := Lib.hid l1
  have L2 := Lib.hid l2
  clear h1 h2 hT l1 l2
  have hm := tmod_two p
  have hm2 : IntKind.i64.wrap ((p % 2 : Nat) : Int) = ((p % 2 : Nat) : Int) := wraps_i64 _ (by omega) (by omega)
  have hq := beq_one p
  go_enter Tryd.func56, Tryd.ntmps56
  go_wp2_with fail
  refine wp_region_noPanic ?_
  refine wp_region_held_drew (S := (fun W' => (World.cell? W' ⟨(w.heap.size), 0, none⟩ = some (.bool false) ∧ World.cell? W' ⟨(w.heap.size), 1, none⟩ = some (.slice A1 (W n1).length c1) ∧ World.cell? W' ⟨(w.heap.size), 2, none⟩ = some (.slice A2 (W d1).length c2) ∧ World.cell? W' ⟨(w.heap.size), 0, none⟩ = some (.bool false) ∧ World.cell? W' ⟨(w.heap.size), 1, none⟩ = some (.slice A1 (W n1).length c1) ∧ World.cell? W' ⟨(w.heap.size), 2, none⟩ = some (.slice A2 (W d1).length c2) ∧ Hid (Two w W' (w.heap.size) (w.heap.size) (w.heap.size + 1) false A1 c1 n1 A2 c2 d1 false A1 c1 n1 A2 c2 d1)))) (by kernel_rfl) T0.out.cells (fun hHeld => ?_)
  refine wpAnyH_take (i := 0) (v := ?v0) rfl (by kernel_rfl) (by kernel_rfl) (by kernel_rfl) (fun _ _ _ h => h) (Or.inl ⟨by rfl, ?hy0⟩) (by assumption) ?rest0
  case hy0 => (intro w' hSw; (try dsimp only at hSw); go_simp; (try with_reducible rfl))
  case rest0 =>
  (try simp only [Act.put, List.setIfInBounds_toArray, List.set_cons_zero, List.set_cons_succ])
  refine wpAnyH_take (i := 1) (v := ?v1) rfl (by kernel_rfl) (by kernel_rfl) (by kernel_rfl) (fun _ _ _ h => h) (Or.inl ⟨by rfl, ?hy1⟩) (by assumption) ?rest1
  case hy1 => (intro w' hSw; (try dsimp only at hSw); go_simp; (try with_reducible rfl))
  case rest1 =>
  (try simp only [Act.put, List.setIfInBounds_toArray, List.set_cons_zero, List.set_cons_succ])
  refine wpAnyH_take (i := 2) (v := ?v2) rfl (by kernel_rfl) (by kernel_rfl) (by kernel_rfl) (fun _ _ _ h => h) (Or.inl ⟨by rfl, ?hy2⟩) (by assumption) ?rest2
  case hy2 => (intro w' hSw; (try dsimp only at hSw); go_simp; (try with_reducible rfl))
  case rest2 =>
  (try simp only [Act.put, List.setIfInBounds_toArray, List.set_cons_zero, List.set_cons_succ])
  refine wpAnyH_take (i := 3) rfl (by kernel_rfl) (by kernel_rfl) (by kernel_rfl) (fun _ _ _ h => h) (Or.inr ⟨by rfl, rfl⟩) (by assumption) ?_
  (try simp only [Act.put, List.setIfInBounds_toArray, List.set_cons_zero, List.set_cons_succ])
  refine wpAnyH_take (i := 4) rfl (by kernel_rfl) (by kernel_rfl) (by kernel_rfl) (fun _ _ _ h => h) (Or.inr ⟨by rfl, rfl⟩) (by assumption) ?_
  (try simp only [Act.put, List.setIfInBounds_toArray, List.set_cons_zero, List.set_cons_succ])
  refine wpAnyH_take (i := 5) rfl (by kernel_rfl) (by kernel_rfl) (by kernel_rfl) (fun _ _ _ h => h) (Or.inr ⟨by rfl, rfl⟩) (by assumption) ?_
  (try simp only [Act.put, List.setIfInBounds_toArray, List.set_cons_zero, List.set_cons_succ])
  refine wpAnyH_take (i := 6) (v := ?v6) rfl (by kernel_rfl) (by kernel_rfl) (by kernel_rfl) (fun _ _ _ h => h) (Or.inl ⟨by rfl, ?hy6⟩) (by assumption) ?rest6
  case hy6 => (intro w' hSw; (try dsimp only at hSw); go_simp; (try with_reducible rfl))
  case rest6 =>
  (try simp only [Act.put, List.setIfInBounds_toArray, List.set_cons_zero, List.set_cons_succ])
  refine wpAnyH_take (i := 7) (v := ?v7) rfl (by kernel_rfl) (by kernel_rfl) (by kernel_rfl) (fun _ _ _ h => h) (Or.inl ⟨by rfl, ?hy7⟩) (by assumption) ?rest7
  case hy7 => (intro w' hSw; (try dsimp only at hSw); go_simp; (try with_reducible rfl))
  case rest7 =>
  (try simp only [Act.put, List.setIfInBounds_toArray, List.set_cons_zero, List.set_cons_succ])
  refine wpAnyH_take (i := 8) (v := ?v8) rfl (by kernel_rfl) (by kernel_rfl) (by kernel_rfl) (fun _ _ _ h => h) (Or.inl ⟨by rfl, ?hy8⟩) (by assumption) ?rest8
  case hy8 => (intro w' hSw; (try dsimp only at hSw); go_simp; (try with_reducible rfl))
  case rest8 =>
  (try simp only [Act.put, List.setIfInBounds_toArray, List.set_cons_zero, List.set_cons_succ])
  refine wpAnyH_take (i := 9) (v := ?v9) rfl (by kernel_rfl) (by kernel_rfl) (by kernel_rfl) (fun _ _ _ h => h) (Or.inl ⟨by rfl, ?hy9⟩) (by assumption) ?rest9
  case hy9 => (intro w' hSw; (try dsimp only at hSw); go_simp; (try with_reducible rfl))
  case rest9 =>
  (try simp only [Act.put, List.setIfInBounds_toArray, List.set_cons_zero, List.set_cons_succ])
  refine wpAnyH_take (i := 11) (v := ?v11) rfl (by kernel_rfl) (by kernel_rfl) (by kernel_rfl) (fun _ _ _ h => h) (Or.inl ⟨by rfl, ?hy11⟩) (by assumption) ?rest11
  case hy11 => (intro w' hSw; (try dsimp only at hSw); go_simp; (try with_reducible rfl))
  case rest11 =>
  (try simp only [Act.put, List.setIfInBounds_toArray, List.set_cons_zero, List.set_cons_succ])
  refine wpAnyH_take (i := 12) (v := ?v12) rfl (by kernel_rfl) (by kernel_rfl) (by kernel_rfl) (fun _ _ _ h => h) (Or.inl ⟨by rfl, ?hy12⟩) (by assumption) ?rest12
  case hy12 => (intro w' hSw; (try dsimp only at hSw); go_simp; (try with_reducible rfl))
  case rest12 =>
  (try simp only [Act.put, List.setIfInBounds_toArray, List.set_cons_zero, List.set_cons_succ])
  refine wpAnyH_take (i := 13) (v := ?v13) rfl (by kernel_rfl) (by kernel_rfl) (by kernel_rfl) (fun _ _ _ h => h) (Or.inl ⟨by rfl, ?hy13⟩) (by assumption) ?rest13
  case hy13 => (intro w' hSw; (try dsimp only at hSw); go_simp; (try with_reducible rfl))
  case rest13 =>
  (try simp only [Act.put, List.setIfInBounds_toArray, List.set_cons_zero, List.set_cons_succ])
  refine wpAnyH_ready (rs := [10]) (by kernel_rfl) (by simp) ?_
  refine AllReadyH.cons rfl (fun K hK => ?_) AllReadyH.nil
  go_simp
  go_at_call 95
  refine (wPow _ _ _ _ _ (Two.of hHeld).f.r1 (by omega) L1.out).mono ?_
  rintro e wa ⟨Aa, ca, rfl, ra, ba⟩
  refine hK.out _ _ ?_ (fun hHeld => ?_)
  · exact Two.next (by assumption) (by assumption)
  clear hK K
  (try simp only [Act.put, List.setIfInBounds_toArray, List.set_cons_zero, List.set_cons_succ])
  refine wpAnyH_ready (rs := [14]) (by kernel_rfl) (by simp) ?_
  refine AllReadyH.cons rfl (fun K hK => ?_) AllReadyH.nil
  go_simp
  go_at_call 95
  refine (wPow _ _ _ _ _ (Two.of hHeld).f.r2 (by omega) L2.out).mono ?_
  rintro e wb ⟨Ab, cb, rfl, rb, bb⟩
  have hh := (Two.of hHeld).below bb
  obtain ⟨x, y, z, hx, hy, hz, k1, k2, k3⟩ := hh.res.cells
  refine hK.out _ _ ?_ (fun hHeld => ?_)
  · exact Two.next (by assumption) (by assumption)
  clear hK K
  (try simp only [Act.put, List.setIfInBounds_toArray, List.set_cons_zero, List.set_cons_succ])
  refine wpAnyH_take (i := 15) (v := ?v15) rfl (by kernel_rfl) (by kernel_rfl) (by kernel_rfl) (fun _ _ _ h => h) (Or.inl ⟨by rfl, ?hy15⟩) (by assumption) ?rest15
  case hy15 => (intro w' hSw; (try dsimp only at hSw); go_simp; (try with_reducible rfl))
  case rest15 =>
  (try simp only [Act.put, List.setIfInBounds_toArray, List.set_cons_zero, List.set_cons_succ])
  refine wpAnyH_ready (rs := [16]) (by kernel_rfl) (by simp) ?_
  refine AllReadyH.cons rfl (fun K hK => ?_) AllReadyH.nil
  go_simp
  
  refine hK.out _ _ ?_ (fun hHeld => ?_)
  · exact Two.nextS (by assumption)
  clear hK K
  (try simp only [Act.put, List.setIfInBounds_toArray, List.set_cons_zero, List.set_cons_succ])
  refine wpAnyH_done (by kernel_rfl) ?_ _
  refine NoPanic.normal ?_
  go_wp2
  obtain ⟨q0, q1, q2, r1, r2, hb⟩ := hh.finish (s := false) (ra.below bb) rb
  refine bodyPost_ret (v := .agg #[.bool false, .slice Aa (W (n1 ^ p)).length ca, .slice Ab (W (d1 ^ p)).length cb]) (by simp [results, Tryd.results56, go_sem, q0, q1, q2]) rfl ?_
  exact ⟨_, rfl, ⟨_, _, _, _, rfl, r1, r2⟩, hb⟩
theorem fracPow (s1 : Bool) (n1 d1 : Nat) (p : Nat) (w : World) (A1 A2 : Option Addr) (c1 c2 : Nat) (h1 : Rd w A1 c1 (W n1)) (h2 : Rd w A2 c2 (W d1))
    (l1 : (W n1).length * p ≤ 500000) (l2 : (W d1).length * p ≤ 500000) (lp : p ≤ 100000) (hT : Tab w) :
    Calls Tryd.prog 56 #[.agg #[.bool s1, .slice A1 (W n1).length c1, .slice A2 (W d1).length c2], .int .i64 p] w fun e w' => ∃ u, e = .returned u ∧ Fr w' u (s1 && decide (p % 2 = 1)) (n1 ^ p) (d1 ^ p) ∧ Below w.heap.size w w' := by
  cases s1
  · exact fracPow_false n1 d1 p w A1 A2 c1 c2 h1 h2 l1 l2 lp hT
  · exact fracPow_true n1 d1 p w A1 A2 c1 c2 h1 h2 l1 l2 lp hT
end Go.Proofs.YtfmhplcpejmkhabDoor

namespace Go.Proofs.YtfmhplcpejmkhabDoor
open Go.RowKit Dig
set_option linter.unusedVariables false
set_option linter.unusedSimpArgs false
/-- the denominator's words in a value: none for 1 -/
def DW (d : Nat) : List Int := if d = 1 then [] else W d
/-- a value: sign, numerator, denominator -/
def Gr (w : World) (v : Value) (s : Bool) (n d : Nat) : Prop := ∃ A1 c1 A2 c2, v = .agg #[.bool s, .slice A1 (W n).length c1, .slice A2 (DW d).length c2] ∧ Rd w A1 c1 (W n) ∧ Rd w A2 c2 (DW d)
theorem Gr.below {w w' : World} {v : Value} {s : Bool} {n d : Nat} (h : Gr w v s n d) (hb : Below w.heap.size w w') : Gr w' v s n d := by
  obtain ⟨A1, c1, A2, c2, e, h1, h2⟩ := h
  exact ⟨A1, c1, A2, c2, e, h1.below hb, h2.below hb⟩
/-- the value that an error comes with -/
def noRat : Value := .agg #[.bool false, .slice none 0 0, .slice none 0 0]
theorem Box.drew {w : World} {g : Nat} {x y z : Value} {t : TypeId} (h : Box w g x y z t) : Box w.drew g x y z t := h
/-- what stays while a fraction is given -/
structure Gv (w M : World) (g1 g3 : Nat) (t : TypeId) (s1 : Bool) (A1 : Option Addr) (c1 n1 : Nat) (A2 : Option Addr) (c2 d1 : Nat) : Prop where
  f : Fld M g1 s1 A1 c1 n1 A2 c2 d1
  res : Res M g3 t
  bel : Below w.heap.size w M
  ne : g1 ≠ g3
  n3 : w.heap.size ≤ g3
section
variable {w M M' : World} {g1 g3 : Nat} {t : TypeId} {s1 : Bool} {A1 : Option Addr} {c1 n1 : Nat} {A2 : Option Addr} {c2 d1 : Nat}
theorem Gv.below (h : Gv w M g1 g3 t s1 A1 c1 n1 A2 c2 d1) (hb : Below M.heap.size M M') : Gv w M' g1 g3 t s1 A1 c1 n1 A2 c2 d1 :=
  ⟨h.f.below hb, h.res.below hb, below_step h.bel h.bel.size hb, h.ne, h.n3⟩
theorem Gv.grown (h : Gv w M g1 g3 t s1 A1 c1 n1 A2 c2 d1) {a b c : Value} (ha : NI a) (hb : NI b) (hc : NI c) : Gv w (((M.setCell ⟨g3, 0, none⟩ a).setCell ⟨g3, 1, none⟩ b).setCell ⟨g3, 2, none⟩ c) g1 g3 t s1 A1 c1 n1 A2 c2 d1 :=
  have hg := grown_set3 M g3 a b c
  ⟨h.f.grown h.res h.ne hg, h.res.set3 ha hb hc, below_set3 h.bel h.n3 _ _ _, h.ne, h.n3⟩
theorem Gv.newer (h : Gv w M g1 g3 t s1 A1 c1 n1 A2 c2 d1) : g1 ≠ M.heap.size ∧ g3 ≠ M.heap.size ∧ w.heap.size ≤ M.heap.size := by
  obtain ⟨x, y, z, _, _, _, hb⟩ := h.res
  have h1 := h.f.box.lt
  have h2 := hb.lt
  have h3 := h.n3
  omega
theorem Gv.boxed {g5 : Nat} {a b c : Value} {t' : TypeId} (h : Gv w M g1 g3 t s1 A1 c1 n1 A2 c2 d1) (h5 : Box M g5 (.bool false) (.slice none 0 0) (.slice none 0 0) t') (n1' : g1 ≠ g5) (n3' : g3 ≠ g5) (hw : w.heap.size ≤ g5) (ha : NI a) (hb : NI b) (hc : NI c) : Gv w (((M.setCell ⟨g5, 0, none⟩ a).setCell ⟨g5, 1, none⟩ b).setCell ⟨g5, 2, none⟩ c) g1 g3 t s1 A1 c1 n1 A2 c2 d1 := by
  have hg := grown_set3 M g5 a b c
  have hr : Res M g5 t' := ⟨_, _, _, NI.bool _, NI.slice _ _ _, NI.slice _ _ _, h5⟩
  obtain ⟨x, y, z, hx, hy, hz, h3⟩ := h.res
  exact ⟨h.f.grown hr n1' hg, ⟨x, y, z, hx, hy, hz, (hg.block g3 h3.lt (fun e => n3' (Option.some.inj e))).trans h3⟩, below_set3 h.bel hw _ _ _, h.ne, h.n3⟩
theorem Gv.cells (h : Gv w M g1 g3 t s1 A1 c1 n1 A2 c2 d1) : World.cell? M ⟨g1, 0, none⟩ = some (.bool s1) ∧ World.cell? M ⟨g1, 1, none⟩ = some (.slice A1 (W n1).length c1) ∧ World.cell? M ⟨g1, 2, none⟩ = some (.slice A2 (W d1).length c2) ∧ Hid (Gv w M g1 g3 t s1 A1 c1 n1 A2 c2 d1) := by
  obtain ⟨a1, a2, a3, _, _, _⟩ := h.f.box.cells
  exact ⟨a1, a2, a3, h⟩
theorem Gv.of (h : World.cell? M ⟨g1, 0, none⟩ = some (.bool s1) ∧ World.cell? M ⟨g1, 1, none⟩ = some (.slice A1 (W n1).length c1) ∧ World.cell? M ⟨g1, 2, none⟩ = some (.slice A2 (W d1).length c2) ∧ Hid (Gv w M g1 g3 t s1 A1 c1 n1 A2 c2 d1)) : Gv w M g1 g3 t s1 A1 c1 n1 A2 c2 d1 := h.2.2.2.out
end
/-- what stays behind the numerator -/
structure Gx (w M : World) (g1 g3 g5 : Nat) (s1 : Bool) (A1 : Option Addr) (c1 n1 : Nat) (A2 : Option Addr) (c2 d1 : Nat) (A : Option Addr) (c : Nat) : Prop where
  v : Gv w M g1 g3 24 s1 A1 c1 n1 A2 c2 d1
  box : Box M g5 (.bool s1) (.slice A (W n1).length c) (.slice none 0 0) 24
  r : Rd M A c (W n1)
  n1 : g1 ≠ g5
  n2 : g3 ≠ g5
  n3 : w.heap.size ≤ g5
theorem Gx.below {w M M' : World} {g1 g3 g5 : Nat} {s1 : Bool} {A1 : Option Addr} {c1 n1 : Nat} {A2 : Option Addr} {c2 d1 : Nat} {A : Option Addr} {c : Nat} (h : Gx w M g1 g3 g5 s1 A1 c1 n1 A2 c2 d1 A c) (hb : Below M.heap.size M M') : Gx w M' g1 g3 g5 s1 A1 c1 n1 A2 c2 d1 A c :=
  ⟨h.v.below hb, h.box.below hb, h.r.below hb, h.n1, h.n2, h.n3⟩
/-- the state behind 'x.Den = ..', but for the box -/
structure Gy (w M : World) (g1 g3 g5 : Nat) (s1 : Bool) (A1 : Option Addr) (c1 n1 : Nat) (A2 : Option Addr) (c2 d1 : Nat) (A : Option Addr) (c : Nat) : Prop where
  v : Gv w M g1 g3 24 s1 A1 c1 n1 A2 c2 d1
  r : Rd M A c (W n1)
  n2 : g3 ≠ g5
theorem Gx.y {w M : World} {g1 g3 g5 : Nat} {s1 : Bool} {A1 : Option Addr} {c1 n1 : Nat} {A2 : Option Addr} {c2 d1 : Nat} {A : Option Addr} {c : Nat} (h : Gx w M g1 g3 g5 s1 A1 c1 n1 A2 c2 d1 A c) : Gy w M g1 g3 g5 s1 A1 c1 n1 A2 c2 d1 A c := ⟨h.v, h.r, h.n2⟩
theorem Gx.setDen {w M : World} {g1 g3 g5 : Nat} {s1 : Bool} {A1 : Option Addr} {c1 n1 : Nat} {A2 : Option Addr} {c2 d1 : Nat} {A : Option Addr} {c : Nat} (h : Gx w M g1 g3 g5 s1 A1 c1 n1 A2 c2 d1 A c) {B : Option Addr} {b : Nat} {k : List Int} (hk : Rd M B b k) :
    Gy w (M.setCell ⟨g5, 2, none⟩ (.slice B k.length b)) g1 g3 g5 s1 A1 c1 n1 A2 c2 d1 A c ∧ Box (M.setCell ⟨g5, 2, none⟩ (.slice B k.length b)) g5 (.bool s1) (.slice A (W n1).length c) (.slice B k.length b) 24 ∧ Rd (M.setCell ⟨g5, 2, none⟩ (.slice B k.length b)) B b k := by
  have hg : M.grownBy (M.setCell ⟨g5, 2, none⟩ (.slice B k.length b)) (some g5) := grown_set ⟨rfl, rfl, rfl, Nat.le_refl _, fun _ _ _ => rfl⟩ 2 _
  have hr : Res M g5 24 := ⟨_, _, _, NI.bool _, NI.slice _ _ _, NI.slice _ _ _, h.box⟩
  obtain ⟨x, y, z, hx, hy, hz, h3⟩ := h.v.res
  refine ⟨⟨⟨h.v.f.grown hr h.n1 hg, ⟨x, y, z, hx, hy, hz, (hg.block g3 h3.lt (fun e => h.n2 (Option.some.inj e))).trans h3⟩, h.v.bel.setCell (p := ⟨g5, 2, none⟩) h.n3 _, h.v.ne, h.v.n3⟩, ?_, h.n2⟩, h.box.set2 _, ?_⟩
  · exact h.r.grown_box h.box (NI.bool _) (NI.slice _ _ _) (NI.slice _ _ _) hg
  · exact hk.grown_box h.box (NI.bool _) (NI.slice _ _ _) (NI.slice _ _ _) hg
theorem Gy.finish {w M : World} {g1 g3 g5 : Nat} {s1 : Bool} {A1 : Option Addr} {c1 n1 : Nat} {A2 : Option Addr} {c2 d1 : Nat} {A : Option Addr} {c : Nat} (h : Gy w M g1 g3 g5 s1 A1 c1 n1 A2 c2 d1 A c) {B : Option Addr} {b : Nat} {k : List Int}
    (hb : Box M g5 (.bool s1) (.slice A (W n1).length c) (.slice B k.length b) 24) (hk : Rd M B b k) :
    let M' := ((M.setCell ⟨g3, 0, none⟩ (.bool s1)).setCell ⟨g3, 1, none⟩ (.slice A (W n1).length c)).setCell ⟨g3, 2, none⟩ (.slice B k.length b)
    M'.cell? ⟨g3, 0, none⟩ = some (.bool s1) ∧ M'.cell? ⟨g3, 1, none⟩ = some (.slice A (W n1).length c) ∧ M'.cell? ⟨g3, 2, none⟩ = some (.slice B k.length b) ∧ Rd M' A c (W n1) ∧ Rd M' B b k ∧ Below w.heap.size w M' := by
  intro M'
  obtain ⟨x, y, z, hx, hy, hz, h3⟩ := h.v.res
  obtain ⟨q0, q1, q2, _, _, _⟩ := (h3.set3 (.bool s1) (.slice A (W n1).length c) (.slice B k.length b)).cells
  exact ⟨q0, q1, q2, h.r.grown_box h3 hx hy hz (grown_set3 _ _ _ _ _), hk.grown_box h3 hx hy hz (grown_set3 _ _ _ _ _), below_set3 h.v.bel h.v.n3 _ _ _⟩
theorem Gx.finish {w M : World} {g1 g3 g5 : Nat} {s1 : Bool} {A1 : Option Addr} {c1 n1 : Nat} {A2 : Option Addr} {c2 d1 : Nat} {A : Option Addr} {c : Nat} (h : Gx w M g1 g3 g5 s1 A1 c1 n1 A2 c2 d1 A c) {B : Option Addr} {b : Nat} {k : List Int}
    (hb : Box M g5 (.bool s1) (.slice A (W n1).length c) (.slice B k.length b) 24) (hk : Rd M B b k) :
    let M' := ((M.setCell ⟨g3, 0, none⟩ (.bool s1)).setCell ⟨g3, 1, none⟩ (.slice A (W n1).length c)).setCell ⟨g3, 2, none⟩ (.slice B k.length b)
    M'.cell? ⟨g3, 0, none⟩ = some (.bool s1) ∧ M'.cell? ⟨g3, 1, none⟩ = some (.slice A (W n1).length c) ∧ M'.cell? ⟨g3, 2, none⟩ = some (.slice B k.length b) ∧ Rd M' A c (W n1) ∧ Rd M' B b k ∧ Below w.heap.size w M' := h.y.finish hb hk
theorem Gv.start {w : World} {t : TypeId} {s1 : Bool} {A1 : Option Addr} {c1 n1 : Nat} {A2 : Option Addr} {c2 d1 : Nat} (h1 : Rd w A1 c1 (W n1)) (h2 : Rd w A2 c2 (W d1)) :
    Gv w ((w.alloc (.cells #[.bool s1, .slice A1 (W n1).length c1, .slice A2 (W d1).length c2] 65)).alloc (.cells #[.bool false, .slice none 0 0, .slice none 0 0] t)) w.heap.size (w.heap.size + 1) t s1 A1 c1 n1 A2 c2 d1 := by
  have b1 := below_alloc w (.cells #[.bool s1, .slice A1 (W n1).length c1, .slice A2 (W d1).length c2] 65)
  have k1 := Box.new w (.bool s1) (.slice A1 (W n1).length c1) (.slice A2 (W d1).length c2) 65
  have z1 : (w.alloc (.cells #[.bool s1, .slice A1 (W n1).length c1, .slice A2 (W d1).length c2] 65)).heap.size = w.heap.size + 1 := by simp
  generalize w.alloc (.cells #[.bool s1, .slice A1 (W n1).length c1, .slice A2 (W d1).length c2] 65) = w1 at *
  have b3 := below_alloc w1 (.cells #[.bool false, .slice none 0 0, .slice none 0 0] t)
  have k3 := Box.new w1 (.bool false) (.slice none 0 0) (.slice none 0 0) t
  rw [z1] at k3
  generalize w1.alloc (.cells #[.bool false, .slice none 0 0, .slice none 0 0] t) = w3 at *
  have b03 : Below w.heap.size w w3 := below_step b1 b1.size b3
  exact ⟨⟨k1.below b3, h1.below b03, h2.below b03⟩, ⟨.bool false, .slice none 0 0, .slice none 0 0, NI.bool _, NI.slice _ _ _, NI.slice _ _ _, k3⟩, b03, by omega, by omega⟩

set_option maxHeartbeats 4000000 in
set_option maxRecDepth 100000 in
theorem fracGive (s1 : Bool) (n1 d1 : Nat) (w : World) (A1 A2 : Option Addr) (c1 c2 : Nat) (h1 : Rd w A1 c1 (W n1)) (h2 : Rd w A2 c2 (W d1)) :
    Calls Tryd.prog 57 #[.agg #[.bool s1, .slice A1 (W n1).length c1, .slice A2 (W d1).length c2]] w fun e w' =>
      ((W n1).length ≤ 64 ∧ (W d1).length ≤ 64 ∧ ∃ v, e = .returned (.tuple #[v, .int .i64 0]) ∧ Gr w' v s1 n1 d1 ∧ Below w.heap.size w w') ∨
      (¬((W n1).length ≤ 64 ∧ (W d1).length ≤ 64) ∧ e = .returned (.tuple #[noRat, .int .i64 1]) ∧ Below w.heap.size w w') := by
  have T0 := Lib.hid (Gv.start (t := 24) (s1 := s1) h1 h2)
  clear h1 h2
  go_enter Tryd.func57, Tryd.ntmps57
  go_wp2_with fail
  refine (fracFits _ _ _ _ _ _ _ _).mono ?_
  rintro e w1 ⟨rfl, b1⟩
  have tb := T0.out.below b1
  have TB := Lib.hid tb
  obtain ⟨x1, x2, x3, _⟩ := tb.cells
  obtain ⟨y1, y2, y3, hy1, hy2, hy3, f1, f2, f3⟩ := tb.res.cells
  clear tb b1
  by_cases hf : (W n1).length ≤ 64 ∧ (W d1).length ≤ 64
  · rw [show (decide ((W n1).length ≤ 64) && decide ((W d1).length ≤ 64)) = true by simp [hf]]
    have HF := Lib.hid hf
    have hl := hf.1
    have HN := Lib.hid TB.out.newer
    clear hf
    go_wp2_with fail
    go_region_held3 (fun W' => World.cell? W' ⟨w.heap.size, 0, none⟩ = some (.bool s1) ∧ World.cell? W' ⟨w.heap.size, 1, none⟩ = some (.slice A1 (W n1).length c1) ∧ World.cell? W' ⟨w.heap.size, 2, none⟩ = some (.slice A2 (W d1).length c2) ∧ Hid (Gv w W' w.heap.size (w.heap.size + 1) 24 s1 A1 c1 n1 A2 c2 d1))
      (with_reducible (first | exact (Gv.boxed (by assumption) (by assumption) HN.out.1 HN.out.2.1 HN.out.2.2 (NI.bool _) (NI.slice _ _ _) (NI.slice _ _ _)).cells | exact (TB.out.below (Below.refl _ _).drew).cells | exact ((Gv.of (by assumption)).below (by assumption)).cells | exact (Gv.below (by assumption) (below_alloc _ _)).cells | exact (TB.out.below (below_alloc _ _).drew).cells))
      (first
         | (go_at_call 99
            refine (sClone _ _ _ _ (Gv.of (by assumption)).f.r1 (by omega)).mono ?_
            rintro e wc ⟨Ac, cc, rfl, rc, bc⟩
            have hh := (Gv.of (by assumption)).below bc
            try (have hbx := Box.below (Box.drew (Box.new w1 (.bool false) (.slice none 0 0) (.slice none 0 0) 24)) bc; obtain ⟨k1, k2, k3, m1, m2, m3⟩ := hbx.cells)))
    · rename_i hOld
      clear hOld
      have hx : Gx w (wc.alloc (.cells #[.bool s1, .slice Ac (W n1).length cc, .slice none 0 0] 24)) w.heap.size (w.heap.size + 1) wc.heap.size s1 A1 c1 n1 A2 c2 d1 Ac cc :=
        ⟨hh.below (below_alloc _ _), Box.new _ _ _ _ _, rc.below (below_alloc _ _), hh.newer.1, hh.newer.2.1, hh.newer.2.2⟩
      obtain ⟨M, hM⟩ : ∃ M, wc.alloc (.cells #[.bool s1, .slice Ac (W n1).length cc, .slice none 0 0] 24) = M := ⟨_, rfl⟩
      obtain ⟨g5, hg⟩ : ∃ g5, wc.heap.size = g5 := ⟨_, rfl⟩
      rw [hM, hg] at hx
      rw [hM, hg]
      have HX := Lib.hid hx
      clear hx hM hg hh rc bc
      obtain ⟨x1, x2, x3, _⟩ := HX.out.v.cells
      obtain ⟨y1, y2, y3, hy1, hy2, hy3, f1, f2, f3⟩ := HX.out.v.res.cells
      obtain ⟨k1, k2, k3, m1, m2, m3⟩ := HX.out.box.cells
      go_wp2_with fail
      refine (wOne d1 _ _ _ HX.out.v.f.r2).mono ?_
      rintro e wd ⟨rfl, rfl⟩
      by_cases hd : d1 = 1
      · rw [show decide (d1 = 1) = true by simp [hd]]
        have HD := Lib.hid hd
        clear hd
        go_wp2_with fail
        obtain ⟨q0, q1, q2, b1, b2, hb⟩ := HX.out.finish (B := none) (b := 0) (k := []) HX.out.box (Rd.nil _ _ _ (by omega))
        simp only [List.length_nil] at q0 q1 q2 b1 b2 hb
        refine bodyPost_ret (v := .tuple #[.agg #[.bool s1, .slice Ac (W n1).length cc, .slice none 0 0], .int .i64 0]) (by simp [results, Tryd.results57, go_sem, q0, q1, q2]) rfl ?_
        exact Or.inl ⟨HF.out.1, HF.out.2, _, rfl, ⟨_, _, none, 0, by rw [DW, if_pos HD.out]; rfl, b1, by rw [DW, if_pos HD.out]; exact b2⟩, hb⟩
      · rw [show decide (d1 = 1) = false by simp [hd]]
        have HD := Lib.hid hd
        have hl2 := HF.out.2
        clear hd
        go_wp2_with fail
        refine (sClone _ _ _ _ HX.out.v.f.r2 (by omega)).mono ?_
        rintro e wd ⟨Ad, cd, rfl, rd, bd⟩
        have HX := Lib.hid (HX.out.below bd)
        have RD := Lib.hid rd
        clear x1 x2 x3 hy1 hy2 hy3 f1 f2 f3 k1 k2 k3 m1 m2 m3 rd bd
        obtain ⟨k1, k2, k3, m1, m2, m3⟩ := HX.out.box.cells
        have HY := Lib.hid (HX.out.setDen RD.out)
        obtain ⟨y1, y2, y3, hy1, hy2, hy3, f1, f2, f3⟩ := HY.out.1.v.res.cells
        obtain ⟨l1, l2, l3, o1, o2, o3⟩ := HY.out.2.1.cells
        go_wp2_with fail
        obtain ⟨q0, q1, q2, b1, b2, hb⟩ := HY.out.1.finish HY.out.2.1 HY.out.2.2
        refine bodyPost_ret (v := .tuple #[.agg #[.bool s1, .slice Ac (W n1).length cc, .slice Ad (W d1).length cd], .int .i64 0]) (by simp [results, Tryd.results57, go_sem, q0, q1, q2]) rfl ?_
        exact Or.inl ⟨HF.out.1, HF.out.2, _, rfl, ⟨_, _, Ad, cd, by rw [DW, if_neg HD.out], b1, by rw [DW, if_neg HD.out]; exact b2⟩, hb⟩
    · rename_i hOld
      clear hOld
      have hx : Gx w (((wc.setCell ⟨w1.heap.size, 0, none⟩ (.bool s1)).setCell ⟨w1.heap.size, 1, none⟩ (.slice Ac (W n1).length cc)).setCell ⟨w1.heap.size, 2, none⟩ (.slice none 0 0)) w.heap.size (w.heap.size + 1) w1.heap.size s1 A1 c1 n1 A2 c2 d1 Ac cc :=
        ⟨hh.boxed hbx HN.out.1 HN.out.2.1 HN.out.2.2 (NI.bool _) (NI.slice _ _ _) (NI.slice _ _ _), hbx.set3 _ _ _, rc.grown_box hbx (NI.bool _) (NI.slice _ _ _) (NI.slice _ _ _) (grown_set3 _ _ _ _ _), HN.out.1, HN.out.2.1, HN.out.2.2⟩
      obtain ⟨M, hM⟩ : ∃ M, ((wc.setCell ⟨w1.heap.size, 0, none⟩ (.bool s1)).setCell ⟨w1.heap.size, 1, none⟩ (.slice Ac (W n1).length cc)).setCell ⟨w1.heap.size, 2, none⟩ (.slice none 0 0) = M := ⟨_, rfl⟩
      obtain ⟨g5, hg⟩ : ∃ g5, w1.heap.size = g5 := ⟨_, rfl⟩
      rw [hM, hg] at hx
      rw [hM, hg]
      have HX := Lib.hid hx
      clear hx hM hg hh rc bc hbx k1 k2 k3 m1 m2 m3
      obtain ⟨x1, x2, x3, _⟩ := HX.out.v.cells
      obtain ⟨y1, y2, y3, hy1, hy2, hy3, f1, f2, f3⟩ := HX.out.v.res.cells
      obtain ⟨k1, k2, k3, m1, m2, m3⟩ := HX.out.box.cells
      go_wp2_with fail
      refine (wOne d1 _ _ _ HX.out.v.f.r2).mono ?_
      rintro e wd ⟨rfl, rfl⟩
      by_cases hd : d1 = 1
      · rw [show decide (d1 = 1) = true by simp [hd]]
        have HD := Lib.hid hd
        clear hd
        go_wp2_with fail
        obtain ⟨q0, q1, q2, b1, b2, hb⟩ := HX.out.finish (B := none) (b := 0) (k := []) HX.out.box (Rd.nil _ _ _ (by omega))
        simp only [List.length_nil] at q0 q1 q2 b1 b2 hb
        refine bodyPost_ret (v := .tuple #[.agg #[.bool s1, .slice Ac (W n1).length cc, .slice none 0 0], .int .i64 0]) (by simp [results, Tryd.results57, go_sem, q0, q1, q2]) rfl ?_
        exact Or.inl ⟨HF.out.1, HF.out.2, _, rfl, ⟨_, _, none, 0, by rw [DW, if_pos HD.out]; rfl, b1, by rw [DW, if_pos HD.out]; exact b2⟩, hb⟩
      · rw [show decide (d1 = 1) = false by simp [hd]]
        have HD := Lib.hid hd
        have hl2 := HF.out.2
        clear hd
        go_wp2_with fail
        refine (sClone _ _ _ _ HX.out.v.f.r2 (by omega)).mono ?_
        rintro e wd ⟨Ad, cd, rfl, rd, bd⟩
        have HX := Lib.hid (HX.out.below bd)
        have RD := Lib.hid rd
        clear x1 x2 x3 hy1 hy2 hy3 f1 f2 f3 k1 k2 k3 m1 m2 m3 rd bd
        obtain ⟨k1, k2, k3, m1, m2, m3⟩ := HX.out.box.cells
        have HY := Lib.hid (HX.out.setDen RD.out)
        obtain ⟨y1, y2, y3, hy1, hy2, hy3, f1, f2, f3⟩ := HY.out.1.v.res.cells
        obtain ⟨l1, l2, l3, o1, o2, o3⟩ := HY.out.2.1.cells
        go_wp2_with fail
        obtain ⟨q0, q1, q2, b1, b2, hb⟩ := HY.out.1.finish HY.out.2.1 HY.out.2.2
        refine bodyPost_ret (v := .tuple #[.agg #[.bool s1, .slice Ac (W n1).length cc, .slice Ad (W d1).length cd], .int .i64 0]) (by simp [results, Tryd.results57, go_sem, q0, q1, q2]) rfl ?_
        exact Or.inl ⟨HF.out.1, HF.out.2, _, rfl, ⟨_, _, Ad, cd, by rw [DW, if_neg HD.out], b1, by rw [DW, if_neg HD.out]; exact b2⟩, hb⟩
  · rw [show (decide ((W n1).length ≤ 64) && decide ((W d1).length ≤ 64)) = false by simpa using hf]
    have HF := Lib.hid hf
    clear hf
    go_wp2_with fail
    obtain ⟨x, y, z, hx, hy, hz, hb⟩ := TB.out.res
    obtain ⟨q0, q1, q2, _, _, _⟩ := (hb.set3 (.bool false) (.slice none 0 0) (.slice none 0 0)).cells
    refine bodyPost_ret (v := .tuple #[noRat, .int .i64 1]) (by simp [results, Tryd.results57, go_sem, q0, q1, q2, noRat]) rfl ?_
    exact Or.inr ⟨HF.out, rfl, below_set3 TB.out.bel TB.out.n3 _ _ _⟩
end Go.Proofs.YtfmhplcpejmkhabDoor

namespace Go.Proofs.YtfmhplcpejmkhabDoor
open Go.RowKit Dig
set_option linter.unusedVariables false
set_option linter.unusedSimpArgs false
set_option maxHeartbeats 1000000 in
theorem rGcd (a b : Nat) (w : World) (A A' : Option Addr) (c c' : Nat) (h : Rd w A c (R a)) (h' : Rd w A' c' (R b)) (hs : (R a).length ≤ 2000000) (hs' : (R b).length ≤ 2000000) :
    Calls Tryd.prog 106 #[.slice A (R a).length c, .slice A' (R b).length c'] w fun e w' => ∃ A c, e = .returned (.slice A (R (Nat.gcd a b)).length c) ∧ Rd w' A c (R (Nat.gcd a b)) ∧ Below w.heap.size w w' := by
  have H0 := Lib.hid h
  have H1 := Lib.hid h'
  clear h h'
  go_enter Tryd.func106, Tryd.ntmps106
  go_wp2
  go_loopg [0, 1] b (fun k v0 v1 wr => ∃ (x y : Nat) (A0 A1 : Option Addr) (c0 c1 : Nat), v0 = .slice A0 (R x).length c0 ∧ v1 = .slice A1 (R y).length c1 ∧ y ≤ k ∧ Hid (Nat.gcd x y = Nat.gcd a b) ∧ (R x).length ≤ 2000000 ∧ (R y).length ≤ 2000000 ∧ Hid (Rd wr A0 c0 (R x)) ∧ Hid (Rd wr A1 c1 (R y)) ∧ Hid (Below w.heap.size w wr))
  case atStart => exact ⟨a, b, A, A', c, c', rfl, rfl, Nat.le_refl _, Lib.hid rfl, hs, hs', H0, H1, Lib.hid (Below.refl _ _)⟩
  case round =>
    obtain ⟨x, y, A0, A1, c0, c1, rfl, rfl, hk, hg, l0, l1, R0, R1, hb⟩ := hrel
    by_cases hy : 0 < (R y).length
    · have hy0 : 0 < y := by
        rcases Nat.eq_zero_or_pos y with hz | hz
        · subst hz; simp [R_zero] at hy
        · exact hz
      go_wp2_with fail
      refine (rDiv x y _ _ _ _ _ R0.out R1.out l0 hy0).mono ?_
      rintro e w2 ⟨A2, c2, A3, c3, rfl, hr2, hr3, hb2⟩
      have R1' := Lib.hid (R1.out.below hb2)
      have R3 := Lib.hid hr3
      have HB := Lib.hid (below_step hb.out hb.out.size hb2)
      have hm := Nat.mod_lt x hy0
      have l3 : (R (x % y)).length ≤ 2000000 := Nat.le_trans (dig_length_mono B16_two (Nat.le_of_lt hm)) l1
      have hg2 := Lib.hid (show Nat.gcd y (x % y) = Nat.gcd a b by rw [← hg.out, Nat.gcd_comm x y, Nat.gcd_rec y x, Nat.gcd_comm])
      clear hr2 hr3 hb2
      go_wp2
      go_roundg (x % y)
      case measure => omega
      case rel => exact ⟨y, x % y, _, _, _, _, rfl, rfl, Nat.le_refl _, hg2, l1, l3, R1', R3, HB⟩
    · have hz := R_length_zero hy
      subst hz
      have hg2 := hg.out
      rw [Nat.gcd_zero_right] at hg2
      subst hg2
      go_wp2
      go_ret
      exact ⟨_, _, rfl, R0.out, hb.out⟩
/-- a rational number of the reference in memory: sign, numerator, denominator -/
def Qr (w : World) (v : Value) (s : Bool) (n d : Nat) : Prop := ∃ A1 c1 A2 c2, v = .agg #[.bool s, .slice A1 (R n).length c1, .slice A2 (R d).length c2] ∧ Rd w A1 c1 (R n) ∧ Rd w A2 c2 (R d)
def IsQ (w : World) (v : Value) (q : Rat) : Prop := Qr w v (ng q) q.num.natAbs q.den
theorem Qr.below {w w' : World} {v : Value} {s : Bool} {n d : Nat} (h : Qr w v s n d) (hb : Below w.heap.size w w') : Qr w' v s n d := by
  obtain ⟨A1, c1, A2, c2, e, h1, h2⟩ := h
  exact ⟨A1, c1, A2, c2, e, h1.below hb, h2.below hb⟩
theorem IsQ.below {w w' : World} {v : Value} {q : Rat} (h : IsQ w v q) (hb : Below w.heap.size w w') : IsQ w' v q := Qr.below h hb
theorem R_one : R 1 = [1] := by
  unfold R
  rw [dig_pos B16_two (by omega)]
  rw [show (1 : Nat) / B16 = 0 from rfl, dig_zero]; rfl
theorem rNatOf1 (w : World) : Calls Tryd.prog 69 #[.int .u64 1] w fun e w' => ∃ A c, e = .returned (.slice A (R 1).length c) ∧ Rd w' A c (R 1) ∧ Below w.heap.size w w' := rNatOf 1 w (by omega)
theorem R_one_of {d : Nat} (h : (R d).length = 1) (h2 : rd (R d) 0 = 1) : d = 1 := by
  have := R_length_one h
  omega
theorem R_nz {a : Nat} (h : a ≠ 0) : 0 < (R a).length := by
  rcases Nat.eq_zero_or_pos (R a).length with h0 | h0
  · exact absurd (R_length_zero (by omega)) h
  · exact h0
theorem set3_close {w : World} {s : Bool} {n d g : Nat} {A1 A2 : Option Addr} {c1 c2 : Nat} (h1 : Rd w A1 c1 (R n)) (h2 : Rd w A2 c2 (R d))
    (hb : Box w g (.bool false) (.slice none 0 0) (.slice none 0 0) 39) :
    Qr (((w.setCell ⟨g, 0, none⟩ (.bool s)).setCell ⟨g, 1, none⟩ (.slice A1 (R n).length c1)).setCell ⟨g, 2, none⟩ (.slice A2 (R d).length c2)) (.agg #[.bool s, .slice A1 (R n).length c1, .slice A2 (R d).length c2]) s n d :=
  ⟨A1, c1, A2, c2, rfl, h1.grown_box hb (NI.bool _) (NI.slice _ _ _) (NI.slice _ _ _) (grown_set3 _ _ _ _ _), h2.grown_box hb (NI.bool _) (NI.slice _ _ _) (NI.slice _ _ _) (grown_set3 _ _ _ _ _)⟩
theorem Qr.isQ {w : World} {v : Value} {s : Bool} {n d : Nat} {q : Rat} (h : Qr w v s n d) (hs : ng q = s) (hn : q.num.natAbs = n) (hd : q.den = d) : IsQ w v q := by
  unfold IsQ; rw [hs, hn, hd]; exact h
set_option maxHeartbeats 1000000 in
theorem rMake_zero (s : Bool) (d : Nat) (w : World) (A A' : Option Addr) (c c' : Nat) :
    Calls Tryd.prog 70 #[.bool s, .slice A (R 0).length c, .slice A' (R d).length c'] w fun e w' => ∃ v, e = .returned v ∧ IsQ w' v 0 ∧ Below w.heap.size w w' := by
  have hz : (((R 0).length : Int) == 0) = true := by simp [R_zero]
  go_enter Tryd.func70, Tryd.ntmps70
  go_wp2_with fail
  refine (rNatOf1 _).mono ?_
  rintro e w2 ⟨A1, c1, rfl, hr1, hb1⟩
  have hbx := (Box.new w (.bool false) (.slice none 0 0) (.slice none 0 0) 39).below hb1
  obtain ⟨k0, k1, k2, f0, f1, f2⟩ := hbx.cells
  have R1 := Lib.hid hr1
  have HB := Lib.hid (below_step (below_alloc w _) (by simp) hb1)
  have hbx' := hbx
  have HBX := Lib.hid hbx
  clear hr1 hb1 hbx
  have HX := Lib.hid (hbx'.set3 (.bool false) (.slice none 0 0) (.slice A1 (R 1).length c1))
  go_wp2_with fail
  obtain ⟨q0, q1, q2, _, _, _⟩ := HX.out.cells
  refine bodyPost_ret (v := .agg #[.bool false, .slice none 0 0, .slice A1 (R 1).length c1]) (by simp [results, Tryd.results70, go_sem, q0, q1, q2]) rfl ?_
  refine ⟨_, rfl, ⟨none, 0, A1, c1, ?_, ?_, ?_⟩, below_set3 HB.out (Nat.le_refl _) _ _ _⟩
  · rw [show ((0 : Rat).num.natAbs) = 0 from rfl, R_zero]; rfl
  · rw [show ((0 : Rat).num.natAbs) = 0 from rfl, R_zero]; exact Rd.nil _ _ _ (by omega)
  · exact R1.out.grown_box HBX.out (NI.bool _) (NI.slice _ _ _) (NI.slice _ _ _) (grown_set3 _ _ _ _ _)
set_option maxHeartbeats 1000000 in
set_option maxRecDepth 100000 in
theorem rMake_one (s : Bool) (a : Nat) (w : World) (A A' : Option Addr) (c c' : Nat) (h : Rd w A c (R a)) (h' : Rd w A' c' (R 1)) (ha : a ≠ 0) (la : (R a).length ≤ 2000000) :
    Calls Tryd.prog 70 #[.bool s, .slice A (R a).length c, .slice A' (R 1).length c'] w fun e w' => ∃ v, e = .returned v ∧ IsQ w' v (mkRat (sg s a) 1) ∧ Below w.heap.size w w' := by
  have hla := R_nz ha
  have hz : (((R a).length : Int) == 0) = false := beq_eq_false_iff_ne.2 (by omega)
  have hz1 : (((R 1).length : Int) == 0) = false := by rw [R_one]; rfl
  have hz2 : (((R 1).length : Int) == 1) = true := by rw [R_one]; rfl
  have h1l : (R 1).length = 1 := by rw [R_one]; rfl
  obtain ⟨ad', rfl⟩ := h'.some_ (by omega)
  obtain ⟨ad, rfl⟩ := h.some_ hla
  have hcc := h'.le
  have hcm := h'.max
  have h1p : 0 < (R 1).length := by omega
  have HA := Lib.hid ha
  have H0 := Lib.hid h
  have hcell := h'.cell 0 (by omega)
  rw [R_length_one h1l] at hcell
  replace hcell : w.cell? ad' = some (.int .u32 1) := by simpa [Addr.add] using hcell
  have HC := Lib.hid hcell
  clear hcell
  obtain ⟨i0, hi0, hz0, hz1', hz2'⟩ := info_parts info32
  have hb1 := below_alloc w (.cells #[.bool false, .slice none 0 0, .slice none 0 0] 39)
  have BX := Lib.hid (Box.new w (.bool false) (.slice none 0 0) (.slice none 0 0) 39)
  have hsz : (w.alloc (.cells #[.bool false, .slice none 0 0, .slice none 0 0] 39)).heap.size = w.heap.size + 1 := by simp
  have HB1 := Lib.hid hb1
  have HSZ := Lib.hid hsz
  clear h h' ha hsz hb1 h1l
  go_enter Tryd.func70, Tryd.ntmps70
  go_upto_region 0 with (fail)
  go_cut [6] (fun v6 wc => v6 = .pointer (some ⟨w.heap.size, 0, none⟩) ∧ Hid (Below w.heap.size w wc) ∧ Hid (Box wc w.heap.size (.bool false) (.slice none 0 0) (.slice none 0 0) 39) ∧ wc.heap.size = w.heap.size + 1)
  case first =>
    go_wp2
    go_meet
    case rel => exact ⟨rfl, HB1, BX, HSZ.out⟩
  case rest =>
    obtain ⟨rfl, HB1, BX, hsz⟩ := hcut
    have HSZ := Lib.hid hsz
    have hcell := cell_later HB1.out HC.out
    clear hsz
    have H := Lib.hid ((H0.out.below HB1.out).below (below_alloc wc (.cells #[] 72)))
    have hO := Lib.hid (World.ownsRow_made (base := wc.heap.size) (e := 72) (size := 1) wc #[] 0 (Nat.le_refl _) (Nat.zero_le _) rfl)
    go_wp2_with (at_builtin; refine wpList_append_own _ rfl _ _ 37 rfl wc.heap.size 72 i0 (.int .u32 0) 1 4 (by kernel_rfl) hi0 hz0 hz1' hz2' rfl (by decide) _ 0 [] rfl hO.out ad (R a).length c ((R a).map (Value.int .u32)) rfl (by simp) H.out.news (oneCell_u32 _) (by unfold maxLen; omega) (by omega) (by simp) ?_)
    intro v' w2 hown1 hgrow _
    have P1 := Own.of_append hown1 (l := R a) (by simp) (by simp)
    have P2 := Lib.hid ((below_alloc wc (.cells #[] 72)).grown hgrow (by simp) (fun k hk => by simp [Value.ownBlock] at hk; omega))
    obtain ⟨A9, c9, e9, hr9⟩ := P1.rd
    subst e9
    have R9 := Lib.hid hr9
    clear hown1 hgrow hcell P1 hr9
    go_wp2_with fail
    refine (rNatOf1 _).mono ?_
    rintro e w3 ⟨A3, c3, rfl, hr3, hb3⟩
    have R3 := Lib.hid hr3
    have R9 := Lib.hid (R9.out.below hb3)
    have B3 := Lib.hid (below_step (below_step HB1.out HB1.out.size P2.out) (Nat.le_trans HB1.out.size P2.out.size) hb3)
    have BX := Lib.hid ((BX.out.below P2.out).below hb3)
    have hlt := BX.out.lt
    obtain ⟨k0, k1, k2, f0, f1, f2⟩ := BX.out.cells
    have HX := Lib.hid (BX.out.set3 (.bool s) (.slice A9 (R a).length c9) (.slice A3 (R 1).length c3))
    clear hr3 hb3
    go_wp2_with fail
    obtain ⟨q0, q1, q2, _, _, _⟩ := HX.out.cells
    refine bodyPost_ret (v := .agg #[.bool s, .slice A9 (R a).length c9, .slice A3 (R 1).length c3]) (by simp [results, Tryd.results70, go_sem, q0, q1, q2]) rfl ?_
    exact ⟨_, rfl, (set3_close R9.out R3.out BX.out).isQ (mk_sign s (by omega) HA.out) (by rw [mk_abs s a (by omega), Nat.gcd_one_right, Nat.div_one]) (by rw [mk_den s a (by omega), Nat.gcd_one_right]), below_set3 B3.out (Nat.le_refl _) _ _ _⟩
set_option maxHeartbeats 1000000 in
set_option maxRecDepth 100000 in
theorem rMake_big (s : Bool) (a d : Nat) (w : World) (A A' : Option Addr) (c c' : Nat) (h : Rd w A c (R a)) (h' : Rd w A' c' (R d)) (ha : a ≠ 0) (hd : d ≠ 0) (hd1 : d ≠ 1) (la : (R a).length ≤ 2000000) (ld : (R d).length ≤ 2000000) :
    Calls Tryd.prog 70 #[.bool s, .slice A (R a).length c, .slice A' (R d).length c'] w fun e w' => ∃ v, e = .returned v ∧ IsQ w' v (mkRat (sg s a) d) ∧ Below w.heap.size w w' := by
  have hla := R_nz ha
  have hld := R_nz hd
  have hz : (((R a).length : Int) == 0) = false := beq_eq_false_iff_ne.2 (by omega)
  have hz1 : (((R d).length : Int) == 0) = false := beq_eq_false_iff_ne.2 (by omega)
  obtain ⟨ad', rfl⟩ := h'.some_ (by omega)
  have hcc := h'.le
  have hcm := h'.max
  have HA := Lib.hid ha
  have HD := Lib.hid hd
  have H0 := Lib.hid h
  have H1 := Lib.hid h'
  have hx : ∃ bb x, (((R d).length : Int) == 1) = bb ∧ w.cell? ad' = some (.int .u32 x) ∧ (bb = true → (x == 1) = false) := by
    refine ⟨_, rd (R d) 0, rfl, by simpa [Addr.add] using h'.cell 0 hld, fun hb => ?_⟩
    rw [beq_eq_false_iff_ne]
    intro e
    exact hd1 (R_one_of (by rw [beq_iff_eq] at hb; omega) e)
  obtain ⟨bb, x, hbb, hcell0, hbx⟩ := hx
  have HC := Lib.hid hcell0
  have BX := Lib.hid (Box.new w (.bool false) (.slice none 0 0) (.slice none 0 0) 39)
  have HB1 := Lib.hid (below_alloc w (.cells #[.bool false, .slice none 0 0, .slice none 0 0] 39))
  clear h h' ha hd hd1 hcell0
  go_enter Tryd.func70, Tryd.ntmps70
  go_upto_region 0 with (fail)
  go_cut [6] (fun v6 wc => v6 = .pointer (some ⟨w.heap.size, 0, none⟩) ∧ Hid (Below w.heap.size w wc) ∧ Hid (Box wc w.heap.size (.bool false) (.slice none 0 0) (.slice none 0 0) 39))
  case first =>
    go_wp2
    go_meet
    case rel => exact ⟨rfl, HB1, BX⟩
  case rest =>
    obtain ⟨rfl, HB1, BX⟩ := hcut
    have hcell := cell_later HB1.out HC.out
    have R0 := Lib.hid (H0.out.below HB1.out)
    have R1 := Lib.hid (H1.out.below HB1.out)
    have hgp : 0 < Nat.gcd a d := Nat.gcd_pos_of_pos_left _ (by have := HA.out; omega)
    have main : True := trivial
    rcases bb with _ | _
    all_goals
      first | (have hbx := hbx rfl; go_wp2_with fail) | (clear hbx; go_wp2_with fail)
      refine (rGcd a d _ _ _ _ _ R0.out R1.out la ld).mono ?_
      rintro e w3 ⟨A3, c3, rfl, hr3, hb3⟩
      have R3 := Lib.hid hr3
      have R0 := Lib.hid (R0.out.below hb3)
      have R1 := Lib.hid (R1.out.below hb3)
      have B3 := Lib.hid (below_step HB1.out HB1.out.size hb3)
      have BX3 := Lib.hid (BX.out.below hb3)
      clear hr3 hb3 hcell
      go_wp2_with fail
      refine (rDiv a (Nat.gcd a d) _ _ _ _ _ R0.out R3.out la hgp).mono ?_
      rintro e w4 ⟨A4, c4, A4', c4', rfl, hr4, _, hb4⟩
      have R4 := Lib.hid hr4
      have R3 := Lib.hid (R3.out.below hb4)
      have R1 := Lib.hid (R1.out.below hb4)
      have B4 := Lib.hid (below_step B3.out B3.out.size hb4)
      have BX4 := Lib.hid (BX3.out.below hb4)
      clear hr4 hb4
      go_wp2_with fail
      refine (rDiv d (Nat.gcd a d) _ _ _ _ _ R1.out R3.out ld hgp).mono ?_
      rintro e w5 ⟨A5, c5, A5', c5', rfl, hr5, _, hb5⟩
      have R5 := Lib.hid hr5
      have R4 := Lib.hid (R4.out.below hb5)
      have B5 := Lib.hid (below_step B4.out B4.out.size hb5)
      have BX5 := Lib.hid (BX4.out.below hb5)
      clear hr5 hb5
      have hlt := BX5.out.lt
      obtain ⟨k0, k1, k2, f0, f1, f2⟩ := BX5.out.cells
      have HX := Lib.hid (BX5.out.set3 (.bool s) (.slice A4 (R (a / Nat.gcd a d)).length c4) (.slice A5 (R (d / Nat.gcd a d)).length c5))
      go_wp2_with fail
      obtain ⟨q0, q1, q2, _, _, _⟩ := HX.out.cells
      refine bodyPost_ret (v := .agg #[.bool s, .slice A4 (R (a / Nat.gcd a d)).length c4, .slice A5 (R (d / Nat.gcd a d)).length c5]) (by simp [results, Tryd.results70, go_sem, q0, q1, q2]) rfl ?_
      exact ⟨_, rfl, (set3_close R4.out R5.out BX5.out).isQ (mk_sign s HD.out HA.out) (mk_abs s a HD.out) (mk_den s a HD.out), below_set3 B5.out (Nat.le_refl _) _ _ _⟩
/-- Make -/
theorem rMake (s : Bool) (a d : Nat) (w : World) (A A' : Option Addr) (c c' : Nat) (h : Rd w A c (R a)) (h' : Rd w A' c' (R d)) (hd : d ≠ 0) (la : (R a).length ≤ 2000000) (ld : (R d).length ≤ 2000000) :
    Calls Tryd.prog 70 #[.bool s, .slice A (R a).length c, .slice A' (R d).length c'] w fun e w' => ∃ v, e = .returned v ∧ IsQ w' v (mkRat (sg s a) d) ∧ Below w.heap.size w w' := by
  by_cases ha : a = 0
  · subst ha; rw [mk_zero]; exact rMake_zero s d w A A' c c'
  · by_cases hd1 : d = 1
    · subst hd1; exact rMake_one s a w A A' c c' h h' ha la
    · exact rMake_big s a d w A A' c c' h h' ha hd hd1 la ld
end Go.Proofs.YtfmhplcpejmkhabDoor

namespace Go.Proofs.YtfmhplcpejmkhabDoor
open Go.RowKit Dig
set_option linter.unusedVariables false
set_option linter.unusedSimpArgs false

/-- a fraction in a variable -/
structure FldR (M : World) (g : Nat) (s : Bool) (A1 : Option Addr) (c1 n : Nat) (A2 : Option Addr) (c2 d : Nat) : Prop where
  box : Box M g (.bool s) (.slice A1 (R n).length c1) (.slice A2 (R d).length c2) 39
  r1 : Rd M A1 c1 (R n)
  r2 : Rd M A2 c2 (R d)
theorem FldR.below {M M' : World} {g : Nat} {s : Bool} {A1 : Option Addr} {c1 n : Nat} {A2 : Option Addr} {c2 d : Nat} (h : FldR M g s A1 c1 n A2 c2 d) (hb : Below M.heap.size M M') : FldR M' g s A1 c1 n A2 c2 d :=
  ⟨h.box.below hb, h.r1.below hb, h.r2.below hb⟩
theorem FldR.grown {M M' : World} {g g3 : Nat} {s : Bool} {A1 : Option Addr} {c1 n : Nat} {A2 : Option Addr} {c2 d : Nat} {t : TypeId} (h : FldR M g s A1 c1 n A2 c2 d) (hr : Res M g3 t) (hne : g ≠ g3) (hg : M.grownBy M' (some g3)) : FldR M' g s A1 c1 n A2 c2 d := by
  obtain ⟨x, y, z, h1, h2, h3, h4⟩ := hr
  exact ⟨(hg.block g h.box.lt (fun e => hne (Option.some.inj e))).trans h.box, h.r1.grown_box h4 h1 h2 h3 hg, h.r2.grown_box h4 h1 h2 h3 hg⟩
/-- what stays while a statement over two fractions goes on -/
structure TwoR (w M : World) (g1 g2 g3 : Nat) (s1 : Bool) (A1 : Option Addr) (c1 n1 : Nat) (A2 : Option Addr) (c2 d1 : Nat) (s2 : Bool) (A3 : Option Addr) (c3 n2 : Nat) (A4 : Option Addr) (c4 d2 : Nat) : Prop where
  f : FldR M g1 s1 A1 c1 n1 A2 c2 d1
  g : FldR M g2 s2 A3 c3 n2 A4 c4 d2
  res : Res M g3 39
  bel : Below w.heap.size w M
  n1 : g1 ≠ g3
  n2 : g2 ≠ g3
  n3 : w.heap.size ≤ g3
  n4 : g3 ≠ 0
theorem TwoR.below {w M M' : World} {g1 g2 g3 : Nat} {s1 : Bool} {A1 : Option Addr} {c1 n1 : Nat} {A2 : Option Addr} {c2 d1 : Nat} {s2 : Bool} {A3 : Option Addr} {c3 n2 : Nat} {A4 : Option Addr} {c4 d2 : Nat}
    (h : TwoR w M g1 g2 g3 s1 A1 c1 n1 A2 c2 d1 s2 A3 c3 n2 A4 c4 d2) (hb : Below M.heap.size M M') : TwoR w M' g1 g2 g3 s1 A1 c1 n1 A2 c2 d1 s2 A3 c3 n2 A4 c4 d2 :=
  ⟨h.f.below hb, h.g.below hb, h.res.below hb, below_step h.bel h.bel.size hb, h.n1, h.n2, h.n3, h.n4⟩
theorem TwoR.grown {w M : World} {g1 g2 g3 : Nat} {s1 : Bool} {A1 : Option Addr} {c1 n1 : Nat} {A2 : Option Addr} {c2 d1 : Nat} {s2 : Bool} {A3 : Option Addr} {c3 n2 : Nat} {A4 : Option Addr} {c4 d2 : Nat}
    (h : TwoR w M g1 g2 g3 s1 A1 c1 n1 A2 c2 d1 s2 A3 c3 n2 A4 c4 d2) {a b c : Value} (ha : NI a) (hb : NI b) (hc : NI c) : TwoR w (((M.setCell ⟨g3, 0, none⟩ a).setCell ⟨g3, 1, none⟩ b).setCell ⟨g3, 2, none⟩ c) g1 g2 g3 s1 A1 c1 n1 A2 c2 d1 s2 A3 c3 n2 A4 c4 d2 :=
  have hg := grown_set3 M g3 a b c
  ⟨h.f.grown h.res h.n1 hg, h.g.grown h.res h.n2 hg, h.res.set3 ha hb hc, below_set3 h.bel h.n3 _ _ _, h.n1, h.n2, h.n3, h.n4⟩
theorem TwoR.cells {w M : World} {g1 g2 g3 : Nat} {s1 : Bool} {A1 : Option Addr} {c1 n1 : Nat} {A2 : Option Addr} {c2 d1 : Nat} {s2 : Bool} {A3 : Option Addr} {c3 n2 : Nat} {A4 : Option Addr} {c4 d2 : Nat}
    (h : TwoR w M g1 g2 g3 s1 A1 c1 n1 A2 c2 d1 s2 A3 c3 n2 A4 c4 d2) :
    M.cell? ⟨g1, 0, none⟩ = some (.bool s1) ∧ M.cell? ⟨g1, 1, none⟩ = some (.slice A1 (R n1).length c1) ∧ M.cell? ⟨g1, 2, none⟩ = some (.slice A2 (R d1).length c2) ∧
    M.cell? ⟨g2, 0, none⟩ = some (.bool s2) ∧ M.cell? ⟨g2, 1, none⟩ = some (.slice A3 (R n2).length c3) ∧ M.cell? ⟨g2, 2, none⟩ = some (.slice A4 (R d2).length c4) ∧
    Hid (TwoR w M g1 g2 g3 s1 A1 c1 n1 A2 c2 d1 s2 A3 c3 n2 A4 c4 d2) := by
  obtain ⟨a1, a2, a3, _, _, _⟩ := h.f.box.cells
  obtain ⟨b1, b2, b3, _, _, _⟩ := h.g.box.cells
  exact ⟨a1, a2, a3, b1, b2, b3, h⟩
/-- at the beginning: both arguments and the result lie in new variables -/
theorem TwoR.start {w : World} {s1 : Bool} {A1 : Option Addr} {c1 n1 : Nat} {A2 : Option Addr} {c2 d1 : Nat} {s2 : Bool} {A3 : Option Addr} {c3 n2 : Nat} {A4 : Option Addr} {c4 d2 : Nat}
    (h1 : Rd w A1 c1 (R n1)) (h2 : Rd w A2 c2 (R d1)) (h3 : Rd w A3 c3 (R n2)) (h4 : Rd w A4 c4 (R d2)) :
    TwoR w (((w.alloc (.cells #[.bool s1, .slice A1 (R n1).length c1, .slice A2 (R d1).length c2] 39)).alloc (.cells #[.bool s2, .slice A3 (R n2).length c3, .slice A4 (R d2).length c4] 39)).alloc (.cells #[.bool false, .slice none 0 0, .slice none 0 0] 39)).drew w.heap.size (w.heap.size + 1) (w.heap.size + 1 + 1) s1 A1 c1 n1 A2 c2 d1 s2 A3 c3 n2 A4 c4 d2 := by
  have b1 := below_alloc w (.cells #[.bool s1, .slice A1 (R n1).length c1, .slice A2 (R d1).length c2] 39)
  have k1 := Box.new w (.bool s1) (.slice A1 (R n1).length c1) (.slice A2 (R d1).length c2) 39
  have z1 : (w.alloc (.cells #[.bool s1, .slice A1 (R n1).length c1, .slice A2 (R d1).length c2] 39)).heap.size = w.heap.size + 1 := by simp
  generalize w.alloc (.cells #[.bool s1, .slice A1 (R n1).length c1, .slice A2 (R d1).length c2] 39) = w1 at *
  have b2 := below_alloc w1 (.cells #[.bool s2, .slice A3 (R n2).length c3, .slice A4 (R d2).length c4] 39)
  have k2 := Box.new w1 (.bool s2) (.slice A3 (R n2).length c3) (.slice A4 (R d2).length c4) 39
  have z2 : (w1.alloc (.cells #[.bool s2, .slice A3 (R n2).length c3, .slice A4 (R d2).length c4] 39)).heap.size = w1.heap.size + 1 := by simp
  generalize w1.alloc (.cells #[.bool s2, .slice A3 (R n2).length c3, .slice A4 (R d2).length c4] 39) = w2 at *
  have b3 := below_alloc w2 (.cells #[.bool false, .slice none 0 0, .slice none 0 0] 39)
  have k3 := Box.new w2 (.bool false) (.slice none 0 0) (.slice none 0 0) 39
  rw [← z1, ← z2] 
  rw [z1] at k2
  rw [z2, z1] at k3
  generalize w2.alloc (.cells #[.bool false, .slice none 0 0, .slice none 0 0] 39) = w3 at *
  have hd : Below w3.heap.size w3 w3.drew := (Below.refl _ _).drew
  have b13 : Below w1.heap.size w1 w3 := below_step b2 b2.size b3
  have b03 : Below w.heap.size w w3 := below_step b1 b1.size b13
  refine ⟨⟨(k1.below b13).below hd, (h1.below b03).below hd, (h2.below b03).below hd⟩, ⟨?_, (h3.below b03).below hd, (h4.below b03).below hd⟩, ⟨.bool false, .slice none 0 0, .slice none 0 0, NI.bool _, NI.slice _ _ _, NI.slice _ _ _, ?_⟩, b03.drew, by omega, by omega, by omega, by omega⟩
  · rw [z1]; exact (k2.below b3).below hd
  · rw [z2, z1]; exact k3.below hd
section
variable {w M M' : World} {g1 g2 g3 : Nat} {s1 : Bool} {A1 : Option Addr} {c1 n1 : Nat} {A2 : Option Addr} {c2 d1 : Nat} {s2 : Bool} {A3 : Option Addr} {c3 n2 : Nat} {A4 : Option Addr} {c4 d2 : Nat}
theorem TwoR.of (h : (World.cell? M ⟨g1, 0, none⟩ = some (.bool s1) ∧ World.cell? M ⟨g1, 1, none⟩ = some (.slice A1 (R n1).length c1) ∧ World.cell? M ⟨g1, 2, none⟩ = some (.slice A2 (R d1).length c2) ∧ World.cell? M ⟨g2, 0, none⟩ = some (.bool s2) ∧ World.cell? M ⟨g2, 1, none⟩ = some (.slice A3 (R n2).length c3) ∧ World.cell? M ⟨g2, 2, none⟩ = some (.slice A4 (R d2).length c4) ∧ Hid (TwoR w M g1 g2 g3 s1 A1 c1 n1 A2 c2 d1 s2 A3 c3 n2 A4 c4 d2))) : TwoR w M g1 g2 g3 s1 A1 c1 n1 A2 c2 d1 s2 A3 c3 n2 A4 c4 d2 := h.2.2.2.2.2.2.out
theorem TwoR.next (h : (World.cell? M ⟨g1, 0, none⟩ = some (.bool s1) ∧ World.cell? M ⟨g1, 1, none⟩ = some (.slice A1 (R n1).length c1) ∧ World.cell? M ⟨g1, 2, none⟩ = some (.slice A2 (R d1).length c2) ∧ World.cell? M ⟨g2, 0, none⟩ = some (.bool s2) ∧ World.cell? M ⟨g2, 1, none⟩ = some (.slice A3 (R n2).length c3) ∧ World.cell? M ⟨g2, 2, none⟩ = some (.slice A4 (R d2).length c4) ∧ Hid (TwoR w M g1 g2 g3 s1 A1 c1 n1 A2 c2 d1 s2 A3 c3 n2 A4 c4 d2))) (hb : Below M.heap.size M M') : (World.cell? M' ⟨g1, 0, none⟩ = some (.bool s1) ∧ World.cell? M' ⟨g1, 1, none⟩ = some (.slice A1 (R n1).length c1) ∧ World.cell? M' ⟨g1, 2, none⟩ = some (.slice A2 (R d1).length c2) ∧ World.cell? M' ⟨g2, 0, none⟩ = some (.bool s2) ∧ World.cell? M' ⟨g2, 1, none⟩ = some (.slice A3 (R n2).length c3) ∧ World.cell? M' ⟨g2, 2, none⟩ = some (.slice A4 (R d2).length c4) ∧ Hid (TwoR w M' g1 g2 g3 s1 A1 c1 n1 A2 c2 d1 s2 A3 c3 n2 A4 c4 d2)) := ((TwoR.of h).below hb).cells
theorem TwoR.nextS (h : (World.cell? M ⟨g1, 0, none⟩ = some (.bool s1) ∧ World.cell? M ⟨g1, 1, none⟩ = some (.slice A1 (R n1).length c1) ∧ World.cell? M ⟨g1, 2, none⟩ = some (.slice A2 (R d1).length c2) ∧ World.cell? M ⟨g2, 0, none⟩ = some (.bool s2) ∧ World.cell? M ⟨g2, 1, none⟩ = some (.slice A3 (R n2).length c3) ∧ World.cell? M ⟨g2, 2, none⟩ = some (.slice A4 (R d2).length c4) ∧ Hid (TwoR w M g1 g2 g3 s1 A1 c1 n1 A2 c2 d1 s2 A3 c3 n2 A4 c4 d2))) {a : Bool} {B C : Option Addr} {b b' c c' : Nat} : (World.cell? (((M.setCell ⟨g3, 0, none⟩ (.bool a)).setCell ⟨g3, 1, none⟩ (.slice B b b')).setCell ⟨g3, 2, none⟩ (.slice C c c')) ⟨g1, 0, none⟩ = some (.bool s1) ∧ World.cell? (((M.setCell ⟨g3, 0, none⟩ (.bool a)).setCell ⟨g3, 1, none⟩ (.slice B b b')).setCell ⟨g3, 2, none⟩ (.slice C c c')) ⟨g1, 1, none⟩ = some (.slice A1 (R n1).length c1) ∧ World.cell? (((M.setCell ⟨g3, 0, none⟩ (.bool a)).setCell ⟨g3, 1, none⟩ (.slice B b b')).setCell ⟨g3, 2, none⟩ (.slice C c c')) ⟨g1, 2, none⟩ = some (.slice A2 (R d1).length c2) ∧ World.cell? (((M.setCell ⟨g3, 0, none⟩ (.bool a)).setCell ⟨g3, 1, none⟩ (.slice B b b')).setCell ⟨g3, 2, none⟩ (.slice C c c')) ⟨g2, 0, none⟩ = some (.bool s2) ∧ World.cell? (((M.setCell ⟨g3, 0, none⟩ (.bool a)).setCell ⟨g3, 1, none⟩ (.slice B b b')).setCell ⟨g3, 2, none⟩ (.slice C c c')) ⟨g2, 1, none⟩ = some (.slice A3 (R n2).length c3) ∧ World.cell? (((M.setCell ⟨g3, 0, none⟩ (.bool a)).setCell ⟨g3, 1, none⟩ (.slice B b b')).setCell ⟨g3, 2, none⟩ (.slice C c c')) ⟨g2, 2, none⟩ = some (.slice A4 (R d2).length c4) ∧ Hid (TwoR w (((M.setCell ⟨g3, 0, none⟩ (.bool a)).setCell ⟨g3, 1, none⟩ (.slice B b b')).setCell ⟨g3, 2, none⟩ (.slice C c c')) g1 g2 g3 s1 A1 c1 n1 A2 c2 d1 s2 A3 c3 n2 A4 c4 d2)) :=
  ((TwoR.of h).grown (NI.bool _) (NI.slice _ _ _) (NI.slice _ _ _)).cells
end

/-- the end of a statement over two fractions: the result lies in its variable -/
theorem TwoR.finish {w M : World} {g1 g2 g3 : Nat} {s1 : Bool} {A1 : Option Addr} {c1 n1 : Nat} {A2 : Option Addr} {c2 d1 : Nat} {s2 : Bool} {A3 : Option Addr} {c3 n2 : Nat} {A4 : Option Addr} {c4 d2 : Nat}
    (h : TwoR w M g1 g2 g3 s1 A1 c1 n1 A2 c2 d1 s2 A3 c3 n2 A4 c4 d2) {s : Bool} {B1 B2 : Option Addr} {b1 b2 n d : Nat} (h1 : Rd M B1 b1 (R n)) (h2 : Rd M B2 b2 (R d)) :
    let M' := ((M.setCell ⟨g3, 0, none⟩ (.bool s)).setCell ⟨g3, 1, none⟩ (.slice B1 (R n).length b1)).setCell ⟨g3, 2, none⟩ (.slice B2 (R d).length b2)
    M'.cell? ⟨g3, 0, none⟩ = some (.bool s) ∧ M'.cell? ⟨g3, 1, none⟩ = some (.slice B1 (R n).length b1) ∧ M'.cell? ⟨g3, 2, none⟩ = some (.slice B2 (R d).length b2) ∧
    Rd M' B1 b1 (R n) ∧ Rd M' B2 b2 (R d) ∧ Below w.heap.size w M' := by
  intro M'
  obtain ⟨x, y, z, hx, hy, hz, hb⟩ := h.res
  obtain ⟨q0, q1, q2, _, _, _⟩ := (hb.set3 (.bool s) (.slice B1 (R n).length b1) (.slice B2 (R d).length b2)).cells
  exact ⟨q0, q1, q2, h1.grown_box hb hx hy hz (grown_set3 _ _ _ _ _), h2.grown_box hb hx hy hz (grown_set3 _ _ _ _ _), below_set3 h.bel h.n3 _ _ _⟩


/-- what stays while a statement over one rational number goes on -/
structure GvR (w M : World) (g1 g3 : Nat) (t : TypeId) (s1 : Bool) (A1 : Option Addr) (c1 n1 : Nat) (A2 : Option Addr) (c2 d1 : Nat) : Prop where
  f : FldR M g1 s1 A1 c1 n1 A2 c2 d1
  res : Res M g3 t
  bel : Below w.heap.size w M
  ne : g1 ≠ g3
  n3 : w.heap.size ≤ g3
section
variable {w M M' : World} {g1 g3 : Nat} {t : TypeId} {s1 : Bool} {A1 : Option Addr} {c1 n1 : Nat} {A2 : Option Addr} {c2 d1 : Nat}
theorem GvR.below (h : GvR w M g1 g3 t s1 A1 c1 n1 A2 c2 d1) (hb : Below M.heap.size M M') : GvR w M' g1 g3 t s1 A1 c1 n1 A2 c2 d1 :=
  ⟨h.f.below hb, h.res.below hb, below_step h.bel h.bel.size hb, h.ne, h.n3⟩
theorem GvR.grown (h : GvR w M g1 g3 t s1 A1 c1 n1 A2 c2 d1) {a b c : Value} (ha : NI a) (hb : NI b) (hc : NI c) : GvR w (((M.setCell ⟨g3, 0, none⟩ a).setCell ⟨g3, 1, none⟩ b).setCell ⟨g3, 2, none⟩ c) g1 g3 t s1 A1 c1 n1 A2 c2 d1 :=
  ⟨h.f.grown h.res h.ne (grown_set3 M g3 a b c), h.res.set3 ha hb hc, below_set3 h.bel h.n3 _ _ _, h.ne, h.n3⟩
theorem GvR.cells (h : GvR w M g1 g3 t s1 A1 c1 n1 A2 c2 d1) : (World.cell? M ⟨g1, 0, none⟩ = some (.bool s1) ∧ World.cell? M ⟨g1, 1, none⟩ = some (.slice A1 (R n1).length c1) ∧ World.cell? M ⟨g1, 2, none⟩ = some (.slice A2 (R d1).length c2) ∧ Hid (GvR w M g1 g3 t s1 A1 c1 n1 A2 c2 d1)) := by
  obtain ⟨a1, a2, a3, _, _, _⟩ := h.f.box.cells
  exact ⟨a1, a2, a3, h⟩
theorem GvR.of (h : (World.cell? M ⟨g1, 0, none⟩ = some (.bool s1) ∧ World.cell? M ⟨g1, 1, none⟩ = some (.slice A1 (R n1).length c1) ∧ World.cell? M ⟨g1, 2, none⟩ = some (.slice A2 (R d1).length c2) ∧ Hid (GvR w M g1 g3 t s1 A1 c1 n1 A2 c2 d1))) : GvR w M g1 g3 t s1 A1 c1 n1 A2 c2 d1 := h.2.2.2.out
theorem GvR.next (h : (World.cell? M ⟨g1, 0, none⟩ = some (.bool s1) ∧ World.cell? M ⟨g1, 1, none⟩ = some (.slice A1 (R n1).length c1) ∧ World.cell? M ⟨g1, 2, none⟩ = some (.slice A2 (R d1).length c2) ∧ Hid (GvR w M g1 g3 t s1 A1 c1 n1 A2 c2 d1))) (hb : Below M.heap.size M M') : (World.cell? M' ⟨g1, 0, none⟩ = some (.bool s1) ∧ World.cell? M' ⟨g1, 1, none⟩ = some (.slice A1 (R n1).length c1) ∧ World.cell? M' ⟨g1, 2, none⟩ = some (.slice A2 (R d1).length c2) ∧ Hid (GvR w M' g1 g3 t s1 A1 c1 n1 A2 c2 d1)) := ((GvR.of h).below hb).cells
theorem GvR.nextS (h : (World.cell? M ⟨g1, 0, none⟩ = some (.bool s1) ∧ World.cell? M ⟨g1, 1, none⟩ = some (.slice A1 (R n1).length c1) ∧ World.cell? M ⟨g1, 2, none⟩ = some (.slice A2 (R d1).length c2) ∧ Hid (GvR w M g1 g3 t s1 A1 c1 n1 A2 c2 d1))) {a : Bool} {B C : Option Addr} {b b' c c' : Nat} : (World.cell? (((M.setCell ⟨g3, 0, none⟩ (.bool a)).setCell ⟨g3, 1, none⟩ (.slice B b b')).setCell ⟨g3, 2, none⟩ (.slice C c c')) ⟨g1, 0, none⟩ = some (.bool s1) ∧ World.cell? (((M.setCell ⟨g3, 0, none⟩ (.bool a)).setCell ⟨g3, 1, none⟩ (.slice B b b')).setCell ⟨g3, 2, none⟩ (.slice C c c')) ⟨g1, 1, none⟩ = some (.slice A1 (R n1).length c1) ∧ World.cell? (((M.setCell ⟨g3, 0, none⟩ (.bool a)).setCell ⟨g3, 1, none⟩ (.slice B b b')).setCell ⟨g3, 2, none⟩ (.slice C c c')) ⟨g1, 2, none⟩ = some (.slice A2 (R d1).length c2) ∧ Hid (GvR w (((M.setCell ⟨g3, 0, none⟩ (.bool a)).setCell ⟨g3, 1, none⟩ (.slice B b b')).setCell ⟨g3, 2, none⟩ (.slice C c c')) g1 g3 t s1 A1 c1 n1 A2 c2 d1)) :=
  ((GvR.of h).grown (NI.bool _) (NI.slice _ _ _) (NI.slice _ _ _)).cells
theorem GvR.start (h1 : Rd w A1 c1 (R n1)) (h2 : Rd w A2 c2 (R d1)) :
    GvR w ((w.alloc (.cells #[.bool s1, .slice A1 (R n1).length c1, .slice A2 (R d1).length c2] 39)).alloc (.cells #[.bool false, .slice none 0 0, .slice none 0 0] t)) w.heap.size (w.heap.size + 1) t s1 A1 c1 n1 A2 c2 d1 := by
  have b1 := below_alloc w (.cells #[.bool s1, .slice A1 (R n1).length c1, .slice A2 (R d1).length c2] 39)
  have k1 := Box.new w (.bool s1) (.slice A1 (R n1).length c1) (.slice A2 (R d1).length c2) 39
  have z1 : (w.alloc (.cells #[.bool s1, .slice A1 (R n1).length c1, .slice A2 (R d1).length c2] 39)).heap.size = w.heap.size + 1 := by simp
  generalize w.alloc (.cells #[.bool s1, .slice A1 (R n1).length c1, .slice A2 (R d1).length c2] 39) = w1 at *
  have b3 := below_alloc w1 (.cells #[.bool false, .slice none 0 0, .slice none 0 0] t)
  have k3 := Box.new w1 (.bool false) (.slice none 0 0) (.slice none 0 0) t
  rw [z1] at k3
  generalize w1.alloc (.cells #[.bool false, .slice none 0 0, .slice none 0 0] t) = w3 at *
  have b03 : Below w.heap.size w w3 := below_step b1 b1.size b3
  exact ⟨⟨k1.below b3, h1.below b03, h2.below b03⟩, ⟨.bool false, .slice none 0 0, .slice none 0 0, NI.bool _, NI.slice _ _ _, NI.slice _ _ _, k3⟩, b03, by omega, by omega⟩
theorem GvR.finish (h : GvR w M g1 g3 t s1 A1 c1 n1 A2 c2 d1) {s : Bool} {B1 B2 : Option Addr} {b1 b2 : Nat} {l1 l2 : List Int} (h1 : Rd M B1 b1 l1) (h2 : Rd M B2 b2 l2) :
    let M' := ((M.setCell ⟨g3, 0, none⟩ (.bool s)).setCell ⟨g3, 1, none⟩ (.slice B1 l1.length b1)).setCell ⟨g3, 2, none⟩ (.slice B2 l2.length b2)
    M'.cell? ⟨g3, 0, none⟩ = some (.bool s) ∧ M'.cell? ⟨g3, 1, none⟩ = some (.slice B1 l1.length b1) ∧ M'.cell? ⟨g3, 2, none⟩ = some (.slice B2 l2.length b2) ∧
    Rd M' B1 b1 l1 ∧ Rd M' B2 b2 l2 ∧ Below w.heap.size w M' := by
  intro M'
  obtain ⟨x, y, z, hx, hy, hz, hb⟩ := h.res
  obtain ⟨q0, q1, q2, _, _, _⟩ := (hb.set3 (.bool s) (.slice B1 l1.length b1) (.slice B2 l2.length b2)).cells
  exact ⟨q0, q1, q2, h1.grown_box hb hx hy hz (grown_set3 _ _ _ _ _), h2.grown_box hb hx hy hz (grown_set3 _ _ _ _ _), below_set3 h.bel h.n3 _ _ _⟩
end
theorem rDen (s : Bool) (n d : Nat) (w : World) (A1 A2 : Option Addr) (c1 c2 : Nat) (h2 : Rd w A2 c2 (R d)) (hd : d ≠ 0) :
    Calls Tryd.prog 85 #[.agg #[.bool s, .slice A1 (R n).length c1, .slice A2 (R d).length c2]] w fun e w' => ∃ A c, e = .returned (.slice A (R d).length c) ∧ Rd w' A c (R d) ∧ Below w.heap.size w w' := by
  have hl := R_nz hd
  have hz : (((R d).length : Int) == 0) = false := beq_eq_false_iff_ne.2 (by omega)
  have H := Lib.hid h2
  clear h2 hd
  go_enter Tryd.func85, Tryd.ntmps85
  go_wp2
  go_ret
  exact ⟨_, _, rfl, H.out.below (below_alloc _ _), below_alloc _ _⟩
theorem rDen_any (s : Bool) (n d : Nat) (w : World) (A1 A2 : Option Addr) (c1 c2 : Nat) (h2 : Rd w A2 c2 (R d)) :
    Calls Tryd.prog 85 #[.agg #[.bool s, .slice A1 (R n).length c1, .slice A2 (R d).length c2]] w fun e w' => ∃ A c, e = .returned (.slice A (R (if d = 0 then 1 else d)).length c) ∧ Rd w' A c (R (if d = 0 then 1 else d)) ∧ Below w.heap.size w w' := by
  by_cases hd : d = 0
  · subst hd
    rw [if_pos rfl]
    have hz : (((R 0).length : Int) == 0) = true := by simp [R_zero]
    clear h2
    go_enter Tryd.func85, Tryd.ntmps85
    go_wp2_with fail
    refine (rNatOf1 _).mono ?_
    rintro e w3 ⟨A3, c3, rfl, hr3, hb3⟩
    have R3 := Lib.hid hr3
    have B3 := Lib.hid (below_step (below_alloc w _) (by simp) hb3)
    clear hr3 hb3
    go_wp2
    go_ret
    exact ⟨_, _, rfl, R3.out, B3.out⟩
  · rw [if_neg hd]; exact rDen s n d w A1 A2 c1 c2 h2 hd
set_option maxRecDepth 100000 in
theorem rWhole (s : Bool) (n d : Nat) (w : World) (A1 A2 : Option Addr) (c1 c2 : Nat) (h2 : Rd w A2 c2 (R d)) (hd : d ≠ 0) :
    Calls Tryd.prog 72 #[.agg #[.bool s, .slice A1 (R n).length c1, .slice A2 (R d).length c2]] w fun e w' => e = .returned (.bool (decide (d = 1))) ∧ Below w.heap.size w w' := by
  have hl := R_nz hd
  have hz : (((R d).length : Int) == 0) = false := beq_eq_false_iff_ne.2 (by omega)
  obtain ⟨ad, rfl⟩ := h2.some_ hl
  have hcc := h2.le
  have hcm := h2.max
  have hx : ∃ bb x y, (((R d).length : Int) == 1) = bb ∧ (x == 1) = y ∧ w.cell? ad = some (.int .u32 x) ∧ (bb && y) = decide (d = 1) := by
    refine ⟨_, rd (R d) 0, _, rfl, rfl, by simpa [Addr.add] using h2.cell 0 hl, ?_⟩
    rw [Bool.eq_iff_iff]
    simp only [Bool.and_eq_true, beq_iff_eq, decide_eq_true_eq]
    constructor
    · rintro ⟨a, b⟩; exact R_one_of (by omega) b
    · rintro rfl; rw [R_one]; exact ⟨rfl, rfl⟩
  obtain ⟨bb, x, y, hbb, hxy, hcell, hby⟩ := hx
  have HB := Lib.hid hby
  have hcell := cell_later (below_alloc w (.cells #[.bool s, .slice A1 (R n).length c1, .slice (some ad) (R d).length c2] 39)) hcell
  clear h2 hd hby
  go_enter Tryd.func72, Tryd.ntmps72
  rcases bb with _ | _
  · go_wp2
    go_ret
    exact ⟨ret_bool HB.out, below_alloc _ _⟩
  · go_wp2
    go_ret
    exact ⟨ret_bool HB.out, below_alloc _ _⟩
end Go.Proofs.YtfmhplcpejmkhabDoor
