/-
  Contracts of the reference's rational numbers: Prod, Div, Sum, on the parts in memory.
  Contracts of the reference's rational numbers: Opp, Sgn, Diff, Cmp, on the parts in memory.
  Contracts of the program's fractions: Read. Under the premise that the table of math/bits lies as its initialiser lays it.
  Contracts of the reference: words, list, Over.
  Contracts of the reference: Of, Large.
  Contracts of the reference: Rat, Done.
  Contracts of the reference: Done, None; what a result is: GivePost.
  Contracts of the reference: Canonical, on a canonical value.
  Contracts of the reference: Equal; and of the statements' own Is.
  Contract of the statements' own Is: what an operation returns is what the document asks for.
  What the operations of the program and of the reference return, by one word for both; values as they come in; word.Read and Give so told.
  Contracts of number.one and number.two: an operation on one or two values, the operation given by its own contract.
  Plain laws: what the parts of rational numbers give when they are added, multiplied, divided, negated. No condition.
  Contracts of the program's operations on fractions, told by rational numbers; number.Add, Sub, Mul, Middle.
  Contracts of the program: the function literals of Sub and Middle.
  Contracts of number.Add, Sub, Middle, Mul. Under the premise that the table of math/bits lies as its initialiser lays it.
  Contracts of the reference: anyLarge of two values.
  Contracts of the reference's operations on rational numbers, told by rational numbers; Done, Int; what stays while a statement over values goes on.
  Contracts: number.Bits, the reference's Digits.
  Contracts of the functions that number's operations on one number hand to one: the same, the absolute value, the grid of precision 0.
  Contracts of the reference: Int, Half.
  Contracts of the reference's rational numbers: Bottom, Top, Scaled, GridDown, GridUp.
  The reference's Bottom, Top, Scaled, GridDown, GridUp over rational numbers, and what they are in the program's words.
  Contracts of number.Canon, Neg, Abs, Floor, Ceil. Under the premise that the table of math/bits lies as its initialiser lays it.
  Contracts of the reference's Floor, Ceil, Grid.
-/
import Derived.Test.YtfmhplcpejmkhabDoorPSimplestB
namespace Go.Proofs.YtfmhplcpejmkhabDoor
open Go.RowKit Dig
set_option linter.unusedVariables false
set_option linter.unusedSimpArgs false
theorem R_mul_length (a b : Nat) : (R (a * b)).length ≤ (R a).length + (R b).length := by
  refine (dig_length_le B16_two _ _).2 ?_
  have h1 := lt_pow_length B16_two a
  have h2 := lt_pow_length B16_two b
  rw [Nat.pow_add]
  exact Nat.mul_lt_mul'' h1 h2
theorem R_add_length (a b : Nat) : (R (a + b)).length ≤ (R a).length + (R b).length + 1 := by
  refine (dig_length_le B16_two _ _).2 ?_
  have h1 := lt_pow_length B16_two a
  have h2 := lt_pow_length B16_two b
  have e1 : B16 ^ (dig B16 a).length ≤ B16 ^ ((R a).length + (R b).length) := Nat.pow_le_pow_right B16_pos (by unfold R; omega)
  have e2 : B16 ^ (dig B16 b).length ≤ B16 ^ ((R a).length + (R b).length) := Nat.pow_le_pow_right B16_pos (by unfold R; omega)
  rw [Nat.pow_succ]
  have := Nat.mul_le_mul_left (B16 ^ ((R a).length + (R b).length)) B16_two
  omega
set_option maxHeartbeats 2000000 in
theorem rDivQ (s1 : Bool) (n1 d1 : Nat) (s2 : Bool) (n2 d2 : Nat) (w : World) (A1 A2 A3 A4 : Option Addr) (c1 c2 c3 c4 : Nat) (h1 : Rd w A1 c1 (R n1)) (h2 : Rd w A2 c2 (R d1)) (h3 : Rd w A3 c3 (R n2)) (h4 : Rd w A4 c4 (R d2))
    (l1 : (R n1).length ≤ 400000) (l2 : (R d1).length ≤ 400000) (l3 : (R n2).length ≤ 400000) (l4 : (R d2).length ≤ 400000) (z1 : d1 ≠ 0) (z2 : d2 ≠ 0) (z3 : n2 ≠ 0) :
    Calls Tryd.prog 100 #[.agg #[.bool s1, .slice A1 (R n1).length c1, .slice A2 (R d1).length c2], .agg #[.bool s2, .slice A3 (R n2).length c3, .slice A4 (R d2).length c4]] w fun e w' => ∃ u, e = .returned u ∧ IsQ w' u (mkRat (sg (!s1 == s2) (n1 * d2)) (d1 * n2)) ∧ Below w.heap.size w w' := by
  have T0 := Lib.hid (TwoR.start (s1 := s1) (s2 := s2) h1 h2 h3 h4)
  have Z1 := Lib.hid z1
  have Z2 := Lib.hid z2
  have Z := Lib.hid (Nat.mul_ne_zero z1 z3)
  have L5 := Lib.hid (Nat.le_trans (R_mul_length n1 d2) (by omega : _ ≤ 2000000))
  have L6 := Lib.hid (Nat.le_trans (R_mul_length d1 n2) (by omega : _ ≤ 2000000))
  clear h1 h2 h3 h4 z1 z2 z3
  go_enter Tryd.func100, Tryd.ntmps100
  go_wp2_with fail
  go_region_held3 (fun W' => (World.cell? W' ⟨(w.heap.size), 0, none⟩ = some (.bool s1) ∧ World.cell? W' ⟨(w.heap.size), 1, none⟩ = some (.slice A1 (R n1).length c1) ∧ World.cell? W' ⟨(w.heap.size), 2, none⟩ = some (.slice A2 (R d1).length c2) ∧ World.cell? W' ⟨(w.heap.size + 1), 0, none⟩ = some (.bool s2) ∧ World.cell? W' ⟨(w.heap.size + 1), 1, none⟩ = some (.slice A3 (R n2).length c3) ∧ World.cell? W' ⟨(w.heap.size + 1), 2, none⟩ = some (.slice A4 (R d2).length c4) ∧ Hid (TwoR w W' (w.heap.size) (w.heap.size + 1) (w.heap.size + 1 + 1) s1 A1 c1 n1 A2 c2 d1 s2 A3 c3 n2 A4 c4 d2)))
    (with_reducible (first | assumption | exact T0.out.cells | exact TwoR.next (by assumption) (by assumption) | exact TwoR.nextS (by assumption)))
    (first
       | (go_at_call_of 85 (Value.agg #[.bool s2, .slice A3 (R n2).length c3, .slice A4 (R d2).length c4])
          refine (rDen _ _ _ _ _ _ _ _ (TwoR.of (by assumption)).g.r2 Z2.out).mono ?_
          rintro e wc ⟨Ac, cc, rfl, rc, bc⟩)
       | (go_at_call_of 96 (Value.slice A1 (R n1).length c1)
          refine (rMul _ _ _ _ _ _ _ (TwoR.of (by assumption)).f.r1 rc (by omega) (by omega)).mono ?_
          rintro e wa ⟨Aa, ca, rfl, ra, ba⟩)
       | (go_at_call_of 85 (Value.agg #[.bool s1, .slice A1 (R n1).length c1, .slice A2 (R d1).length c2])
          refine (rDen _ _ _ _ _ _ _ _ (TwoR.of (by assumption)).f.r2 Z1.out).mono ?_
          rintro e wb ⟨Ab, cb, rfl, rb, bb⟩)
       | (go_at_call 96
          refine (rMul _ _ _ _ _ _ _ rb (TwoR.of (by assumption)).g.r1 (by omega) (by omega)).mono ?_
          rintro e wd ⟨Ad, cd, rfl, rd, bd⟩)
       | (go_at_call 70
          refine (rMake _ _ _ _ _ _ _ _ ((ra.below bb).below bd) rd Z.out L5.out L6.out).mono ?_
          rintro e we ⟨u, rfl, ⟨B1, b1, B2, b2, rfl, hB1, hB2⟩, be⟩
          have hh := (TwoR.of (by assumption)).below be
          obtain ⟨x, y, z, hx, hy, hz, k1, k2, k3⟩ := hh.res.cells))
  go_wp2
  obtain ⟨q0, q1, q2, r1, r2, hb⟩ := hh.finish (s := ng (mkRat (sg (!s1 == s2) (n1 * d2)) (d1 * n2))) hB1 hB2
  refine bodyPost_ret (v := .agg #[.bool (ng (mkRat (sg (!s1 == s2) (n1 * d2)) (d1 * n2))), .slice B1 (R (mkRat (sg (!s1 == s2) (n1 * d2)) (d1 * n2)).num.natAbs).length b1, .slice B2 (R (mkRat (sg (!s1 == s2) (n1 * d2)) (d1 * n2)).den).length b2]) (by simp [results, Tryd.results100, go_sem, q0, q1, q2]) rfl ?_
  exact ⟨_, rfl, ⟨_, _, _, _, rfl, r1, r2⟩, hb⟩
set_option maxHeartbeats 4000000 in
theorem rSum (s1 : Bool) (n1 d1 : Nat) (s2 : Bool) (n2 d2 : Nat) (w : World) (A1 A2 A3 A4 : Option Addr) (c1 c2 c3 c4 : Nat) (h1 : Rd w A1 c1 (R n1)) (h2 : Rd w A2 c2 (R d1)) (h3 : Rd w A3 c3 (R n2)) (h4 : Rd w A4 c4 (R d2))
    (l1 : (R n1).length ≤ 400000) (l2 : (R d1).length ≤ 400000) (l3 : (R n2).length ≤ 400000) (l4 : (R d2).length ≤ 400000) (z1 : d1 ≠ 0) (z2 : d2 ≠ 0) :
    Calls Tryd.prog 115 #[.agg #[.bool s1, .slice A1 (R n1).length c1, .slice A2 (R d1).length c2], .agg #[.bool s2, .slice A3 (R n2).length c3, .slice A4 (R d2).length c4]] w fun e w' => ∃ u, e = .returned u ∧ IsQ w' u (mkRat (sg s1 n1 * d2 + sg s2 n2 * d1) (d1 * d2)) ∧ Below w.heap.size w w' := by
  have T0 := Lib.hid (TwoR.start (s1 := s1) (s2 := s2) h1 h2 h3 h4)
  have Z1 := Lib.hid z1
  have Z2 := Lib.hid z2
  have Z := Lib.hid (Nat.mul_ne_zero z1 z2)
  have L3 := Lib.hid (Nat.le_trans (R_mul_length n1 d2) (by omega : _ ≤ 800000))
  have L4 := Lib.hid (Nat.le_trans (R_mul_length n2 d1) (by omega : _ ≤ 800000))
  have L6 := Lib.hid (Nat.le_trans (R_mul_length d1 d2) (by omega : _ ≤ 2000000))
  have LA := Lib.hid (show (R (n1 * d2 + n2 * d1)).length ≤ 2000000 from Nat.le_trans (R_add_length _ _) (by have := L3.out; have := L4.out; omega))
  clear h1 h2 h3 h4 z1 z2
  go_enter Tryd.func115, Tryd.ntmps115
  go_wp2_with fail
  go_region_held3 (fun W' => (World.cell? W' ⟨(w.heap.size), 0, none⟩ = some (.bool s1) ∧ World.cell? W' ⟨(w.heap.size), 1, none⟩ = some (.slice A1 (R n1).length c1) ∧ World.cell? W' ⟨(w.heap.size), 2, none⟩ = some (.slice A2 (R d1).length c2) ∧ World.cell? W' ⟨(w.heap.size + 1), 0, none⟩ = some (.bool s2) ∧ World.cell? W' ⟨(w.heap.size + 1), 1, none⟩ = some (.slice A3 (R n2).length c3) ∧ World.cell? W' ⟨(w.heap.size + 1), 2, none⟩ = some (.slice A4 (R d2).length c4) ∧ Hid (TwoR w W' (w.heap.size) (w.heap.size + 1) (w.heap.size + 1 + 1) s1 A1 c1 n1 A2 c2 d1 s2 A3 c3 n2 A4 c4 d2)))
    (with_reducible (first | assumption | exact T0.out.cells | exact TwoR.next (by assumption) (by assumption) | exact TwoR.nextS (by assumption)))
    (first
       | (go_at_call_of 85 (Value.agg #[.bool s2, .slice A3 (R n2).length c3, .slice A4 (R d2).length c4])
          refine (rDen _ _ _ _ _ _ _ _ (TwoR.of (by assumption)).g.r2 Z2.out).mono ?_
          rintro e wc ⟨Ac, cc, rfl, rc, bc⟩)
       | (go_at_call_of 96 (Value.slice A1 (R n1).length c1)
          refine (rMul _ _ _ _ _ _ _ (TwoR.of (by assumption)).f.r1 rc (by omega) (by omega)).mono ?_
          rintro e wa ⟨Aa, ca, rfl, ra, ba⟩)
       | (go_at_call_of 85 (Value.agg #[.bool s1, .slice A1 (R n1).length c1, .slice A2 (R d1).length c2])
          refine (rDen _ _ _ _ _ _ _ _ (TwoR.of (by assumption)).f.r2 Z1.out).mono ?_
          rintro e wb ⟨Ab, cb, rfl, rb, bb⟩)
       | (go_at_call 96
          refine (rMul _ _ _ _ _ _ _ (TwoR.of (by assumption)).g.r1 rb (by omega) (by omega)).mono ?_
          rintro e wd ⟨Ad, cd, rfl, rd, bd⟩))
  have RA := Lib.hid ((ra.below bb).below bd)
  have RB := Lib.hid rd
  have TB := Lib.hid (TwoR.of (by assumption))
  clear ra rb rc rd ba bb bc bd
  go_wp2_with fail
  go_region_held3 (fun W' => (World.cell? W' ⟨(w.heap.size), 0, none⟩ = some (.bool s1) ∧ World.cell? W' ⟨(w.heap.size), 1, none⟩ = some (.slice A1 (R n1).length c1) ∧ World.cell? W' ⟨(w.heap.size), 2, none⟩ = some (.slice A2 (R d1).length c2) ∧ World.cell? W' ⟨(w.heap.size + 1), 0, none⟩ = some (.bool s2) ∧ World.cell? W' ⟨(w.heap.size + 1), 1, none⟩ = some (.slice A3 (R n2).length c3) ∧ World.cell? W' ⟨(w.heap.size + 1), 2, none⟩ = some (.slice A4 (R d2).length c4) ∧ Hid (TwoR w W' (w.heap.size) (w.heap.size + 1) (w.heap.size + 1 + 1) s1 A1 c1 n1 A2 c2 d1 s2 A3 c3 n2 A4 c4 d2)))
    (with_reducible (first | assumption | exact (TB.out.below (Below.refl _ _).drew).cells | exact TwoR.next (by assumption) (by assumption) | exact TwoR.nextS (by assumption)))
    (first
       | (go_at_call_of 85 (Value.agg #[.bool s1, .slice A1 (R n1).length c1, .slice A2 (R d1).length c2])
          refine (rDen _ _ _ _ _ _ _ _ (TwoR.of (by assumption)).f.r2 Z1.out).mono ?_
          rintro e we ⟨Ae, ce, rfl, re, be⟩)
       | (go_at_call_of 85 (Value.agg #[.bool s2, .slice A3 (R n2).length c3, .slice A4 (R d2).length c4])
          refine (rDen _ _ _ _ _ _ _ _ (TwoR.of (by assumption)).g.r2 Z2.out).mono ?_
          rintro e wf ⟨Af, cf, rfl, rf, bf⟩)
       | (go_at_call 96
          refine (rMul _ _ _ _ _ _ _ (re.below bf) rf (by omega) (by omega)).mono ?_
          rintro e wg ⟨Ag, cg, rfl, rg, bg⟩))
  have RA := Lib.hid (((RA.out.below (Below.drew_step be)).below bf).below bg)
  have RB := Lib.hid (((RB.out.below (Below.drew_step be)).below bf).below bg)
  have RC := Lib.hid rg
  have TC := Lib.hid (TwoR.of (by assumption))
  clear re rf rg be bf bg TB
  obtain ⟨x1, x2, x3, x4, x5, x6, _⟩ := TC.out.cells
  by_cases hs : s1 = s2
  · have hsb : (s1 == s2) = true := beq_iff_eq.2 hs
    have HS := Lib.hid hs
    clear hs
    go_wp2_with fail
    go_region_held3 (fun W' => (World.cell? W' ⟨(w.heap.size), 0, none⟩ = some (.bool s1) ∧ World.cell? W' ⟨(w.heap.size), 1, none⟩ = some (.slice A1 (R n1).length c1) ∧ World.cell? W' ⟨(w.heap.size), 2, none⟩ = some (.slice A2 (R d1).length c2) ∧ World.cell? W' ⟨(w.heap.size + 1), 0, none⟩ = some (.bool s2) ∧ World.cell? W' ⟨(w.heap.size + 1), 1, none⟩ = some (.slice A3 (R n2).length c3) ∧ World.cell? W' ⟨(w.heap.size + 1), 2, none⟩ = some (.slice A4 (R d2).length c4) ∧ Hid (TwoR w W' (w.heap.size) (w.heap.size + 1) (w.heap.size + 1 + 1) s1 A1 c1 n1 A2 c2 d1 s2 A3 c3 n2 A4 c4 d2)))
      (with_reducible (first | assumption | exact (TC.out.below (Below.refl _ _).drew).cells | exact TwoR.next (by assumption) (by assumption) | exact TwoR.nextS (by assumption)))
      (first
        | (go_at_call 129
           refine (rAdd _ _ _ _ _ _ _ (RA.out.below (Below.refl _ _).drew) (RB.out.below (Below.refl _ _).drew) (by have := L3.out; omega) (by have := L4.out; omega)).mono ?_
           rintro e wd ⟨Ad, cd, rfl, rd, bd⟩)
        | (go_at_call 70
           refine (rMake _ _ _ _ _ _ _ _ rd (RC.out.below (Below.drew_step bd)) Z.out LA.out L6.out).mono ?_
           rintro e we ⟨u, rfl, ⟨B1, b1, B2, b2, rfl, hB1, hB2⟩, be⟩
           have hh := (TwoR.of (by assumption)).below be
           obtain ⟨x, y, z, hx, hy, hz, k1, k2, k3⟩ := hh.res.cells))
    go_wp2
    obtain ⟨q0, q1, q2, r1, r2, hb⟩ := hh.finish (s := ng (mkRat (sg s1 (n1 * d2 + n2 * d1)) (d1 * d2))) hB1 hB2
    refine bodyPost_ret (v := .agg #[.bool (ng (mkRat (sg s1 (n1 * d2 + n2 * d1)) (d1 * d2))), .slice B1 (R (mkRat (sg s1 (n1 * d2 + n2 * d1)) (d1 * d2)).num.natAbs).length b1, .slice B2 (R (mkRat (sg s1 (n1 * d2 + n2 * d1)) (d1 * d2)).den).length b2]) (by simp [results, Tryd.results115, go_sem, q0, q1, q2]) rfl ?_
    refine ⟨_, rfl, ?_, hb⟩
    rw [sg_add_same HS.out]; exact ⟨_, _, _, _, rfl, r1, r2⟩
  · have hsb : (s1 == s2) = false := beq_eq_false_iff_ne.2 hs
    have HS := Lib.hid hs
    clear hs
    go_wp2_with fail
    refine (rCmp _ _ _ _ _ _ _ RA.out RB.out).mono ?_
    rintro e w5 ⟨rfl, b5⟩
    have RA := Lib.hid (RA.out.below b5)
    have RB := Lib.hid (RB.out.below b5)
    have RC := Lib.hid (RC.out.below b5)
    have TC := Lib.hid (TC.out.below b5)
    clear b5 x1 x2 x3 x4 x5 x6
    obtain ⟨x1, x2, x3, x4, x5, x6, _⟩ := TC.out.cells
    by_cases hc : n2 * d1 ≤ n1 * d2
    · have hcb : (0 : Int) ≤ cmpI (n1 * d2) (n2 * d1) := by unfold cmpI; split <;> omega
      have HC := Lib.hid hc
      clear hc
      go_wp2_with fail
      go_region_held3 (fun W' => (World.cell? W' ⟨(w.heap.size), 0, none⟩ = some (.bool s1) ∧ World.cell? W' ⟨(w.heap.size), 1, none⟩ = some (.slice A1 (R n1).length c1) ∧ World.cell? W' ⟨(w.heap.size), 2, none⟩ = some (.slice A2 (R d1).length c2) ∧ World.cell? W' ⟨(w.heap.size + 1), 0, none⟩ = some (.bool s2) ∧ World.cell? W' ⟨(w.heap.size + 1), 1, none⟩ = some (.slice A3 (R n2).length c3) ∧ World.cell? W' ⟨(w.heap.size + 1), 2, none⟩ = some (.slice A4 (R d2).length c4) ∧ Hid (TwoR w W' (w.heap.size) (w.heap.size + 1) (w.heap.size + 1 + 1) s1 A1 c1 n1 A2 c2 d1 s2 A3 c3 n2 A4 c4 d2)))
        (with_reducible (first | assumption | exact (TC.out.below (Below.refl _ _).drew).cells | exact TwoR.next (by assumption) (by assumption) | exact TwoR.nextS (by assumption)))
        (first
          | (go_at_call 130
             refine (rSub _ _ _ _ _ _ _ (RA.out.below (Below.refl _ _).drew) (RB.out.below (Below.refl _ _).drew) (by have := L3.out; omega) HC.out).mono ?_
             rintro e wd ⟨Ad, cd, rfl, rd, bd⟩)
          | (go_at_call 70
             refine (rMake _ _ _ _ _ _ _ _ rd (RC.out.below (Below.drew_step bd)) Z.out (Nat.le_trans (dig_length_mono B16_two (Nat.sub_le _ _)) (Nat.le_trans L3.out (by omega))) L6.out).mono ?_
             rintro e we ⟨u, rfl, ⟨B1, b1, B2, b2, rfl, hB1, hB2⟩, be⟩
             have hh := (TwoR.of (by assumption)).below be
             obtain ⟨x, y, z, hx, hy, hz, k1, k2, k3⟩ := hh.res.cells))
      go_wp2
      obtain ⟨q0, q1, q2, r1, r2, hb⟩ := hh.finish (s := ng (mkRat (sg s1 (n1 * d2 - n2 * d1)) (d1 * d2))) hB1 hB2
      refine bodyPost_ret (v := .agg #[.bool (ng (mkRat (sg s1 (n1 * d2 - n2 * d1)) (d1 * d2))), .slice B1 (R (mkRat (sg s1 (n1 * d2 - n2 * d1)) (d1 * d2)).num.natAbs).length b1, .slice B2 (R (mkRat (sg s1 (n1 * d2 - n2 * d1)) (d1 * d2)).den).length b2]) (by simp [results, Tryd.results115, go_sem, q0, q1, q2]) rfl ?_
      refine ⟨_, rfl, ?_, hb⟩
      rw [sg_add_sub HS.out HC.out]; exact ⟨_, _, _, _, rfl, r1, r2⟩
    · have hcb : cmpI (n1 * d2) (n2 * d1) < (0 : Int) := by unfold cmpI; split <;> omega
      have HC := Lib.hid (show n1 * d2 ≤ n2 * d1 by omega)
      clear hc
      go_wp2_with fail
      go_region_held3 (fun W' => (World.cell? W' ⟨(w.heap.size), 0, none⟩ = some (.bool s1) ∧ World.cell? W' ⟨(w.heap.size), 1, none⟩ = some (.slice A1 (R n1).length c1) ∧ World.cell? W' ⟨(w.heap.size), 2, none⟩ = some (.slice A2 (R d1).length c2) ∧ World.cell? W' ⟨(w.heap.size + 1), 0, none⟩ = some (.bool s2) ∧ World.cell? W' ⟨(w.heap.size + 1), 1, none⟩ = some (.slice A3 (R n2).length c3) ∧ World.cell? W' ⟨(w.heap.size + 1), 2, none⟩ = some (.slice A4 (R d2).length c4) ∧ Hid (TwoR w W' (w.heap.size) (w.heap.size + 1) (w.heap.size + 1 + 1) s1 A1 c1 n1 A2 c2 d1 s2 A3 c3 n2 A4 c4 d2)))
        (with_reducible (first | assumption | exact (TC.out.below (Below.refl _ _).drew).cells | exact TwoR.next (by assumption) (by assumption) | exact TwoR.nextS (by assumption)))
        (first
          | (go_at_call 130
             refine (rSub _ _ _ _ _ _ _ (RB.out.below (Below.refl _ _).drew) (RA.out.below (Below.refl _ _).drew) (by have := L4.out; omega) HC.out).mono ?_
             rintro e wd ⟨Ad, cd, rfl, rd, bd⟩)
          | (go_at_call 70
             refine (rMake _ _ _ _ _ _ _ _ rd (RC.out.below (Below.drew_step bd)) Z.out (Nat.le_trans (dig_length_mono B16_two (Nat.sub_le _ _)) (Nat.le_trans L4.out (by omega))) L6.out).mono ?_
             rintro e we ⟨u, rfl, ⟨B1, b1, B2, b2, rfl, hB1, hB2⟩, be⟩
             have hh := (TwoR.of (by assumption)).below be
             obtain ⟨x, y, z, hx, hy, hz, k1, k2, k3⟩ := hh.res.cells))
      go_wp2
      obtain ⟨q0, q1, q2, r1, r2, hb⟩ := hh.finish (s := ng (mkRat (sg s2 (n2 * d1 - n1 * d2)) (d1 * d2))) hB1 hB2
      refine bodyPost_ret (v := .agg #[.bool (ng (mkRat (sg s2 (n2 * d1 - n1 * d2)) (d1 * d2))), .slice B1 (R (mkRat (sg s2 (n2 * d1 - n1 * d2)) (d1 * d2)).num.natAbs).length b1, .slice B2 (R (mkRat (sg s2 (n2 * d1 - n1 * d2)) (d1 * d2)).den).length b2]) (by simp [results, Tryd.results115, go_sem, q0, q1, q2]) rfl ?_
      refine ⟨_, rfl, ?_, hb⟩
      rw [sg_add_sub' HS.out HC.out]; exact ⟨_, _, _, _, rfl, r1, r2⟩
end Go.Proofs.YtfmhplcpejmkhabDoor

namespace Go.Proofs.YtfmhplcpejmkhabDoor
open Go.RowKit Dig
set_option linter.unusedVariables false
set_option linter.unusedSimpArgs false
theorem R_len_pos (n : Nat) : decide (0 < (R n).length) = !decide (n = 0) := by
  by_cases h : n = 0
  · subst h; simp [R_zero]
  · have := R_nz h
    simp [h]; omega
set_option maxHeartbeats 1000000 in
theorem rOpp (s1 : Bool) (n1 d1 : Nat) (w : World) (A1 A2 : Option Addr) (c1 c2 : Nat) :
    Calls Tryd.prog 28 #[.agg #[.bool s1, .slice A1 (R n1).length c1, .slice A2 (R d1).length c2]] w fun e w' => e = .returned (.agg #[.bool (!s1 && !decide (n1 = 0)), .slice A1 (R n1).length c1, .slice A2 (R d1).length c2]) ∧ Below w.heap.size w w' := by
  obtain ⟨bb, hbb⟩ : ∃ bb, decide (0 < (R n1).length) = bb := ⟨_, rfl⟩
  have hbb2 : decide ((0 : Int) < ((R n1).length : Int)) = bb := by rw [← hbb]; simp
  have HB := Lib.hid (show (!decide (n1 = 0)) = bb by rw [← R_len_pos, hbb])
  rw [HB.out]
  go_enter Tryd.func28, Tryd.ntmps28
  cases s1
  · cases bb
    · go_wp2_with fail
      refine bodyPost_ret (v := .agg #[.bool false, .slice A1 (R n1).length c1, .slice A2 (R d1).length c2]) (by simp [results, Tryd.results28, go_sem]) rfl ⟨rfl, below_alloc2 _ _ _ _ _ _ _ _ _⟩
    · go_wp2_with fail
      refine bodyPost_ret (v := .agg #[.bool true, .slice A1 (R n1).length c1, .slice A2 (R d1).length c2]) (by simp [results, Tryd.results28, go_sem]) rfl ⟨rfl, below_alloc2 _ _ _ _ _ _ _ _ _⟩
  · go_wp2_with fail
    refine bodyPost_ret (v := .agg #[.bool false, .slice A1 (R n1).length c1, .slice A2 (R d1).length c2]) (by simp [results, Tryd.results28, go_sem]) rfl ⟨rfl, below_alloc2 _ _ _ _ _ _ _ _ _⟩
set_option maxHeartbeats 1000000 in
theorem rSgn (s1 : Bool) (n1 d1 : Nat) (w : World) (A1 A2 : Option Addr) (c1 c2 : Nat) :
    Calls Tryd.prog 26 #[.agg #[.bool s1, .slice A1 (R n1).length c1, .slice A2 (R d1).length c2]] w fun e w' => e = .returned (.int .i64 (sgnI s1 n1)) ∧ Below w.heap.size w w' := by
  by_cases h : n1 = 0
  · have hz : (((R n1).length : Int) == 0) = true := by subst h; simp [R_zero]
    have H := Lib.hid h
    clear h
    go_enter Tryd.func26, Tryd.ntmps26
    go_wp2_with fail
    go_ret
    exact ⟨ret_int (by rw [sgnI, if_pos H.out]), below_alloc _ _⟩
  · have hz : (((R n1).length : Int) == 0) = false := by have := R_nz h; rw [beq_eq_false_iff_ne]; omega
    have H := Lib.hid h
    clear h
    go_enter Tryd.func26, Tryd.ntmps26
    cases s1
    · go_wp2_with fail
      go_ret
      exact ⟨ret_int (by rw [sgnI, if_neg H.out]; rfl), below_alloc _ _⟩
    · go_wp2_with fail
      go_ret
      exact ⟨ret_int (by rw [sgnI, if_neg H.out]; rfl), below_alloc _ _⟩
set_option maxHeartbeats 2000000 in
theorem rDiff (s1 : Bool) (n1 d1 : Nat) (s2 : Bool) (n2 d2 : Nat) (w : World) (A1 A2 A3 A4 : Option Addr) (c1 c2 c3 c4 : Nat) (h1 : Rd w A1 c1 (R n1)) (h2 : Rd w A2 c2 (R d1)) (h3 : Rd w A3 c3 (R n2)) (h4 : Rd w A4 c4 (R d2))
    (l1 : (R n1).length ≤ 400000) (l2 : (R d1).length ≤ 400000) (l3 : (R n2).length ≤ 400000) (l4 : (R d2).length ≤ 400000) (z1 : d1 ≠ 0) (z2 : d2 ≠ 0) :
    Calls Tryd.prog 83 #[.agg #[.bool s1, .slice A1 (R n1).length c1, .slice A2 (R d1).length c2], .agg #[.bool s2, .slice A3 (R n2).length c3, .slice A4 (R d2).length c4]] w fun e w' => ∃ u, e = .returned u ∧ IsQ w' u (mkRat (sg s1 n1 * d2 + sg (!s2 && !decide (n2 = 0)) n2 * d1) (d1 * d2)) ∧ Below w.heap.size w w' := by
  have T0 := Lib.hid (TwoR.start (s1 := s1) (s2 := s2) h1 h2 h3 h4)
  have Z1 := Lib.hid z1
  have Z2 := Lib.hid z2
  clear h1 h2 h3 h4 z1 z2
  obtain ⟨t2, ht2⟩ : ∃ t2, (!s2 && !decide (n2 = 0)) = t2 := ⟨_, rfl⟩
  have HT2 := Lib.hid ht2
  rw [ht2]
  obtain ⟨q, hq⟩ : ∃ q, mkRat (sg s1 n1 * d2 + sg t2 n2 * d1) (d1 * d2) = q := ⟨_, rfl⟩
  have HQ := Lib.hid hq
  rw [hq]
  clear hq ht2
  go_enter Tryd.func83, Tryd.ntmps83
  go_wp2_with fail
  go_region_held3 (fun W' => (World.cell? W' ⟨(w.heap.size), 0, none⟩ = some (.bool s1) ∧ World.cell? W' ⟨(w.heap.size), 1, none⟩ = some (.slice A1 (R n1).length c1) ∧ World.cell? W' ⟨(w.heap.size), 2, none⟩ = some (.slice A2 (R d1).length c2) ∧ World.cell? W' ⟨(w.heap.size + 1), 0, none⟩ = some (.bool s2) ∧ World.cell? W' ⟨(w.heap.size + 1), 1, none⟩ = some (.slice A3 (R n2).length c3) ∧ World.cell? W' ⟨(w.heap.size + 1), 2, none⟩ = some (.slice A4 (R d2).length c4) ∧ Hid (TwoR w W' (w.heap.size) (w.heap.size + 1) (w.heap.size + 1 + 1) s1 A1 c1 n1 A2 c2 d1 s2 A3 c3 n2 A4 c4 d2)))
    (with_reducible (first | assumption | exact T0.out.cells | exact TwoR.next (by assumption) (by assumption) | exact TwoR.nextS (by assumption)))
    (first
       | (go_at_call 28
          refine (rOpp _ _ _ _ _ _ _ _).mono ?_
          rw [HT2.out]
          rintro e wa ⟨rfl, ba⟩)
       | (go_at_call 115
          refine (rSum _ _ _ _ _ _ _ _ _ _ _ _ _ _ _ (TwoR.of (by assumption)).f.r1 (TwoR.of (by assumption)).f.r2 (TwoR.of (by assumption)).g.r1 (TwoR.of (by assumption)).g.r2 l1 l2 l3 l4 Z1.out Z2.out).mono ?_
          rw [HQ.out]
          rintro e we ⟨u, rfl, ⟨B1, b1, B2, b2, rfl, hB1, hB2⟩, be⟩
          have hh := (TwoR.of (by assumption)).below be
          obtain ⟨x, y, z, hx, hy, hz, k1, k2, k3⟩ := hh.res.cells))
  go_wp2
  obtain ⟨q0, q1, q2, r1, r2, hb⟩ := hh.finish (s := ng q) hB1 hB2
  refine bodyPost_ret (v := .agg #[.bool (ng q), .slice B1 (R q.num.natAbs).length b1, .slice B2 (R q.den).length b2]) (by simp [results, Tryd.results83, go_sem, q0, q1, q2]) rfl ?_
  exact ⟨_, rfl, ⟨_, _, _, _, rfl, r1, r2⟩, hb⟩
set_option maxHeartbeats 1000000 in
theorem rCmpQ (s1 : Bool) (n1 d1 : Nat) (s2 : Bool) (n2 d2 : Nat) (w : World) (A1 A2 A3 A4 : Option Addr) (c1 c2 c3 c4 : Nat) (h1 : Rd w A1 c1 (R n1)) (h2 : Rd w A2 c2 (R d1)) (h3 : Rd w A3 c3 (R n2)) (h4 : Rd w A4 c4 (R d2))
    (l1 : (R n1).length ≤ 400000) (l2 : (R d1).length ≤ 400000) (l3 : (R n2).length ≤ 400000) (l4 : (R d2).length ≤ 400000) (z1 : d1 ≠ 0) (z2 : d2 ≠ 0) (q : Rat) (hq : mkRat (sg s1 n1 * d2 + sg (!s2 && !decide (n2 = 0)) n2 * d1) (d1 * d2) = q) :
    Calls Tryd.prog 40 #[.agg #[.bool s1, .slice A1 (R n1).length c1, .slice A2 (R d1).length c2], .agg #[.bool s2, .slice A3 (R n2).length c3, .slice A4 (R d2).length c4]] w fun e w' => e = .returned (.int .i64 (sgnI (ng q) q.num.natAbs)) ∧ Below w.heap.size w w' := by
  have HQ := Lib.hid hq
  have hb := below_alloc2 w (.bool s1) (.slice A1 (R n1).length c1) (.slice A2 (R d1).length c2) (.bool s2) (.slice A3 (R n2).length c3) (.slice A4 (R d2).length c4) 39 39
  have HB := Lib.hid hb
  have H1 := Lib.hid (h1.below hb)
  have H2 := Lib.hid (h2.below hb)
  have H3 := Lib.hid (h3.below hb)
  have H4 := Lib.hid (h4.below hb)
  have Z1 := Lib.hid z1
  have Z2 := Lib.hid z2
  clear hq h1 h2 h3 h4 z1 z2 hb
  go_enter Tryd.func40, Tryd.ntmps40
  go_wp2_with fail
  refine (rDiff _ _ _ _ _ _ _ _ _ _ _ _ _ _ _ H1.out H2.out H3.out H4.out l1 l2 l3 l4 Z1.out Z2.out).mono ?_
  rw [HQ.out]
  rintro e we ⟨u, rfl, ⟨B1, b1, B2, b2, rfl, hB1, hB2⟩, be⟩
  have HE := Lib.hid (below_step HB.out HB.out.size be)
  clear hB1 hB2 be
  go_wp2_with fail
  refine (rSgn _ _ _ _ _ _ _ _).mono ?_
  rintro e wf ⟨rfl, bf⟩
  have HF := Lib.hid (below_step HE.out HE.out.size bf)
  clear bf
  go_wp2
  go_ret
  exact ⟨rfl, HF.out⟩
end Go.Proofs.YtfmhplcpejmkhabDoor

namespace Go.Proofs.YtfmhplcpejmkhabDoor
open Go.RowKit Dig
set_option linter.unusedVariables false
set_option linter.unusedSimpArgs false
/-- the rational number that a value denotes: a denominator 0 stands for 1 -/
def ratOf (s : Bool) (N D : Nat) : Rat := mkRat (sg s N) (if D = 0 then 1 else D)
/-- the number is not large -/
def fitQ (q : Rat) : Prop := (W q.num.natAbs).length ≤ 64 ∧ (W q.den).length ≤ 64
/-- what Read returns -/
def ReadPost (w : World) (s1 : Bool) (N D : Nat) (e : Ending) (w' : World) : Prop :=
  ∃ u b, e = .returned (.tuple #[u, .bool b]) ∧ (∃ s A n c A' n' c', u = .agg #[.bool s, .slice A n c, .slice A' n' c']) ∧
    (b = true ↔ (W N).length ≤ 256 ∧ (W D).length ≤ 256 ∧ fitQ (ratOf s1 N D)) ∧ (b = true → IsF w' u (ratOf s1 N D)) ∧ Below w.heap.size w w'
instance (q : Rat) : Decidable (fitQ q) := by unfold fitQ; exact inferInstance
/-- what stays while a value is read -/
structure Rv (w M : World) (s1 : Bool) (A1 : Option Addr) (c1 : Nat) (l1 : List Int) (A2 : Option Addr) (c2 : Nat) (l2 : List Int) : Prop where
  box : Box M w.heap.size (.bool s1) (.slice A1 l1.length c1) (.slice A2 l2.length c2) 24
  res : Res M (w.heap.size + 1) 65
  r1 : Rd M A1 c1 l1
  r2 : Rd M A2 c2 l2
  tab : Tab M
  bel : Below w.heap.size w M
section
variable {w M M' : World} {s1 : Bool} {A1 : Option Addr} {c1 : Nat} {l1 : List Int} {A2 : Option Addr} {c2 : Nat} {l2 : List Int}
theorem Rv.below (h : Rv w M s1 A1 c1 l1 A2 c2 l2) (hb : Below M.heap.size M M') : Rv w M' s1 A1 c1 l1 A2 c2 l2 :=
  ⟨h.box.below hb, h.res.below hb, h.r1.below hb, h.r2.below hb, h.tab.below hb, below_step h.bel h.bel.size hb⟩
theorem Rv.cells (h : Rv w M s1 A1 c1 l1 A2 c2 l2) : World.cell? M ⟨w.heap.size, 0, none⟩ = some (.bool s1) ∧ World.cell? M ⟨w.heap.size, 1, none⟩ = some (.slice A1 l1.length c1) ∧ World.cell? M ⟨w.heap.size, 2, none⟩ = some (.slice A2 l2.length c2) ∧ Hid (Rv w M s1 A1 c1 l1 A2 c2 l2) := by
  obtain ⟨a1, a2, a3, _, _, _⟩ := h.box.cells
  exact ⟨a1, a2, a3, h⟩
theorem Rv.of (h : World.cell? M ⟨w.heap.size, 0, none⟩ = some (.bool s1) ∧ World.cell? M ⟨w.heap.size, 1, none⟩ = some (.slice A1 l1.length c1) ∧ World.cell? M ⟨w.heap.size, 2, none⟩ = some (.slice A2 l2.length c2) ∧ Hid (Rv w M s1 A1 c1 l1 A2 c2 l2)) : Rv w M s1 A1 c1 l1 A2 c2 l2 := h.2.2.2.out
theorem Rv.start (h1 : Rd w A1 c1 l1) (h2 : Rd w A2 c2 l2) (hT : Tab w) :
    Rv w ((w.alloc (.cells #[.bool s1, .slice A1 l1.length c1, .slice A2 l2.length c2] 24)).alloc (.cells #[.bool false, .slice none 0 0, .slice none 0 0] 65)) s1 A1 c1 l1 A2 c2 l2 := by
  have b1 := below_alloc w (.cells #[.bool s1, .slice A1 l1.length c1, .slice A2 l2.length c2] 24)
  have k1 := Box.new w (.bool s1) (.slice A1 l1.length c1) (.slice A2 l2.length c2) 24
  have z1 : (w.alloc (.cells #[.bool s1, .slice A1 l1.length c1, .slice A2 l2.length c2] 24)).heap.size = w.heap.size + 1 := by simp
  generalize w.alloc (.cells #[.bool s1, .slice A1 l1.length c1, .slice A2 l2.length c2] 24) = w1 at *
  have b3 := below_alloc w1 (.cells #[.bool false, .slice none 0 0, .slice none 0 0] 65)
  have k3 := Box.new w1 (.bool false) (.slice none 0 0) (.slice none 0 0) 65
  rw [z1] at k3
  generalize w1.alloc (.cells #[.bool false, .slice none 0 0, .slice none 0 0] 65) = w3 at *
  have b03 : Below w.heap.size w w3 := below_step b1 b1.size b3
  exact ⟨k1.below b3, ⟨.bool false, .slice none 0 0, .slice none 0 0, NI.bool _, NI.slice _ _ _, NI.slice _ _ _, k3⟩, h1.below b03, h2.below b03, hT.below b03, b03⟩
end
theorem Gv.finish {w M : World} {g1 g3 : Nat} {t : TypeId} {s1 : Bool} {A1 : Option Addr} {c1 n1 : Nat} {A2 : Option Addr} {c2 d1 : Nat} (h : Gv w M g1 g3 t s1 A1 c1 n1 A2 c2 d1) :
    let M' := ((M.setCell ⟨g3, 0, none⟩ (.bool s1)).setCell ⟨g3, 1, none⟩ (.slice A1 (W n1).length c1)).setCell ⟨g3, 2, none⟩ (.slice A2 (W d1).length c2)
    M'.cell? ⟨g3, 0, none⟩ = some (.bool s1) ∧ M'.cell? ⟨g3, 1, none⟩ = some (.slice A1 (W n1).length c1) ∧ M'.cell? ⟨g3, 2, none⟩ = some (.slice A2 (W d1).length c2) ∧ Rd M' A1 c1 (W n1) ∧ Rd M' A2 c2 (W d1) ∧ Below w.heap.size w M' := by
  intro M'
  obtain ⟨x, y, z, hx, hy, hz, h3⟩ := h.res
  obtain ⟨q0, q1, q2, _, _, _⟩ := (h3.set3 (.bool s1) (.slice A1 (W n1).length c1) (.slice A2 (W d1).length c2)).cells
  exact ⟨q0, q1, q2, h.f.r1.grown_box h3 hx hy hz (grown_set3 _ _ _ _ _), h.f.r2.grown_box h3 hx hy hz (grown_set3 _ _ _ _ _), below_set3 h.bel h.n3 _ _ _⟩
theorem Gv.born {w M : World} {s1 : Bool} {A1 : Option Addr} {c1 : Nat} {l1 : List Int} {A2 : Option Addr} {c2 : Nat} {l2 : List Int} (h : Rv w M s1 A1 c1 l1 A2 c2 l2) {s : Bool} {B1 B2 : Option Addr} {b1 b2 n d : Nat} (r1 : Rd M B1 b1 (W n)) (r2 : Rd M B2 b2 (W d)) :
    Gv w (M.alloc (.cells #[.bool s, .slice B1 (W n).length b1, .slice B2 (W d).length b2] 65)).drew M.heap.size (w.heap.size + 1) 65 s B1 b1 n B2 b2 d := by
  have hb := below_alloc M (.cells #[.bool s, .slice B1 (W n).length b1, .slice B2 (W d).length b2] 65)
  obtain ⟨x, y, z, hx, hy, hz, h3⟩ := h.res
  have hl := h3.lt
  exact ⟨⟨Box.new _ _ _ _ _, r1.below hb.drew, r2.below hb.drew⟩, ⟨x, y, z, hx, hy, hz, h3.below hb.drew⟩, (below_step h.bel h.bel.size hb).drew, by omega, by omega⟩
set_option maxHeartbeats 4000000 in
set_option maxRecDepth 100000 in
theorem readRaw (s1 : Bool) (l1 l2 : List Int) (w : World) (A1 A2 : Option Addr) (c1 c2 : Nat) (h1 : Rd w A1 c1 l1) (h2 : Rd w A2 c2 l2) (N D : Nat) (e1 : strip l1 = W N) (e2 : strip l2 = W D) (hT : Tab w) :
    Calls Tryd.prog 53 #[.agg #[.bool s1, .slice A1 l1.length c1, .slice A2 l2.length c2]] w (ReadPost w s1 N D) := by
  have T0 := Lib.hid (Rv.start (s1 := s1) h1 h2 hT)
  have RS1 : Hid (∀ M, Rd M A1 c1 l1 → Rd M A1 c1 (W N)) := fun M h => by rw [← e1]; exact h.strip
  have RS2 : Hid (∀ M, Rd M A2 c2 l2 → Rd M A2 c2 (W D)) := fun M h => by rw [← e2]; exact h.strip
  have E1 := Lib.hid e1
  have E2 := Lib.hid e2
  clear h1 h2 hT e1 e2
  go_enter Tryd.func53, Tryd.ntmps53
  go_wp2_with fail
  go_region_held3 (fun W' => World.cell? W' ⟨w.heap.size, 0, none⟩ = some (.bool s1) ∧ World.cell? W' ⟨w.heap.size, 1, none⟩ = some (.slice A1 l1.length c1) ∧ World.cell? W' ⟨w.heap.size, 2, none⟩ = some (.slice A2 l2.length c2) ∧ Hid (Rv w W' s1 A1 c1 l1 A2 c2 l2))
    (with_reducible (first | assumption | exact (T0.out.below (Below.refl _ _).drew).cells))
    (first
       | (go_at_call_of 97 (Value.slice A1 l1.length c1)
          refine (wOf _ _ _ _ (Rv.of (by assumption)).r1).mono ?_
          rintro e wc ⟨rfl, rfl⟩
          rw [E1.out])
       | (go_at_call_of 97 (Value.slice A2 l2.length c2)
          refine (wOf _ _ _ _ (Rv.of (by assumption)).r2).mono ?_
          rintro e wc ⟨rfl, rfl⟩
          rw [E2.out]))
  rename_i hOld
  have TB := Lib.hid (Rv.of hOld)
  clear hOld
  obtain ⟨M, hM⟩ : ∃ M, ((w.alloc (.cells #[.bool s1, .slice A1 l1.length c1, .slice A2 l2.length c2] 24)).alloc (.cells #[.bool false, .slice none 0 0, .slice none 0 0] 65)).drew = M := ⟨_, rfl⟩
  rw [hM] at TB
  rw [hM]
  clear hM
  obtain ⟨x1, x2, x3, _⟩ := TB.out.cells
  obtain ⟨y1, y2, y3, hy1, hy2, hy3, f1, f2, f3⟩ := TB.out.res.cells
  by_cases hN : (W N).length ≤ 256 ∧ (W D).length ≤ 256
  · have hN1 := hN.1
    have hN2 := hN.2
    have HN := Lib.hid hN
    clear hN
    have R1 := Lib.hid (RS1.out _ TB.out.r1)
    have R2 := Lib.hid (RS2.out _ TB.out.r2)
    have hD0 : (if D = 0 then 1 else D) ≠ 0 := by split <;> omega
    have hD1 : (W (if D = 0 then 1 else D)).length ≤ 1000000 := by
      split
      · exact Nat.le_trans (W_le_one (by omega)) (by omega)
      · omega
    have HD := Lib.hid hD0
    have HL := Lib.hid hD1
    clear hD0 hD1
    go_wp2_with fail
    refine (wZero _ _ _ _).mono ?_
    rintro e wz ⟨rfl, rfl⟩
    rw [W_nil]
    go_upto_if 23 with (fail)
    go_cut [5] (fun v5 wc => ∃ (A5 : Option Addr) (c5 : Nat), v5 = .slice A5 (W (if D = 0 then 1 else D)).length c5 ∧ Hid (Rd wc A5 c5 (W (if D = 0 then 1 else D))) ∧ Hid (Rv w wc s1 A1 c1 l1 A2 c2 l2))
    case first =>
      by_cases hD : D = 0
      · have HZ := Lib.hid hD
        have hd : decide (D = 0) = true := by simp [hD]
        rw [hd]
        clear hD
        go_wp2_with fail
        refine (wSmall1 _).mono ?_
        rintro e wd ⟨Ad, cd, rfl, rd, bd⟩
        have RD := Lib.hid rd
        have TD := Lib.hid (TB.out.below bd)
        clear rd bd
        go_wp2
        go_meet
        case rel => rw [if_pos HZ.out]; exact ⟨_, _, rfl, RD, TD⟩
      · have HZ := Lib.hid hD
        have hd : decide (D = 0) = false := by simp [hD]
        rw [hd]
        clear hD
        go_wp2
        go_meet
        case rel => rw [if_neg HZ.out]; exact ⟨_, _, rfl, R2, TB⟩
    case rest =>
      obtain ⟨A5, c5, rfl, R5, TD⟩ := hcut
      obtain ⟨D', hD'⟩ : ∃ D', (if D = 0 then 1 else D) = D' := ⟨_, rfl⟩
      rw [hD'] at R5 HD HL
      rw [hD']
      have HD' := Lib.hid hD'
      clear hD' x1 x2 x3 hy1 hy2 hy3 f1 f2 f3
      obtain ⟨x1, x2, x3, _⟩ := TD.out.cells
      obtain ⟨y1, y2, y3, hy1, hy2, hy3, f1, f2, f3⟩ := TD.out.res.cells
      have R1 := Lib.hid (RS1.out _ TD.out.r1)
      go_wp2_with fail
      refine (wReduce s1 N D' _ _ _ _ _ R1.out R5.out HD.out (by omega) HL.out TD.out.tab).mono ?_
      rintro e we ⟨u, rfl, ⟨B1, b1, B2, b2, rfl, hB1, hB2⟩, be⟩
      have hqq : mkRat (sg s1 N) D' = ratOf s1 N D := by rw [ratOf, HD'.out]
      rw [hqq] at hB1 hB2 ⊢
      clear hqq
      obtain ⟨q, hq⟩ : ∃ q, ratOf s1 N D = q := ⟨_, rfl⟩
      rw [hq] at hB1 hB2 ⊢
      have HQ := Lib.hid hq
      have TE := Lib.hid (TD.out.below be)
      have GV := Lib.hid (Gv.born TE.out hB1 hB2 (s := ng q))
      clear hB1 hB2 be hq x1 x2 x3 hy1 hy2 hy3 f1 f2 f3
      go_wp2_with fail
      go_region_held3 (fun W' => World.cell? W' ⟨we.heap.size, 0, none⟩ = some (.bool (ng q)) ∧ World.cell? W' ⟨we.heap.size, 1, none⟩ = some (.slice B1 (W q.num.natAbs).length b1) ∧ World.cell? W' ⟨we.heap.size, 2, none⟩ = some (.slice B2 (W q.den).length b2) ∧ Hid (Gv w W' we.heap.size (w.heap.size + 1) 65 (ng q) B1 b1 q.num.natAbs B2 b2 q.den))
        (with_reducible (first | assumption | exact GV.out.cells | exact ((Gv.of (by assumption)).below (by assumption)).cells | exact ((Gv.of (by assumption)).grown (NI.bool _) (NI.slice _ _ _) (NI.slice _ _ _)).cells))
        (first
           | (go_at_call 98
              refine (fracFits _ _ _ _ _ _ _ _).mono ?_
              rintro e wc ⟨rfl, bc⟩
              have hh := (Gv.of (by assumption)).below bc
              obtain ⟨x, y, z, hx, hy, hz, k1, k2, k3⟩ := hh.res.cells))
      go_wp2
      obtain ⟨q0, q1, q2, r1, r2, hb⟩ := hh.finish
      have hfb : (decide ((W q.num.natAbs).length ≤ 64) && decide ((W q.den).length ≤ 64)) = decide (fitQ q) := by
        rw [Bool.eq_iff_iff]; simp only [Bool.and_eq_true, decide_eq_true_eq]; exact Iff.rfl
      rw [hfb]
      refine bodyPost_ret (v := .tuple #[.agg #[.bool (ng q), .slice B1 (W q.num.natAbs).length b1, .slice B2 (W q.den).length b2], .bool (decide (fitQ q))]) (by simp [results, Tryd.results53, go_sem, q0, q1, q2]) rfl ?_
      refine ⟨_, _, rfl, ⟨_, _, _, _, _, _, _, rfl⟩, ?_, fun _ => ?_, hb⟩
      · rw [HQ.out, decide_eq_true_eq]
        exact ⟨fun h => ⟨HN.out.1, HN.out.2, h⟩, fun h => h.2.2⟩
      · rw [HQ.out]; exact ⟨_, _, _, _, rfl, r1, r2⟩
  · have HN := Lib.hid hN
    rcases (show 256 < (W N).length ∨ (W N).length ≤ 256 ∧ 256 < (W D).length by omega) with h1 | ⟨h1, h2⟩
    · go_wp2_with fail
      obtain ⟨x, y, z, hx, hy, hz, hb⟩ := TB.out.res
      obtain ⟨q0, q1, q2, _, _, _⟩ := (hb.set3 (.bool false) (.slice none 0 0) (.slice none 0 0)).cells
      refine bodyPost_ret (v := .tuple #[noRat, .bool false]) (by simp [results, Tryd.results53, go_sem, q0, q1, q2, noRat]) rfl ?_
      exact ⟨_, _, rfl, ⟨_, _, _, _, _, _, _, rfl⟩, ⟨fun h => (by cases h), fun h => absurd ⟨h.1, h.2.1⟩ HN.out⟩, fun h => (by cases h), below_set3 TB.out.bel (Nat.le_succ _) _ _ _⟩
    · go_wp2_with fail
      obtain ⟨x, y, z, hx, hy, hz, hb⟩ := TB.out.res
      obtain ⟨q0, q1, q2, _, _, _⟩ := (hb.set3 (.bool false) (.slice none 0 0) (.slice none 0 0)).cells
      refine bodyPost_ret (v := .tuple #[noRat, .bool false]) (by simp [results, Tryd.results53, go_sem, q0, q1, q2, noRat]) rfl ?_
      exact ⟨_, _, rfl, ⟨_, _, _, _, _, _, _, rfl⟩, ⟨fun h => (by cases h), fun h => absurd ⟨h.1, h.2.1⟩ HN.out⟩, fun h => (by cases h), below_set3 TB.out.bel (Nat.le_succ _) _ _ _⟩
end Go.Proofs.YtfmhplcpejmkhabDoor

namespace Go.Proofs.YtfmhplcpejmkhabDoor
open Go.RowKit Dig
set_option linter.unusedVariables false
set_option linter.unusedSimpArgs false
/-- each word of 32 bits as two of 16 -/
def halves : List Int → List Int
  | [] => []
  | x :: t => x % 65536 :: x / 65536 :: halves t
theorem halves_append (l r : List Int) : halves (l ++ r) = halves l ++ halves r := by
  induction l with
  | nil => rfl
  | cons x t ih => simp [halves, ih]
theorem halves_length (l : List Int) : (halves l).length = 2 * l.length := by
  induction l with
  | nil => rfl
  | cons x t ih => simp [halves, ih]; omega
theorem halves_ok {l : List Int} (h : Ok B32 l) : Ok B16 (halves l) := by
  induction l with
  | nil => exact Ok.nil _
  | cons x t ih =>
    have h1 := h.head
    rw [B32_cast] at h1
    refine Ok.cons ?_ ?_ (Ok.cons ?_ ?_ (ih h.tail))
    · omega
    · rw [B16_cast]; omega
    · omega
    · rw [B16_cast]; omega
theorem halves_val (l : List Int) : val B16 (halves l) = val B32 l := by
  induction l with
  | nil => rfl
  | cons x t ih =>
    simp only [halves, val, ih]
    rw [B16_cast, B32_cast]
    omega
theorem rd_two (w : World) (x y : Int) : ∀ j u, [Value.int .u32 x, Value.int .u32 y][j]? = some u → (w.alloc (.cells #[.int .u32 x, .int .u32 y] 72)).cell? ((⟨w.heap.size, 0, none⟩ : Addr).add j) = some u := by
  intro j u hj
  match j, hj with
  | 0, hj => simp at hj; subst hj; simp [Addr.add]
  | 1, hj => simp at hj; subst hj; simp [Addr.add]
theorem one_two (x y : Int) : ∀ u ∈ [Value.int .u32 x, Value.int .u32 y], u.oneCell' = true := by intro u hu; simp at hu; rcases hu with rfl | rfl <;> rfl
theorem Own.push2 {w0 w w1 : World} {B : Nat} {v v' : Value} {l : List Int} {x y : Int} (h : Own w B v l) (hb : Below B w0 w) (hB : B ≤ w.heap.size)
    (hown : w1.ownsRow B 72 1 v' (l.length + 2) (l.map (Value.int .u32) ++ [.int .u32 x, .int .u32 y])) (hgrow : (w.alloc (.cells #[.int .u32 x, .int .u32 y] 72)).grownBy w1 v.ownBlock) : Own w1 B v' (l ++ [x, y]) ∧ Below B w0 w1 := by
  refine ⟨?_, ?_⟩
  · unfold Own
    rw [List.length_append, List.map_append]
    exact hown
  · exact (hb.alloc hB _).grown hgrow (by simp; omega) (fun k hk => (h.lt k hk).1)
set_option maxHeartbeats 1000000 in
set_option maxRecDepth 100000 in
theorem rWords (l : List Int) (N : Nat) (w : World) (A : Option Addr) (c : Nat) (h : Rd w A c l) (ho : Ok B32 l) (hv : val B32 l = N) (hs : l.length ≤ 1048576) :
    Calls Tryd.prog 67 #[.slice A l.length c] w fun e w' => ∃ A c, e = .returned (.slice A (R N).length c) ∧ Rd w' A c (R N) ∧ Below w.heap.size w w' := by
  have H0 := Lib.hid h
  have K0 := Lib.hid ho
  have HV := Lib.hid hv
  clear h ho hv
  obtain ⟨i0, hi0, hz0, hz1, hz2⟩ := info_parts info32
  go_enter Tryd.func67, Tryd.ntmps67
  go_wp2
  go_loopw [3, 8] (fun v3 v8 wr => ∃ (i : Nat) (lo : List Int), i ≤ l.length ∧ v8 = .int .i64 i ∧ Hid (lo = halves (l.take i)) ∧ lo.length ≤ 2 * i ∧ Hid (Own wr w.heap.size v3 lo) ∧ Hid (Below w.heap.size w wr)) (fun _ v8 _ => l.length - (intOf v8).toNat)
  case atStart => exact ⟨0, [], Nat.zero_le _, rfl, Lib.hid rfl, by simp, Lib.hid (Own.nil _ _), Lib.hid (Below.refl _ _)⟩
  case round =>
    obtain ⟨i, lo, hi, rfl, hlo, hlen, hown, hbel⟩ := hrel
    have hsz := hbel.out.size
    by_cases hlt : i < l.length
    · obtain ⟨ad, rfl, hc⟩ := (H0.out.below hbel.out).at_ i hlt
      obtain ⟨t1, t2⟩ := K0.out.rd B32_pos i
      rw [B32_cast] at t2
      go_wp2_with (at_builtin; refine wpList_append_own _ rfl _ _ 37 rfl w.heap.size 72 i0 (.int .u32 0) 1 4 (by kernel_rfl) hi0 hz0 hz1 hz2 rfl (by decide) _ _ _ rfl (hown.out.alloc _) ⟨wr.heap.size, 0, none⟩ 2 2 [.int .u32 (rd l i % 65536), .int .u32 (rd l i / 65536)] rfl rfl (rd_two _ _ _) (one_two _ _) (by unfold maxLen; omega) (by omega) (by simp; omega) ?_)
      intro v' w1 hown1 hgrow _
      obtain ⟨p1, p2⟩ := hown.out.push2 hbel.out hsz hown1 hgrow
      have P1 := Lib.hid p1
      have P2 := Lib.hid p2
      clear p1 p2 hown1 hgrow hc
      go_wp2
      go_roundw
      case rel => exact ⟨i + 1, lo ++ [rd l i % 65536, rd l i / 65536], by omega, by go_num, Lib.hid (by rw [hlo.out, take_rd _ _ hlt, halves_append]; rfl), by simp; omega, P1, P2⟩
      case measure => simp [intOf]; omega
    · obtain rfl : i = l.length := by omega
      have e := hlo.out
      rw [List.take_length] at e
      have hok := halves_ok K0.out
      have hv := halves_val l
      rw [HV.out] at hv
      rw [← e] at hok hv
      have E := Lib.hid (strip_R hok hv)
      obtain ⟨A9, c9, rfl, hr⟩ := hown.out.rd
      have HR := Lib.hid hr
      clear hr e hok hv
      go_wp2_with fail
      refine (rTrim _ _ _ _ HR.out).mono ?_
      rintro e w' ⟨rfl, rfl⟩
      rw [E.out]
      go_wp2
      go_ret
      exact ⟨_, _, rfl, by rw [← E.out]; exact HR.out.strip, hbel.out⟩
theorem B32_sq : B32 = B16 * B16 := rfl
theorem B32_pow (k : Nat) : B32 ^ k = B16 ^ (2 * k) := by rw [B32_sq, ← Nat.pow_two, ← Nat.pow_mul]
theorem R_le_W (n k : Nat) : (R n).length ≤ 2 * k ↔ (W n).length ≤ k := by
  unfold R W
  rw [dig_length_le B16_two, dig_length_le B32_two, B32_pow]
theorem word_pair (a k : Nat) : rd (R a) (2 * k) + rd (R a) (2 * k + 1) * 65536 = rd (W a) k := by
  rw [R_rd, R_rd, W_rd, B32_pow, Nat.pow_succ, ← Nat.div_div_eq_div_mul]
  generalize a / B16 ^ (2 * k) = x
  have : x % B32 = x % B16 + x / B16 % B16 * 65536 := by
    unfold B32 B16; omega
  rw [this, Int.natCast_add, Int.natCast_mul]; rfl
set_option maxHeartbeats 1000000 in
set_option maxRecDepth 100000 in
theorem rList (a : Nat) (w : World) (A : Option Addr) (c : Nat) (h : Rd w A c (R a)) (hs : (R a).length ≤ 2000000) :
    Calls Tryd.prog 71 #[.slice A (R a).length c] w fun e w' => ∃ A c, e = .returned (.slice A (W a).length c) ∧ Rd w' A c (W a) ∧ Below w.heap.size w w' := by
  have H0 := Lib.hid h
  have K0 := Lib.hid (ok_R a)
  have HP := Lib.hid (word_pair a)
  have HL := Lib.hid (R_le_W a)
  clear h
  have hcl := H0.out.le
  have hcm := H0.out.max
  obtain ⟨l0, hl0⟩ : ∃ l, R a = l := ⟨_, rfl⟩
  obtain ⟨l1, hl1⟩ : ∃ l, W a = l := ⟨_, rfl⟩
  rw [hl0] at H0 K0 HP HL hs hcl ⊢
  rw [hl1] at HP HL ⊢
  clear hl0 hl1
  obtain ⟨i0, hi0, hz0, hz1, hz2⟩ := info_parts info32
  go_enter Tryd.func71, Tryd.ntmps71
  go_wp2
  go_loopw [3, 4] (fun v3 v4 wr => ∃ (k j : Nat) (lo : List Int), v4 = .int .i64 j ∧ j ≤ 2000001 ∧ Hid (j = 2 * k) ∧ Hid (lo = l1.take k) ∧ Hid (lo.length = k) ∧ Hid (Own wr w.heap.size v3 lo) ∧ Hid (Below w.heap.size w wr)) (fun _ v4 _ => l0.length + 2 - (intOf v4).toNat)
  case atStart => exact ⟨0, 0, [], rfl, by omega, Lib.hid rfl, Lib.hid rfl, Lib.hid rfl, Lib.hid (Own.nil _ _), Lib.hid (Below.refl _ _)⟩
  case round =>
    obtain ⟨k, j, lo, rfl, hj, hjk, hlo, hlen, hown, hbel⟩ := hrel
    have hsz := hbel.out.size
    have hll : lo.length ≤ 2000001 := by have := hlen.out; have := hjk.out; omega
    by_cases hlt : j < l0.length
    · have hk1 : k < l1.length := by have := HL.out k; have := hjk.out; omega
      obtain ⟨ad, rfl, hc⟩ := (H0.out.below hbel.out).at_ j hlt
      obtain ⟨t1, t2⟩ := K0.out.rd B16_pos j
      rw [B16_cast] at t2
      have hx := HP.out k
      rw [← hjk.out] at hx
      have HX := Lib.hid hx
      clear hx
      by_cases hlt' : j + 1 < l0.length
      · have hc' := (H0.out.below hbel.out).cell_succ j hlt'
        obtain ⟨t3, t4⟩ := K0.out.rd B16_pos (j + 1)
        rw [B16_cast] at t4
        go_wp2_with (at_builtin; refine wpList_append_own _ rfl _ _ 22 rfl w.heap.size 72 i0 (.int .u32 0) 1 4 (by kernel_rfl) hi0 hz0 hz1 hz2 rfl (by decide) _ _ _ rfl (hown.out.alloc _) ⟨wr.heap.size, 0, none⟩ 1 1 [.int .u32 (rd l0 j + rd l0 (j + 1) * 65536)] rfl rfl (rd_single _ _) (one_single _) (by unfold maxLen; omega) (by omega) (by simp; omega) ?_)
        intro v' w1 hown1 hgrow _
        obtain ⟨p1, p2⟩ := hown.out.push hbel.out hsz hown1 hgrow
        rw [HX.out] at p1
        have P1 := Lib.hid p1
        have P2 := Lib.hid p2
        clear p1 p2 hown1 hgrow hc hc'
        go_wp2
        go_roundw
        case rel => exact ⟨k + 1, j + 2, lo ++ [rd l1 k], by go_num, by omega, Lib.hid (by have := hjk.out; omega), Lib.hid (by rw [hlo.out, take_rd _ _ hk1]), Lib.hid (by rw [List.length_append, hlen.out]; rfl), P1, P2⟩
        case measure => simp [intOf]; omega
      · have hz : rd l0 (j + 1) = 0 := rd_ge (by omega)
        have hx2 := HX.out
        rw [hz, Int.zero_mul, Int.add_zero] at hx2
        have HX2 := Lib.hid hx2
        clear hz hx2
        go_wp2_with (at_builtin; refine wpList_append_own _ rfl _ _ 22 rfl w.heap.size 72 i0 (.int .u32 0) 1 4 (by kernel_rfl) hi0 hz0 hz1 hz2 rfl (by decide) _ _ _ rfl (hown.out.alloc _) ⟨wr.heap.size, 0, none⟩ 1 1 [.int .u32 (rd l0 j)] rfl rfl (rd_single _ _) (one_single _) (by unfold maxLen; omega) (by omega) (by simp; omega) ?_)
        intro v' w1 hown1 hgrow _
        obtain ⟨p1, p2⟩ := hown.out.push hbel.out hsz hown1 hgrow
        rw [HX2.out] at p1
        have P1 := Lib.hid p1
        have P2 := Lib.hid p2
        clear p1 p2 hown1 hgrow hc
        go_wp2
        go_roundw
        case rel => exact ⟨k + 1, j + 2, lo ++ [rd l1 k], by go_num, by omega, Lib.hid (by have := hjk.out; omega), Lib.hid (by rw [hlo.out, take_rd _ _ hk1]), Lib.hid (by rw [List.length_append, hlen.out]; rfl), P1, P2⟩
        case measure => simp [intOf]; omega
    · have hk1 : l1.length ≤ k := by have := HL.out k; have := hjk.out; omega
      have E := Lib.hid (show lo = l1 by rw [hlo.out, List.take_of_length_le hk1])
      go_wp2
      go_ret
      have hho := hown.out
      rw [E.out] at hho
      obtain ⟨A9, c9, rfl, hr⟩ := hho.rd
      exact ⟨A9, c9, rfl, hr, hbel.out⟩
theorem rOver (s1 : Bool) (n1 d1 : Nat) (w : World) (A1 A2 : Option Addr) (c1 c2 : Nat) :
    Calls Tryd.prog 68 #[.agg #[.bool s1, .slice A1 (R n1).length c1, .slice A2 (R d1).length c2]] w fun e w' => e = .returned (.bool (!(decide ((W n1).length ≤ 64) && decide ((W d1).length ≤ 64)))) ∧ Below w.heap.size w w' := by
  have hbb : ∃ b1 b2, decide ((128 : Int) < ((R n1).length : Int)) = b1 ∧ decide ((128 : Int) < ((R d1).length : Int)) = b2 ∧ decide (128 < (R n1).length) = b1 ∧ decide (128 < (R d1).length) = b2 ∧ (!(decide ((W n1).length ≤ 64) && decide ((W d1).length ≤ 64))) = (b1 || b2) := by
    refine ⟨_, _, rfl, rfl, ?_, ?_, ?_⟩
    · rw [Bool.eq_iff_iff]; simp only [decide_eq_true_eq]; omega
    · rw [Bool.eq_iff_iff]; simp only [decide_eq_true_eq]; omega
    · have e1 := R_le_W n1 64
      have e2 := R_le_W d1 64
      rw [Bool.eq_iff_iff]
      simp only [Bool.not_eq_true', Bool.and_eq_false_iff, decide_eq_false_iff_not, Bool.or_eq_true, decide_eq_true_eq]
      omega
  obtain ⟨b1, b2, h1, h2, h3, h4, h5⟩ := hbb
  rw [h5]
  clear h5
  go_enter Tryd.func68, Tryd.ntmps68
  cases b1
  · go_wp2_with fail
    go_ret
    exact ⟨ret_bool (by rfl), below_alloc _ _⟩
  · go_wp2_with fail
    go_ret
    exact ⟨ret_bool (by rfl), below_alloc _ _⟩
end Go.Proofs.YtfmhplcpejmkhabDoor

namespace Go.Proofs.YtfmhplcpejmkhabDoor
open Go.RowKit Dig
set_option linter.unusedVariables false
set_option linter.unusedSimpArgs false
/-- a value in a variable, and a variable for a result -/
structure Lv (w M : World) (g1 g3 : Nat) (tb t : TypeId) (s1 : Bool) (A1 : Option Addr) (c1 : Nat) (l1 : List Int) (A2 : Option Addr) (c2 : Nat) (l2 : List Int) : Prop where
  box : Box M g1 (.bool s1) (.slice A1 l1.length c1) (.slice A2 l2.length c2) tb
  res : Res M g3 t
  r1 : Rd M A1 c1 l1
  r2 : Rd M A2 c2 l2
  bel : Below w.heap.size w M
  ne : g1 ≠ g3
  n3 : w.heap.size ≤ g3
section
variable {w M M' : World} {g1 g3 : Nat} {tb t : TypeId} {s1 : Bool} {A1 : Option Addr} {c1 : Nat} {l1 : List Int} {A2 : Option Addr} {c2 : Nat} {l2 : List Int}
theorem Lv.below (h : Lv w M g1 g3 tb t s1 A1 c1 l1 A2 c2 l2) (hb : Below M.heap.size M M') : Lv w M' g1 g3 tb t s1 A1 c1 l1 A2 c2 l2 :=
  ⟨h.box.below hb, h.res.below hb, h.r1.below hb, h.r2.below hb, below_step h.bel h.bel.size hb, h.ne, h.n3⟩
theorem Lv.grown (h : Lv w M g1 g3 tb t s1 A1 c1 l1 A2 c2 l2) {a b c : Value} (ha : NI a) (hb : NI b) (hc : NI c) : Lv w (((M.setCell ⟨g3, 0, none⟩ a).setCell ⟨g3, 1, none⟩ b).setCell ⟨g3, 2, none⟩ c) g1 g3 tb t s1 A1 c1 l1 A2 c2 l2 := by
  have hg := grown_set3 M g3 a b c
  obtain ⟨x, y, z, h1, h2, h3, h4⟩ := h.res
  exact ⟨(hg.block g1 h.box.lt (fun e => h.ne (Option.some.inj e))).trans h.box, h.res.set3 ha hb hc, h.r1.grown_box h4 h1 h2 h3 hg, h.r2.grown_box h4 h1 h2 h3 hg, below_set3 h.bel h.n3 _ _ _, h.ne, h.n3⟩
theorem Lv.cells (h : Lv w M g1 g3 tb t s1 A1 c1 l1 A2 c2 l2) : (World.cell? M ⟨g1, 0, none⟩ = some (.bool s1) ∧ World.cell? M ⟨g1, 1, none⟩ = some (.slice A1 (l1).length c1) ∧ World.cell? M ⟨g1, 2, none⟩ = some (.slice A2 (l2).length c2) ∧ Hid (Lv w M g1 g3 tb t s1 A1 c1 l1 A2 c2 l2)) := by
  obtain ⟨a1, a2, a3, _, _, _⟩ := h.box.cells
  exact ⟨a1, a2, a3, h⟩
theorem Lv.of (h : (World.cell? M ⟨g1, 0, none⟩ = some (.bool s1) ∧ World.cell? M ⟨g1, 1, none⟩ = some (.slice A1 (l1).length c1) ∧ World.cell? M ⟨g1, 2, none⟩ = some (.slice A2 (l2).length c2) ∧ Hid (Lv w M g1 g3 tb t s1 A1 c1 l1 A2 c2 l2))) : Lv w M g1 g3 tb t s1 A1 c1 l1 A2 c2 l2 := h.2.2.2.out
theorem Lv.next (h : (World.cell? M ⟨g1, 0, none⟩ = some (.bool s1) ∧ World.cell? M ⟨g1, 1, none⟩ = some (.slice A1 (l1).length c1) ∧ World.cell? M ⟨g1, 2, none⟩ = some (.slice A2 (l2).length c2) ∧ Hid (Lv w M g1 g3 tb t s1 A1 c1 l1 A2 c2 l2))) (hb : Below M.heap.size M M') : (World.cell? M' ⟨g1, 0, none⟩ = some (.bool s1) ∧ World.cell? M' ⟨g1, 1, none⟩ = some (.slice A1 (l1).length c1) ∧ World.cell? M' ⟨g1, 2, none⟩ = some (.slice A2 (l2).length c2) ∧ Hid (Lv w M' g1 g3 tb t s1 A1 c1 l1 A2 c2 l2)) := ((Lv.of h).below hb).cells
theorem Lv.nextS (h : (World.cell? M ⟨g1, 0, none⟩ = some (.bool s1) ∧ World.cell? M ⟨g1, 1, none⟩ = some (.slice A1 (l1).length c1) ∧ World.cell? M ⟨g1, 2, none⟩ = some (.slice A2 (l2).length c2) ∧ Hid (Lv w M g1 g3 tb t s1 A1 c1 l1 A2 c2 l2))) {a : Bool} {B C : Option Addr} {b b' c c' : Nat} : (World.cell? (((M.setCell ⟨g3, 0, none⟩ (.bool a)).setCell ⟨g3, 1, none⟩ (.slice B b b')).setCell ⟨g3, 2, none⟩ (.slice C c c')) ⟨g1, 0, none⟩ = some (.bool s1) ∧ World.cell? (((M.setCell ⟨g3, 0, none⟩ (.bool a)).setCell ⟨g3, 1, none⟩ (.slice B b b')).setCell ⟨g3, 2, none⟩ (.slice C c c')) ⟨g1, 1, none⟩ = some (.slice A1 (l1).length c1) ∧ World.cell? (((M.setCell ⟨g3, 0, none⟩ (.bool a)).setCell ⟨g3, 1, none⟩ (.slice B b b')).setCell ⟨g3, 2, none⟩ (.slice C c c')) ⟨g1, 2, none⟩ = some (.slice A2 (l2).length c2) ∧ Hid (Lv w (((M.setCell ⟨g3, 0, none⟩ (.bool a)).setCell ⟨g3, 1, none⟩ (.slice B b b')).setCell ⟨g3, 2, none⟩ (.slice C c c')) g1 g3 tb t s1 A1 c1 l1 A2 c2 l2)) :=
  ((Lv.of h).grown (NI.bool _) (NI.slice _ _ _) (NI.slice _ _ _)).cells
theorem Lv.start (h1 : Rd w A1 c1 l1) (h2 : Rd w A2 c2 l2) :
    Lv w ((w.alloc (.cells #[.bool s1, .slice A1 l1.length c1, .slice A2 l2.length c2] tb)).alloc (.cells #[.bool false, .slice none 0 0, .slice none 0 0] t)) w.heap.size (w.heap.size + 1) tb t s1 A1 c1 l1 A2 c2 l2 := by
  have b1 := below_alloc w (.cells #[.bool s1, .slice A1 l1.length c1, .slice A2 l2.length c2] tb)
  have k1 := Box.new w (.bool s1) (.slice A1 l1.length c1) (.slice A2 l2.length c2) tb
  have z1 : (w.alloc (.cells #[.bool s1, .slice A1 l1.length c1, .slice A2 l2.length c2] tb)).heap.size = w.heap.size + 1 := by simp
  generalize w.alloc (.cells #[.bool s1, .slice A1 l1.length c1, .slice A2 l2.length c2] tb) = w1 at *
  have b3 := below_alloc w1 (.cells #[.bool false, .slice none 0 0, .slice none 0 0] t)
  have k3 := Box.new w1 (.bool false) (.slice none 0 0) (.slice none 0 0) t
  rw [z1] at k3
  generalize w1.alloc (.cells #[.bool false, .slice none 0 0, .slice none 0 0] t) = w3 at *
  have b03 : Below w.heap.size w w3 := below_step b1 b1.size b3
  exact ⟨k1.below b3, ⟨.bool false, .slice none 0 0, .slice none 0 0, NI.bool _, NI.slice _ _ _, NI.slice _ _ _, k3⟩, h1.below b03, h2.below b03, b03, by omega, by omega⟩
theorem Lv.finish (h : Lv w M g1 g3 tb t s1 A1 c1 l1 A2 c2 l2) {s : Bool} {B1 B2 : Option Addr} {b1 b2 : Nat} {k1 k2 : List Int} (h1 : Rd M B1 b1 k1) (h2 : Rd M B2 b2 k2) :
    let M' := ((M.setCell ⟨g3, 0, none⟩ (.bool s)).setCell ⟨g3, 1, none⟩ (.slice B1 k1.length b1)).setCell ⟨g3, 2, none⟩ (.slice B2 k2.length b2)
    M'.cell? ⟨g3, 0, none⟩ = some (.bool s) ∧ M'.cell? ⟨g3, 1, none⟩ = some (.slice B1 k1.length b1) ∧ M'.cell? ⟨g3, 2, none⟩ = some (.slice B2 k2.length b2) ∧
    Rd M' B1 b1 k1 ∧ Rd M' B2 b2 k2 ∧ Below w.heap.size w M' := by
  intro M'
  obtain ⟨x, y, z, hx, hy, hz, hb⟩ := h.res
  obtain ⟨q0, q1, q2, _, _, _⟩ := (hb.set3 (.bool s) (.slice B1 k1.length b1) (.slice B2 k2.length b2)).cells
  exact ⟨q0, q1, q2, h1.grown_box hb hx hy hz (grown_set3 _ _ _ _ _), h2.grown_box hb hx hy hz (grown_set3 _ _ _ _ _), below_set3 h.bel h.n3 _ _ _⟩
end
set_option maxHeartbeats 2000000 in
set_option maxRecDepth 100000 in
theorem rOf (s1 : Bool) (l1 l2 : List Int) (N D : Nat) (w : World) (A1 A2 : Option Addr) (c1 c2 : Nat) (h1 : Rd w A1 c1 l1) (h2 : Rd w A2 c2 l2) (o1 : Ok B32 l1) (o2 : Ok B32 l2) (v1 : val B32 l1 = N) (v2 : val B32 l2 = D)
    (z1 : l1.length ≤ 1048576) (z2 : l2.length ≤ 1048576) (k1 : (R N).length ≤ 2000000) (k2 : (R D).length ≤ 2000000) :
    Calls Tryd.prog 25 #[.agg #[.bool s1, .slice A1 l1.length c1, .slice A2 l2.length c2]] w fun e w' => ∃ u, e = .returned u ∧ IsQ w' u (ratOf s1 N D) ∧ Below w.heap.size w w' := by
  have T0 := Lib.hid (Lv.start (tb := 24) (t := 39) (s1 := s1) h1 h2)
  have O1 := Lib.hid o1
  have O2 := Lib.hid o2
  have V1 := Lib.hid v1
  have V2 := Lib.hid v2
  clear h1 h2 o1 o2 v1 v2
  go_enter Tryd.func25, Tryd.ntmps25
  go_wp2_with fail
  refine (rWords l2 D _ _ _ T0.out.r2 O2.out V2.out z2).mono ?_
  rintro e wa ⟨Aa, ca, rfl, ra, ba⟩
  have RA := Lib.hid ra
  have TA := Lib.hid (T0.out.below ba)
  clear ra ba T0
  go_upto_if 9 with (fail)
  go_cut [3] (fun v3 wc => ∃ (A5 : Option Addr) (c5 : Nat), v3 = .slice A5 (R (if D = 0 then 1 else D)).length c5 ∧ Hid (Rd wc A5 c5 (R (if D = 0 then 1 else D))) ∧ Hid (Lv w wc w.heap.size (w.heap.size + 1) 24 39 s1 A1 c1 l1 A2 c2 l2))
  case first =>
    by_cases hD : D = 0
    · have HZ := Lib.hid hD
      have hz : (((R D).length : Int) == 0) = true := by subst hD; simp [R_zero]
      clear hD
      go_wp2_with fail
      refine (rNatOf1 _).mono ?_
      rintro e wd ⟨Ad, cd, rfl, rd, bd⟩
      have RD := Lib.hid rd
      have TD := Lib.hid (TA.out.below bd)
      clear rd bd
      go_wp2
      go_meet
      case rel => rw [if_pos HZ.out]; exact ⟨_, _, rfl, RD, TD⟩
    · have HZ := Lib.hid hD
      have hz : (((R D).length : Int) == 0) = false := by have := R_nz hD; rw [beq_eq_false_iff_ne]; omega
      clear hD
      go_wp2
      go_meet
      case rel => rw [if_neg HZ.out]; exact ⟨_, _, rfl, RA, TA⟩
  case rest =>
    obtain ⟨A5, c5, rfl, R5, TD⟩ := hcut
    have hD0 : (if D = 0 then 1 else D) ≠ 0 := by split <;> omega
    have hD1 : (R (if D = 0 then 1 else D)).length ≤ 2000000 := by
      split
      · rw [R_one]; simp
      · exact k2
    have hqq : mkRat (sg s1 N) (if D = 0 then 1 else D) = ratOf s1 N D := rfl
    obtain ⟨q, hq⟩ : ∃ q, ratOf s1 N D = q := ⟨_, rfl⟩
    rw [hq] at hqq
    obtain ⟨D', hD'⟩ : ∃ D', (if D = 0 then 1 else D) = D' := ⟨_, rfl⟩
    rw [hD'] at R5 hD0 hD1 hqq
    rw [hD']
    have HQ := Lib.hid hq
    have HD0 := Lib.hid hD0
    have HQQ := Lib.hid hqq
    clear hD' hq hD0 hqq RA TA
    go_wp2_with fail
    go_region_held3 (fun W' => (World.cell? W' ⟨(w.heap.size), 0, none⟩ = some (.bool s1) ∧ World.cell? W' ⟨(w.heap.size), 1, none⟩ = some (.slice A1 (l1).length c1) ∧ World.cell? W' ⟨(w.heap.size), 2, none⟩ = some (.slice A2 (l2).length c2) ∧ Hid (Lv w W' (w.heap.size) (w.heap.size + 1) 24 39 s1 A1 c1 l1 A2 c2 l2)))
      (with_reducible (first | assumption | exact (TD.out.below (Below.refl _ _).drew).cells | exact Lv.next (by assumption) (by assumption) | exact Lv.nextS (by assumption)))
      (first
       | (go_at_call 67
          refine (rWords l1 N _ _ _ (Lv.of (by assumption)).r1 O1.out V1.out z1).mono ?_
          rintro e we ⟨Ae, ce, rfl, re, be⟩)
       | (go_at_call 70
          refine (rMake _ _ _ _ _ _ _ _ re (R5.out.below (Below.drew_step be)) HD0.out k1 hD1).mono ?_
          rw [HQQ.out]
          rintro e wf ⟨u, rfl, ⟨B1, b1, B2, b2, rfl, hB1, hB2⟩, bf⟩
          have hh := (Lv.of (by assumption)).below bf
          obtain ⟨x, y, z, hx, hy, hz, k1, k2, k3⟩ := hh.res.cells))
    go_wp2
    obtain ⟨q0, q1, q2, r1, r2, hb⟩ := hh.finish (s := ng q) hB1 hB2
    refine bodyPost_ret (v := .agg #[.bool (ng q), .slice B1 (R q.num.natAbs).length b1, .slice B2 (R q.den).length b2]) (by simp [results, Tryd.results25, go_sem, q0, q1, q2]) rfl ?_
    exact ⟨_, rfl, by rw [HQ.out]; exact ⟨_, _, _, _, rfl, r1, r2⟩, hb⟩
/-- is the value large? -/
def largeB (s : Bool) (N D : Nat) : Bool := !decide ((W N).length ≤ 256 ∧ (W D).length ≤ 256 ∧ fitQ (ratOf s N D))
theorem rOf_sized (s1 : Bool) (l1 l2 : List Int) (N D : Nat) (w : World) (A1 A2 : Option Addr) (c1 c2 : Nat) (h1 : Rd w A1 c1 l1) (h2 : Rd w A2 c2 l2) (o1 : Ok B32 l1) (o2 : Ok B32 l2) (v1 : val B32 l1 = N) (v2 : val B32 l2 = D)
    (z1 : l1.length ≤ 1048576) (z2 : l2.length ≤ 1048576) (k1 : (R N).length ≤ 512) (k2 : (R D).length ≤ 512) :
    Calls Tryd.prog 25 #[.agg #[.bool s1, .slice A1 l1.length c1, .slice A2 l2.length c2]] w fun e w' => ∃ u, e = .returned u ∧ IsQ w' u (ratOf s1 N D) ∧ Below w.heap.size w w' :=
  rOf s1 l1 l2 N D w A1 A2 c1 c2 h1 h2 o1 o2 v1 v2 z1 z2 (by omega) (by omega)
set_option maxHeartbeats 2000000 in
set_option maxRecDepth 100000 in
theorem rLarge (s1 : Bool) (l1 l2 : List Int) (N D : Nat) (w : World) (A1 A2 : Option Addr) (c1 c2 : Nat) (h1 : Rd w A1 c1 l1) (h2 : Rd w A2 c2 l2) (o1 : Ok B32 l1) (o2 : Ok B32 l2) (v1 : val B32 l1 = N) (v2 : val B32 l2 = D)
    (z1 : l1.length ≤ 1048576) (z2 : l2.length ≤ 1048576) :
    Calls Tryd.prog 23 #[.agg #[.bool s1, .slice A1 l1.length c1, .slice A2 l2.length c2]] w fun e w' => e = .returned (.bool (largeB s1 N D)) ∧ Below w.heap.size w w' := by
  have hb0 := below_alloc w (.cells #[.bool s1, .slice A1 l1.length c1, .slice A2 l2.length c2] 24)
  have hx0 := Box.new w (.bool s1) (.slice A1 l1.length c1) (.slice A2 l2.length c2) 24
  have X0 := Lib.hid hx0
  have B0 := Lib.hid hb0
  have H1 := Lib.hid (h1.below hb0)
  have H2 := Lib.hid (h2.below hb0)
  have O1 := Lib.hid o1
  have O2 := Lib.hid o2
  have V1 := Lib.hid v1
  have V2 := Lib.hid v2
  clear h1 h2 o1 o2 v1 v2 hx0 hb0
  have hbb : ∃ b1 b2, decide ((512 : Int) < ((R N).length : Int)) = b1 ∧ decide ((512 : Int) < ((R D).length : Int)) = b2 ∧ decide (512 < (R N).length) = b1 ∧ decide (512 < (R D).length) = b2 := by
    refine ⟨_, _, rfl, rfl, ?_, ?_⟩
    · rw [Bool.eq_iff_iff]; simp only [decide_eq_true_eq]; omega
    · rw [Bool.eq_iff_iff]; simp only [decide_eq_true_eq]; omega
  obtain ⟨b1, b2, hb1, hb2, hb3, hb4⟩ := hbb
  have HN := Lib.hid (R_le_W N 256)
  have HD := Lib.hid (R_le_W D 256)
  have HB3 := Lib.hid hb3
  have HB4 := Lib.hid hb4
  go_enter Tryd.func23, Tryd.ntmps23
  go_wp2_with fail
  refine (rWords l1 N _ _ _ H1.out O1.out V1.out z1).mono ?_
  rintro e wa ⟨Aa, ca, rfl, ra, ba⟩
  have X1 := Lib.hid (X0.out.below ba)
  have B1 := Lib.hid (below_step B0.out B0.out.size ba)
  have H1 := Lib.hid (H1.out.below ba)
  have H2 := Lib.hid (H2.out.below ba)
  clear ra ba
  obtain ⟨x1, x2, x3, _⟩ := X1.out.cells
  cases b1
  · go_wp2_with fail
    refine (rWords l2 D _ _ _ H2.out O2.out V2.out z2).mono ?_
    rintro e wb ⟨Ab, cb, rfl, rb, bb⟩
    have X2 := Lib.hid (X1.out.below bb)
    have B2 := Lib.hid (below_step B1.out B1.out.size bb)
    have H1 := Lib.hid (H1.out.below bb)
    have H2 := Lib.hid (H2.out.below bb)
    clear rb bb x1 x2 x3
    obtain ⟨x1, x2, x3, _⟩ := X2.out.cells
    have kN : (R N).length ≤ 512 := by have := HB3.out; simp only [decide_eq_false_iff_not] at this; omega
    cases b2
    · have kD : (R D).length ≤ 512 := by have := HB4.out; simp only [decide_eq_false_iff_not] at this; omega
      go_wp2_with fail
      refine (rOf_sized s1 l1 l2 N D _ _ _ _ _ H1.out H2.out O1.out O2.out V1.out V2.out z1 z2 kN kD).mono ?_
      rintro e wc ⟨u, rfl, ⟨B1', b1', B2', b2', rfl, hB1, hB2⟩, bc⟩
      have B3 := Lib.hid (below_step B2.out B2.out.size bc)
      clear hB1 hB2 bc
      go_wp2_with fail
      refine (rOver _ _ _ _ _ _ _ _).mono ?_
      rintro e wd ⟨rfl, bd⟩
      have B4 := Lib.hid (below_step B3.out B3.out.size bd)
      clear bd
      go_wp2
      go_ret
      refine ⟨ret_bool ?_, B4.out⟩
      have e1 : (W N).length ≤ 256 := HN.out.1 kN
      have e2 : (W D).length ≤ 256 := HD.out.1 kD
      have h9 : ∀ p q : Bool, (!(p && q)) = (!p || !q) := by decide
      simp only [largeB, fitQ, e1, e2, true_and, Bool.decide_and, h9]
    · go_wp2
      go_ret
      refine ⟨ret_bool ?_, B2.out⟩
      have h9 := HB4.out
      simp only [decide_eq_true_eq] at h9
      have e2 : ¬ (W D).length ≤ 256 := fun h => by have := HD.out.2 h; omega
      rw [largeB, decide_eq_false (fun h => e2 h.2.1)]; rfl
  · go_wp2
    go_ret
    refine ⟨ret_bool ?_, B1.out⟩
    have h9 := HB3.out
    simp only [decide_eq_true_eq] at h9
    have e2 : ¬ (W N).length ≤ 256 := fun h => by have := HN.out.2 h; omega
    rw [largeB, decide_eq_false (fun h => e2 h.1)]; rfl
end Go.Proofs.YtfmhplcpejmkhabDoor

namespace Go.Proofs.YtfmhplcpejmkhabDoor
open Go.RowKit Dig
set_option linter.unusedVariables false
set_option linter.unusedSimpArgs false
section
variable {w M M' : World} {g1 g3 : Nat} {t : TypeId} {s1 : Bool} {A1 : Option Addr} {c1 n1 : Nat} {A2 : Option Addr} {c2 d1 : Nat}
theorem GvR.newer (h : GvR w M g1 g3 t s1 A1 c1 n1 A2 c2 d1) : g1 ≠ M.heap.size ∧ g3 ≠ M.heap.size ∧ w.heap.size ≤ M.heap.size := by
  obtain ⟨x, y, z, _, _, _, hb⟩ := h.res
  have h1 := h.f.box.lt
  have h2 := hb.lt
  have h3 := h.n3
  omega
theorem GvR.boxed {g5 : Nat} {a b c : Value} {t' : TypeId} (h : GvR w M g1 g3 t s1 A1 c1 n1 A2 c2 d1) (h5 : Box M g5 (.bool false) (.slice none 0 0) (.slice none 0 0) t') (n1' : g1 ≠ g5) (n3' : g3 ≠ g5) (hw : w.heap.size ≤ g5) (ha : NI a) (hb : NI b) (hc : NI c) : GvR w (((M.setCell ⟨g5, 0, none⟩ a).setCell ⟨g5, 1, none⟩ b).setCell ⟨g5, 2, none⟩ c) g1 g3 t s1 A1 c1 n1 A2 c2 d1 := by
  have hg := grown_set3 M g5 a b c
  have hr : Res M g5 t' := ⟨_, _, _, NI.bool _, NI.slice _ _ _, NI.slice _ _ _, h5⟩
  obtain ⟨x, y, z, hx, hy, hz, h3⟩ := h.res
  exact ⟨h.f.grown hr n1' hg, ⟨x, y, z, hx, hy, hz, (hg.block g3 h3.lt (fun e => n3' (Option.some.inj e))).trans h3⟩, below_set3 h.bel hw _ _ _, h.ne, h.n3⟩
end
/-- what stays behind the numerator -/
structure GxR (w M : World) (g1 g3 g5 : Nat) (s1 : Bool) (A1 : Option Addr) (c1 n1 : Nat) (A2 : Option Addr) (c2 d1 : Nat) (A : Option Addr) (c : Nat) : Prop where
  v : GvR w M g1 g3 24 s1 A1 c1 n1 A2 c2 d1
  box : Box M g5 (.bool s1) (.slice A (W n1).length c) (.slice none 0 0) 24
  r : Rd M A c (W n1)
  n1 : g1 ≠ g5
  n2 : g3 ≠ g5
  n3 : w.heap.size ≤ g5
theorem GxR.below {w M M' : World} {g1 g3 g5 : Nat} {s1 : Bool} {A1 : Option Addr} {c1 n1 : Nat} {A2 : Option Addr} {c2 d1 : Nat} {A : Option Addr} {c : Nat} (h : GxR w M g1 g3 g5 s1 A1 c1 n1 A2 c2 d1 A c) (hb : Below M.heap.size M M') : GxR w M' g1 g3 g5 s1 A1 c1 n1 A2 c2 d1 A c :=
  ⟨h.v.below hb, h.box.below hb, h.r.below hb, h.n1, h.n2, h.n3⟩
/-- the state behind 'x.Den = ..', but for the box -/
structure GyR (w M : World) (g1 g3 g5 : Nat) (s1 : Bool) (A1 : Option Addr) (c1 n1 : Nat) (A2 : Option Addr) (c2 d1 : Nat) (A : Option Addr) (c : Nat) : Prop where
  v : GvR w M g1 g3 24 s1 A1 c1 n1 A2 c2 d1
  r : Rd M A c (W n1)
  n2 : g3 ≠ g5
theorem GxR.y {w M : World} {g1 g3 g5 : Nat} {s1 : Bool} {A1 : Option Addr} {c1 n1 : Nat} {A2 : Option Addr} {c2 d1 : Nat} {A : Option Addr} {c : Nat} (h : GxR w M g1 g3 g5 s1 A1 c1 n1 A2 c2 d1 A c) : GyR w M g1 g3 g5 s1 A1 c1 n1 A2 c2 d1 A c := ⟨h.v, h.r, h.n2⟩
theorem GxR.setDen {w M : World} {g1 g3 g5 : Nat} {s1 : Bool} {A1 : Option Addr} {c1 n1 : Nat} {A2 : Option Addr} {c2 d1 : Nat} {A : Option Addr} {c : Nat} (h : GxR w M g1 g3 g5 s1 A1 c1 n1 A2 c2 d1 A c) {B : Option Addr} {b : Nat} {k : List Int} (hk : Rd M B b k) :
    GyR w (M.setCell ⟨g5, 2, none⟩ (.slice B k.length b)) g1 g3 g5 s1 A1 c1 n1 A2 c2 d1 A c ∧ Box (M.setCell ⟨g5, 2, none⟩ (.slice B k.length b)) g5 (.bool s1) (.slice A (W n1).length c) (.slice B k.length b) 24 ∧ Rd (M.setCell ⟨g5, 2, none⟩ (.slice B k.length b)) B b k := by
  have hg : M.grownBy (M.setCell ⟨g5, 2, none⟩ (.slice B k.length b)) (some g5) := grown_set ⟨rfl, rfl, rfl, Nat.le_refl _, fun _ _ _ => rfl⟩ 2 _
  have hr : Res M g5 24 := ⟨_, _, _, NI.bool _, NI.slice _ _ _, NI.slice _ _ _, h.box⟩
  obtain ⟨x, y, z, hx, hy, hz, h3⟩ := h.v.res
  refine ⟨⟨⟨h.v.f.grown hr h.n1 hg, ⟨x, y, z, hx, hy, hz, (hg.block g3 h3.lt (fun e => h.n2 (Option.some.inj e))).trans h3⟩, h.v.bel.setCell (p := ⟨g5, 2, none⟩) h.n3 _, h.v.ne, h.v.n3⟩, ?_, h.n2⟩, h.box.set2 _, ?_⟩
  · exact h.r.grown_box h.box (NI.bool _) (NI.slice _ _ _) (NI.slice _ _ _) hg
  · exact hk.grown_box h.box (NI.bool _) (NI.slice _ _ _) (NI.slice _ _ _) hg
theorem GyR.finish {w M : World} {g1 g3 g5 : Nat} {s1 : Bool} {A1 : Option Addr} {c1 n1 : Nat} {A2 : Option Addr} {c2 d1 : Nat} {A : Option Addr} {c : Nat} (h : GyR w M g1 g3 g5 s1 A1 c1 n1 A2 c2 d1 A c) {B : Option Addr} {b : Nat} {k : List Int}
    (hb : Box M g5 (.bool s1) (.slice A (W n1).length c) (.slice B k.length b) 24) (hk : Rd M B b k) :
    let M' := ((M.setCell ⟨g3, 0, none⟩ (.bool s1)).setCell ⟨g3, 1, none⟩ (.slice A (W n1).length c)).setCell ⟨g3, 2, none⟩ (.slice B k.length b)
    M'.cell? ⟨g3, 0, none⟩ = some (.bool s1) ∧ M'.cell? ⟨g3, 1, none⟩ = some (.slice A (W n1).length c) ∧ M'.cell? ⟨g3, 2, none⟩ = some (.slice B k.length b) ∧ Rd M' A c (W n1) ∧ Rd M' B b k ∧ Below w.heap.size w M' := by
  intro M'
  obtain ⟨x, y, z, hx, hy, hz, h3⟩ := h.v.res
  obtain ⟨q0, q1, q2, _, _, _⟩ := (h3.set3 (.bool s1) (.slice A (W n1).length c) (.slice B k.length b)).cells
  exact ⟨q0, q1, q2, h.r.grown_box h3 hx hy hz (grown_set3 _ _ _ _ _), hk.grown_box h3 hx hy hz (grown_set3 _ _ _ _ _), below_set3 h.v.bel h.v.n3 _ _ _⟩
theorem GxR.finish {w M : World} {g1 g3 g5 : Nat} {s1 : Bool} {A1 : Option Addr} {c1 n1 : Nat} {A2 : Option Addr} {c2 d1 : Nat} {A : Option Addr} {c : Nat} (h : GxR w M g1 g3 g5 s1 A1 c1 n1 A2 c2 d1 A c) {B : Option Addr} {b : Nat} {k : List Int}
    (hb : Box M g5 (.bool s1) (.slice A (W n1).length c) (.slice B k.length b) 24) (hk : Rd M B b k) :
    let M' := ((M.setCell ⟨g3, 0, none⟩ (.bool s1)).setCell ⟨g3, 1, none⟩ (.slice A (W n1).length c)).setCell ⟨g3, 2, none⟩ (.slice B k.length b)
    M'.cell? ⟨g3, 0, none⟩ = some (.bool s1) ∧ M'.cell? ⟨g3, 1, none⟩ = some (.slice A (W n1).length c) ∧ M'.cell? ⟨g3, 2, none⟩ = some (.slice B k.length b) ∧ Rd M' A c (W n1) ∧ Rd M' B b k ∧ Below w.heap.size w M' := h.y.finish hb hk

set_option maxHeartbeats 4000000 in
set_option maxRecDepth 100000 in
theorem rRat (s1 : Bool) (n1 d1 : Nat) (w : World) (A1 A2 : Option Addr) (c1 c2 : Nat) (h1 : Rd w A1 c1 (R n1)) (h2 : Rd w A2 c2 (R d1)) (hn : s1 = true → n1 ≠ 0) (hd : d1 ≠ 0) (k1 : (R n1).length ≤ 2000000) (k2 : (R d1).length ≤ 2000000) :
    Calls Tryd.prog 27 #[.agg #[.bool s1, .slice A1 (R n1).length c1, .slice A2 (R d1).length c2]] w fun e w' => ∃ u, e = .returned u ∧ Gr w' u s1 n1 d1 ∧ Below w.heap.size w w' := by
  have T0 := Lib.hid (GvR.start (t := 24) (s1 := s1) h1 h2)
  have HNN := Lib.hid hn
  have HD := Lib.hid hd
  clear h1 h2 hn hd
  have HN := Lib.hid T0.out.newer
  go_enter Tryd.func27, Tryd.ntmps27
  go_upto_region 1 with (fail)
  go_cut [3] (fun v3 wc => ∃ (g5 : Nat) (Ac : Option Addr) (cc : Nat), v3 = .pointer (some ⟨g5, 0, none⟩) ∧ Hid (GxR w wc w.heap.size (w.heap.size + 1) g5 s1 A1 c1 n1 A2 c2 d1 Ac cc))
  case first =>
    obtain ⟨w1, hw1⟩ : ∃ w1, ((w.alloc (.cells #[.bool s1, .slice A1 (R n1).length c1, .slice A2 (R d1).length c2] 39)).alloc (.cells #[.bool false, .slice none 0 0, .slice none 0 0] 24)) = w1 := ⟨_, rfl⟩
    rw [hw1] at T0 HN ⊢
    clear hw1
    cases s1
    · clear HNN
      refine wp_region_noPanic ?_
      refine wp_region_held_drew (S := (fun W' => (World.cell? W' ⟨(w.heap.size), 0, none⟩ = some (.bool false) ∧ World.cell? W' ⟨(w.heap.size), 1, none⟩ = some (.slice A1 (R n1).length c1) ∧ World.cell? W' ⟨(w.heap.size), 2, none⟩ = some (.slice A2 (R d1).length c2) ∧ Hid (GvR w W' (w.heap.size) (w.heap.size + 1) 24 false A1 c1 n1 A2 c2 d1)))) (by kernel_rfl) (T0.out.below (Below.refl _ _).drew).cells (fun hHeld => ?_)
      refine wpAnyH_take (i := 0) (v := ?v0x1) rfl (by kernel_rfl) (by kernel_rfl) (by kernel_rfl) (fun _ _ _ h => h) (Or.inl ⟨by rfl, ?hy0x1⟩) (by assumption) ?rest0x1
      case hy0x1 => (intro w' hSw; (try dsimp only at hSw); go_simp; (try with_reducible rfl))
      case rest0x1 =>
      (try simp only [Act.put, List.setIfInBounds_toArray, List.set_cons_zero, List.set_cons_succ])
      refine wpAnyH_take (i := 1) (v := ?v1x2) rfl (by kernel_rfl) (by kernel_rfl) (by kernel_rfl) (fun _ _ _ h => h) (Or.inl ⟨by rfl, ?hy1x2⟩) (by assumption) ?rest1x2
      case hy1x2 => (intro w' hSw; (try dsimp only at hSw); go_simp; (try with_reducible rfl))
      case rest1x2 =>
      (try simp only [Act.put, List.setIfInBounds_toArray, List.set_cons_zero, List.set_cons_succ])
      refine wpAnyH_take (i := 2) (v := ?v2x3) rfl (by kernel_rfl) (by kernel_rfl) (by kernel_rfl) (fun _ _ _ h => h) (Or.inl ⟨by rfl, ?hy2x3⟩) (by assumption) ?rest2x3
      case hy2x3 => (intro w' hSw; (try dsimp only at hSw); go_simp; (try with_reducible rfl))
      case rest2x3 =>
      (try simp only [Act.put, List.setIfInBounds_toArray, List.set_cons_zero, List.set_cons_succ])
      refine wpAnyH_take (i := 3) rfl (by kernel_rfl) (by kernel_rfl) (by kernel_rfl) (fun _ _ _ h => h) (Or.inr ⟨by rfl, rfl⟩) (by assumption) ?_
      (try simp only [Act.put, List.setIfInBounds_toArray, List.set_cons_zero, List.set_cons_succ])
      refine wpAnyH_take (i := 4) rfl (by kernel_rfl) (by kernel_rfl) (by kernel_rfl) (fun _ _ _ h => h) (Or.inr ⟨by rfl, rfl⟩) (by assumption) ?_
      (try simp only [Act.put, List.setIfInBounds_toArray, List.set_cons_zero, List.set_cons_succ])
      refine wpAnyH_take (i := 5) rfl (by kernel_rfl) (by kernel_rfl) (by kernel_rfl) (fun _ _ _ h => h) (Or.inr ⟨by rfl, rfl⟩) (by assumption) ?_
      (try simp only [Act.put, List.setIfInBounds_toArray, List.set_cons_zero, List.set_cons_succ])
      refine wpAnyH_take (i := 6) rfl (by kernel_rfl) (by kernel_rfl) (by kernel_rfl) (fun _ _ _ h => h) (Or.inr ⟨by rfl, rfl⟩) (by assumption) ?_
      (try simp only [Act.put, List.setIfInBounds_toArray, List.set_cons_zero, List.set_cons_succ])
      refine wpAnyH_take (i := 7) (v := ?v7x4) rfl (by kernel_rfl) (by kernel_rfl) (by kernel_rfl) (fun _ _ _ h => h) (Or.inl ⟨by rfl, ?hy7x4⟩) (by assumption) ?rest7x4
      case hy7x4 => (intro w' hSw; (try dsimp only at hSw); go_simp; (try with_reducible rfl))
      case rest7x4 =>
      (try simp only [Act.put, List.setIfInBounds_toArray, List.set_cons_zero, List.set_cons_succ])
      refine wpAnyH_take (i := 8) (v := ?v8x5) rfl (by kernel_rfl) (by kernel_rfl) (by kernel_rfl) (fun _ _ _ h => h) (Or.inl ⟨by rfl, ?hy8x5⟩) (by assumption) ?rest8x5
      case hy8x5 => (intro w' hSw; (try dsimp only at hSw); go_simp; (try with_reducible rfl))
      case rest8x5 =>
      (try simp only [Act.put, List.setIfInBounds_toArray, List.set_cons_zero, List.set_cons_succ])
      refine wpAnyH_take (i := 9) (v := ?v9x6) rfl (by kernel_rfl) (by kernel_rfl) (by kernel_rfl) (fun _ _ _ h => h) (Or.inl ⟨by rfl, ?hy9x6⟩) (by assumption) ?rest9x6
      case hy9x6 => (intro w' hSw; (try dsimp only at hSw); go_simp; (try with_reducible rfl))
      case rest9x6 =>
      (try simp only [Act.put, List.setIfInBounds_toArray, List.set_cons_zero, List.set_cons_succ])
      refine wpAnyH_ready (rs := [10, 12]) (by kernel_rfl) (by simp) ?_
      refine AllReadyH.cons rfl (fun K hK => ?_) (AllReadyH.cons rfl (fun K hK => ?_) AllReadyH.nil)
      · go_simp
        go_at_call 71
        refine (rList _ _ _ _ (GvR.of hHeld).f.r1 k1).mono ?_
        rintro e wc ⟨Ac, cc, rfl, rc, bc⟩
        have hh := (GvR.of hHeld).below bc
        refine hK.out _ _ ?_ (fun hHeld => ?_)
        · (with_reducible (first | assumption | exact (T0.out.below (Below.refl _ _).drew).cells | exact GvR.next (by assumption) (by assumption) | exact (GvR.below (by assumption) (below_alloc _ _)).cells | exact (T0.out.below (below_alloc _ _).drew).cells | exact GvR.next (by assumption) (below_alloc _ _) | exact (GvR.boxed (by assumption) (by assumption) HN.out.1 HN.out.2.1 HN.out.2.2 (NI.bool _) (NI.slice _ _ _) (NI.slice _ _ _)).cells))
        clear hK K
        (try simp only [Act.put, List.setIfInBounds_toArray, List.set_cons_zero, List.set_cons_succ])
        refine wpAnyH_take (i := 11) (v := ?v11x7) rfl (by kernel_rfl) (by kernel_rfl) (by kernel_rfl) (fun _ _ _ h => h) (Or.inl ⟨by rfl, ?hy11x7⟩) (by assumption) ?rest11x7
        case hy11x7 => (intro w' hSw; (try dsimp only at hSw); go_simp; (try with_reducible rfl))
        case rest11x7 =>
        (try simp only [Act.put, List.setIfInBounds_toArray, List.set_cons_zero, List.set_cons_succ])
        refine wpAnyH_ready (rs := [12]) (by kernel_rfl) (by simp) ?_
        refine AllReadyH.cons rfl (fun K hK => ?_) AllReadyH.nil
        go_simp

        refine hK.out _ _ ?_ (fun hHeld => ?_)
        · (with_reducible (first | assumption | exact (T0.out.below (Below.refl _ _).drew).cells | exact GvR.next (by assumption) (by assumption) | exact (GvR.below (by assumption) (below_alloc _ _)).cells | exact (T0.out.below (below_alloc _ _).drew).cells | exact GvR.next (by assumption) (below_alloc _ _) | exact (GvR.boxed (by assumption) (by assumption) HN.out.1 HN.out.2.1 HN.out.2.2 (NI.bool _) (NI.slice _ _ _) (NI.slice _ _ _)).cells))
        clear hK K
        (try simp only [Act.put, List.setIfInBounds_toArray, List.set_cons_zero, List.set_cons_succ])
        refine wpAnyH_ready (rs := [13]) (by kernel_rfl) (by simp) ?_
        refine AllReadyH.cons rfl (fun K hK => ?_) AllReadyH.nil
        go_simp

        refine hK.out _ _ ?_ (fun hHeld => ?_)
        · (with_reducible (first | assumption | exact (T0.out.below (Below.refl _ _).drew).cells | exact GvR.next (by assumption) (by assumption) | exact (GvR.below (by assumption) (below_alloc _ _)).cells | exact (T0.out.below (below_alloc _ _).drew).cells | exact GvR.next (by assumption) (below_alloc _ _) | exact (GvR.boxed (by assumption) (by assumption) HN.out.1 HN.out.2.1 HN.out.2.2 (NI.bool _) (NI.slice _ _ _) (NI.slice _ _ _)).cells))
        clear hK K
        (try simp only [Act.put, List.setIfInBounds_toArray, List.set_cons_zero, List.set_cons_succ])
        refine wpAnyH_done (by kernel_rfl) ?_ _
        refine NoPanic.normal ?_
        go_wp2
        go_meet
        case rel => exact ⟨wc.heap.size, Ac, cc, rfl, Lib.hid ⟨hh.below (below_alloc _ _), Box.new _ _ _ _ _, rc.below (below_alloc _ _), hh.newer.1, hh.newer.2.1, hh.newer.2.2⟩⟩
      · go_simp

        refine hK.out _ _ ?_ (fun hHeld => ?_)
        · (with_reducible (first | assumption | exact (T0.out.below (Below.refl _ _).drew).cells | exact GvR.next (by assumption) (by assumption) | exact (GvR.below (by assumption) (below_alloc _ _)).cells | exact (T0.out.below (below_alloc _ _).drew).cells | exact GvR.next (by assumption) (below_alloc _ _) | exact (GvR.boxed (by assumption) (by assumption) HN.out.1 HN.out.2.1 HN.out.2.2 (NI.bool _) (NI.slice _ _ _) (NI.slice _ _ _)).cells))
        clear hK K
        (try simp only [Act.put, List.setIfInBounds_toArray, List.set_cons_zero, List.set_cons_succ])
        refine wpAnyH_ready (rs := [10]) (by kernel_rfl) (by simp) ?_
        refine AllReadyH.cons rfl (fun K hK => ?_) AllReadyH.nil
        go_simp
        go_at_call 71
        refine (rList _ _ _ _ (GvR.of hHeld).f.r1 k1).mono ?_
        rintro e wc ⟨Ac, cc, rfl, rc, bc⟩
        have hh := (GvR.of hHeld).below bc
        have hbx := Box.below (Box.drew (Box.new w1 (.bool false) (.slice none 0 0) (.slice none 0 0) 24)) bc
        obtain ⟨k1, k2, k3, m1, m2, m3⟩ := hbx.cells
        refine hK.out _ _ ?_ (fun hHeld => ?_)
        · (with_reducible (first | assumption | exact (T0.out.below (Below.refl _ _).drew).cells | exact GvR.next (by assumption) (by assumption) | exact (GvR.below (by assumption) (below_alloc _ _)).cells | exact (T0.out.below (below_alloc _ _).drew).cells | exact GvR.next (by assumption) (below_alloc _ _) | exact (GvR.boxed (by assumption) (by assumption) HN.out.1 HN.out.2.1 HN.out.2.2 (NI.bool _) (NI.slice _ _ _) (NI.slice _ _ _)).cells))
        clear hK K
        (try simp only [Act.put, List.setIfInBounds_toArray, List.set_cons_zero, List.set_cons_succ])
        refine wpAnyH_take (i := 11) (v := ?v11x8) rfl (by kernel_rfl) (by kernel_rfl) (by kernel_rfl) (fun _ _ _ h => h) (Or.inl ⟨by rfl, ?hy11x8⟩) (by assumption) ?rest11x8
        case hy11x8 => (intro w' hSw; (try dsimp only at hSw); go_simp; (try with_reducible rfl))
        case rest11x8 =>
        (try simp only [Act.put, List.setIfInBounds_toArray, List.set_cons_zero, List.set_cons_succ])
        refine wpAnyH_ready (rs := [13]) (by kernel_rfl) (by simp) ?_
        refine AllReadyH.cons rfl (fun K hK => ?_) AllReadyH.nil
        go_simp

        refine hK.out _ _ ?_ (fun hHeld => ?_)
        · (with_reducible (first | assumption | exact (T0.out.below (Below.refl _ _).drew).cells | exact GvR.next (by assumption) (by assumption) | exact (GvR.below (by assumption) (below_alloc _ _)).cells | exact (T0.out.below (below_alloc _ _).drew).cells | exact GvR.next (by assumption) (below_alloc _ _) | exact (GvR.boxed (by assumption) (by assumption) HN.out.1 HN.out.2.1 HN.out.2.2 (NI.bool _) (NI.slice _ _ _) (NI.slice _ _ _)).cells))
        clear hK K
        (try simp only [Act.put, List.setIfInBounds_toArray, List.set_cons_zero, List.set_cons_succ])
        refine wpAnyH_done (by kernel_rfl) ?_ _
        refine NoPanic.normal ?_
        go_wp2
        go_meet
        case rel => exact ⟨w1.heap.size, Ac, cc, rfl, Lib.hid ⟨hh.boxed hbx HN.out.1 HN.out.2.1 HN.out.2.2 (NI.bool _) (NI.slice _ _ _) (NI.slice _ _ _), hbx.set3 _ _ _, rc.grown_box hbx (NI.bool _) (NI.slice _ _ _) (NI.slice _ _ _) (grown_set3 _ _ _ _ _), HN.out.1, HN.out.2.1, HN.out.2.2⟩⟩
    · have hl := R_nz (HNN.out rfl)
      have hb1 : decide ((0 : Int) < ((R n1).length : Int)) = true := decide_eq_true (by omega)
      have hb2 : decide (0 < (R n1).length) = true := decide_eq_true (by omega)
      clear HNN
      go_region_held3 (fun W' => (World.cell? W' ⟨(w.heap.size), 0, none⟩ = some (.bool true) ∧ World.cell? W' ⟨(w.heap.size), 1, none⟩ = some (.slice A1 (R n1).length c1) ∧ World.cell? W' ⟨(w.heap.size), 2, none⟩ = some (.slice A2 (R d1).length c2) ∧ Hid (GvR w W' (w.heap.size) (w.heap.size + 1) 24 true A1 c1 n1 A2 c2 d1)))
        (with_reducible (first | assumption | exact (T0.out.below (Below.refl _ _).drew).cells | exact GvR.next (by assumption) (by assumption) | exact (GvR.below (by assumption) (below_alloc _ _)).cells | exact (T0.out.below (below_alloc _ _).drew).cells | exact GvR.next (by assumption) (below_alloc _ _) | exact (GvR.boxed (by assumption) (by assumption) HN.out.1 HN.out.2.1 HN.out.2.2 (NI.bool _) (NI.slice _ _ _) (NI.slice _ _ _)).cells))
        (first
          | (go_at_call 71
             refine (rList _ _ _ _ (GvR.of (by assumption)).f.r1 k1).mono ?_
             rintro e wc ⟨Ac, cc, rfl, rc, bc⟩
             have hh := (GvR.of (by assumption)).below bc
             try (have hbx := Box.below (Box.drew (Box.new w1 (.bool false) (.slice none 0 0) (.slice none 0 0) 24)) bc; obtain ⟨k1, k2, k3, m1, m2, m3⟩ := hbx.cells)))
      · go_wp2
        go_meet
        case rel => exact ⟨wc.heap.size, Ac, cc, rfl, Lib.hid ⟨hh.below (below_alloc _ _), Box.new _ _ _ _ _, rc.below (below_alloc _ _), hh.newer.1, hh.newer.2.1, hh.newer.2.2⟩⟩
      · go_wp2
        go_meet
        case rel => exact ⟨w1.heap.size, Ac, cc, rfl, Lib.hid ⟨hh.boxed hbx HN.out.1 HN.out.2.1 HN.out.2.2 (NI.bool _) (NI.slice _ _ _) (NI.slice _ _ _), hbx.set3 _ _ _, rc.grown_box hbx (NI.bool _) (NI.slice _ _ _) (NI.slice _ _ _) (grown_set3 _ _ _ _ _), HN.out.1, HN.out.2.1, HN.out.2.2⟩⟩
  case rest =>
    obtain ⟨g5, Ac, cc, rfl, hx⟩ := hcut
    have HX := hx
    clear hx
    obtain ⟨x1, x2, x3, _⟩ := HX.out.v.cells
    obtain ⟨y1, y2, y3, hy1, hy2, hy3, f1, f2, f3⟩ := HX.out.v.res.cells
    obtain ⟨j1, j2, j3, m1, m2, m3⟩ := HX.out.box.cells
    go_wp2_with fail
    refine (rWhole _ _ _ _ _ _ _ _ HX.out.v.f.r2 HD.out).mono ?_
    rintro e wd ⟨rfl, bd⟩
    have HX := Lib.hid (HX.out.below bd)
    clear bd x1 x2 x3 hy1 hy2 hy3 f1 f2 f3 j1 j2 j3 m1 m2 m3
    obtain ⟨x1, x2, x3, _⟩ := HX.out.v.cells
    obtain ⟨y1, y2, y3, hy1, hy2, hy3, f1, f2, f3⟩ := HX.out.v.res.cells
    obtain ⟨j1, j2, j3, m1, m2, m3⟩ := HX.out.box.cells
    by_cases hd : d1 = 1
    · rw [show decide (d1 = 1) = true by simp [hd]]
      have HD1 := Lib.hid hd
      clear hd
      go_wp2_with fail
      obtain ⟨q0, q1, q2, b1, b2, hb⟩ := HX.out.finish (B := none) (b := 0) (k := []) HX.out.box (Rd.nil _ _ _ (by omega))
      simp only [List.length_nil] at q0 q1 q2 b1 b2 hb
      refine bodyPost_ret (v := .agg #[.bool s1, .slice Ac (W n1).length cc, .slice none 0 0]) (by simp [results, Tryd.results27, go_sem, q0, q1, q2]) rfl ?_
      exact ⟨_, rfl, ⟨_, _, none, 0, by rw [DW, if_pos HD1.out]; rfl, b1, by rw [DW, if_pos HD1.out]; exact b2⟩, hb⟩
    · rw [show decide (d1 = 1) = false by simp [hd]]
      have HD1 := Lib.hid hd
      clear hd
      go_wp2_with fail
      refine (rList _ _ _ _ HX.out.v.f.r2 k2).mono ?_
      rintro e wd ⟨Ad, cd, rfl, rd, bd⟩
      have HX := Lib.hid (HX.out.below bd)
      have RD := Lib.hid rd
      clear x1 x2 x3 hy1 hy2 hy3 f1 f2 f3 j1 j2 j3 m1 m2 m3 rd bd
      obtain ⟨j1, j2, j3, m1, m2, m3⟩ := HX.out.box.cells
      have HY := Lib.hid (HX.out.setDen RD.out)
      obtain ⟨y1, y2, y3, hy1, hy2, hy3, f1, f2, f3⟩ := HY.out.1.v.res.cells
      obtain ⟨l1, l2, l3, o1, o2, o3⟩ := HY.out.2.1.cells
      go_wp2_with fail
      obtain ⟨q0, q1, q2, b1, b2, hb⟩ := HY.out.1.finish HY.out.2.1 HY.out.2.2
      refine bodyPost_ret (v := .agg #[.bool s1, .slice Ac (W n1).length cc, .slice Ad (W d1).length cd]) (by simp [results, Tryd.results27, go_sem, q0, q1, q2]) rfl ?_
      exact ⟨_, rfl, ⟨_, _, Ad, cd, by rw [DW, if_neg HD1.out], b1, by rw [DW, if_neg HD1.out]; exact b2⟩, hb⟩
end Go.Proofs.YtfmhplcpejmkhabDoor

namespace Go.Proofs.YtfmhplcpejmkhabDoor
open Go.RowKit Dig
set_option linter.unusedVariables false
set_option linter.unusedSimpArgs false
/-- the value of a rational number -/
def GrQ (w : World) (v : Value) (q : Rat) : Prop := Gr w v (ng q) q.num.natAbs q.den
theorem GrQ.below {w w' : World} {v : Value} {q : Rat} (h : GrQ w v q) (hb : Below w.heap.size w w') : GrQ w' v q := Gr.below h hb
/-- what an operation with the result q returns -/
def GivePost (w : World) (q : Rat) (e : Ending) (w' : World) : Prop :=
  (fitQ q ∧ ∃ v, e = .returned (.tuple #[v, .int .i64 0]) ∧ GrQ w' v q ∧ Below w.heap.size w w') ∨
  (¬fitQ q ∧ e = .returned (.tuple #[noRat, .int .i64 1]) ∧ Below w.heap.size w w')
theorem ng_nz {q : Rat} (h : ng q = true) : q.num.natAbs ≠ 0 := by
  unfold ng at h
  simp at h
  omega
theorem below_set3_mem {w M : World} {g : Nat} {t : TypeId} (hr : Res M g t) (hb : Below w.heap.size w M) (hg : w.heap.size ≤ g) {s : Bool} {B1 B2 : Option Addr} {b1 b2 : Nat} {k1 k2 : List Int} (h1 : Rd M B1 b1 k1) (h2 : Rd M B2 b2 k2) :
    let M' := ((M.setCell ⟨g, 0, none⟩ (.bool s)).setCell ⟨g, 1, none⟩ (.slice B1 k1.length b1)).setCell ⟨g, 2, none⟩ (.slice B2 k2.length b2)
    M'.cell? ⟨g, 0, none⟩ = some (.bool s) ∧ M'.cell? ⟨g, 1, none⟩ = some (.slice B1 k1.length b1) ∧ M'.cell? ⟨g, 2, none⟩ = some (.slice B2 k2.length b2) ∧
    Rd M' B1 b1 k1 ∧ Rd M' B2 b2 k2 ∧ Below w.heap.size w M' := by
  intro M'
  obtain ⟨x, y, z, hx, hy, hz, hbx⟩ := hr
  obtain ⟨q0, q1, q2, _, _, _⟩ := (hbx.set3 (.bool s) (.slice B1 k1.length b1) (.slice B2 k2.length b2)).cells
  exact ⟨q0, q1, q2, h1.grown_box hbx hx hy hz (grown_set3 _ _ _ _ _), h2.grown_box hbx hx hy hz (grown_set3 _ _ _ _ _), below_set3 hb hg _ _ _⟩
set_option maxHeartbeats 2000000 in
set_option maxRecDepth 100000 in
theorem rDone (q : Rat) (w : World) (A1 A2 : Option Addr) (c1 c2 : Nat) (h1 : Rd w A1 c1 (R q.num.natAbs)) (h2 : Rd w A2 c2 (R q.den)) (k1 : (R q.num.natAbs).length ≤ 2000000) (k2 : (R q.den).length ≤ 2000000) :
    Calls Tryd.prog 58 #[.agg #[.bool (ng q), .slice A1 (R q.num.natAbs).length c1, .slice A2 (R q.den).length c2]] w (GivePost w q) := by
  have T0 := Lib.hid (GvR.start (t := 24) (s1 := ng q) h1 h2)
  have HNZ := Lib.hid (ng_nz (q := q))
  have HDZ := Lib.hid q.den_nz
  clear h1 h2
  have hf : (decide ((W q.num.natAbs).length ≤ 64) && decide ((W q.den).length ≤ 64)) = decide (fitQ q) := by
    rw [Bool.eq_iff_iff]; simp only [Bool.and_eq_true, decide_eq_true_eq]; exact Iff.rfl
  have HF := Lib.hid hf
  clear hf
  go_enter Tryd.func58, Tryd.ntmps58
  go_wp2_with fail
  refine (rOver _ _ _ _ _ _ _ _).mono ?_
  rintro e wa ⟨rfl, ba⟩
  rw [HF.out]
  have TA := Lib.hid (T0.out.below ba)
  clear ba T0
  obtain ⟨x1, x2, x3, _⟩ := TA.out.cells
  obtain ⟨y1, y2, y3, hy1, hy2, hy3, f1, f2, f3⟩ := TA.out.res.cells
  by_cases hq : fitQ q
  · rw [show decide (fitQ q) = true from decide_eq_true hq]
    have HQ := Lib.hid hq
    clear hq
    go_wp2_with fail
    refine (rRat _ _ _ _ _ _ _ _ TA.out.f.r1 TA.out.f.r2 HNZ.out HDZ.out k1 k2).mono ?_
    rintro e wb ⟨u, rfl, ⟨B1, b1, B2, b2, rfl, hB1, hB2⟩, bb⟩
    have hh := TA.out.below bb
    clear x1 x2 x3 hy1 hy2 hy3 f1 f2 f3
    obtain ⟨y1, y2, y3, hy1, hy2, hy3, f1, f2, f3⟩ := hh.res.cells
    go_wp2_with fail
    obtain ⟨q0, q1, q2, r1, r2, hb⟩ := below_set3_mem (s := ng q) hh.res hh.bel hh.n3 hB1 hB2
    refine bodyPost_ret (v := .tuple #[.agg #[.bool (ng q), .slice B1 (W q.num.natAbs).length b1, .slice B2 (DW q.den).length b2], .int .i64 0]) (by simp [results, Tryd.results58, go_sem, q0, q1, q2]) rfl ?_
    exact Or.inl ⟨HQ.out, _, rfl, ⟨_, _, _, _, rfl, r1, r2⟩, hb⟩
  · rw [show decide (fitQ q) = false from decide_eq_false hq]
    have HQ := Lib.hid hq
    clear hq
    go_wp2_with fail
    obtain ⟨q0, q1, q2, r1, r2, hb⟩ := below_set3_mem (s := false) (B1 := none) (B2 := none) (b1 := 0) (b2 := 0) (k1 := []) (k2 := []) TA.out.res TA.out.bel TA.out.n3 (Rd.nil _ _ _ (by omega)) (Rd.nil _ _ _ (by omega))
    simp only [List.length_nil] at q0 q1 q2 hb
    refine bodyPost_ret (v := .tuple #[noRat, .int .i64 1]) (by simp [results, Tryd.results58, go_sem, q0, q1, q2, noRat]) rfl ?_
    exact Or.inr ⟨HQ.out, rfl, hb⟩
set_option maxRecDepth 100000 in
theorem lNone (w : World) : Calls Tryd.prog 24 #[noRat] w fun e w' => e = .returned (.bool true) ∧ Below w.heap.size w w' := by
  unfold noRat
  go_enter Tryd.func24, Tryd.ntmps24
  go_wp2
  go_ret
  exact ⟨rfl, below_alloc _ _⟩
end Go.Proofs.YtfmhplcpejmkhabDoor

namespace Go.Proofs.YtfmhplcpejmkhabDoor
open Go.RowKit Dig
set_option linter.unusedVariables false
set_option linter.unusedSimpArgs false
/-- the number of the denominator's words -/
def dwv (d : Nat) : Nat := if d = 1 then 0 else d
theorem DW_dwv (d : Nat) : DW d = W (dwv d) := by
  unfold DW dwv; split
  · rw [W_zero]
  · rfl
theorem ok_DW (d : Nat) : Ok B32 (DW d) := by rw [DW_dwv]; exact ok_W _
theorem val_DW (d : Nat) : val B32 (DW d) = dwv d := by rw [DW_dwv]; exact val_W _
theorem DW_length (d : Nat) : (DW d).length ≤ (W d).length := by
  unfold DW; split
  · simp
  · exact Nat.le_refl _
theorem ratOf_dwv (s : Bool) (n d : Nat) (hd : d ≠ 0) : ratOf s n (dwv d) = mkRat (sg s n) d := by
  unfold ratOf dwv
  by_cases h : d = 1
  · subst h; rfl
  · simp [h, hd]
theorem ratOf_self (q : Rat) : ratOf (ng q) q.num.natAbs (dwv q.den) = q := by
  rw [ratOf_dwv _ _ _ q.den_nz, mk_ng]
theorem R_of_W {n k : Nat} (h : (W n).length ≤ k) : (R n).length ≤ 2 * k := (R_le_W n k).2 h
set_option maxHeartbeats 4000000 in
set_option maxRecDepth 100000 in
theorem rCanonical (q : Rat) (w : World) (A1 A2 : Option Addr) (c1 c2 : Nat) (h1 : Rd w A1 c1 (W q.num.natAbs)) (h2 : Rd w A2 c2 (DW q.den)) (k1 : (W q.num.natAbs).length ≤ 1000) (k2 : (W q.den).length ≤ 1000) :
    Calls Tryd.prog 51 #[.agg #[.bool (ng q), .slice A1 (W q.num.natAbs).length c1, .slice A2 (DW q.den).length c2]] w fun e w' => e = .returned (.bool true) ∧ Below w.heap.size w w' := by
  have hb0 := below_alloc w (.cells #[.bool (ng q), .slice A1 (W q.num.natAbs).length c1, .slice A2 (DW q.den).length c2] 24)
  have X0 := Lib.hid (Box.new w (.bool (ng q)) (.slice A1 (W q.num.natAbs).length c1) (.slice A2 (DW q.den).length c2) 24)
  have B0 := Lib.hid hb0
  have H1 := Lib.hid (h1.below hb0)
  have H2 := Lib.hid (h2.below hb0)
  have HNZ := Lib.hid (ng_nz (q := q))
  have HDZ := Lib.hid q.den_nz
  have HS := Lib.hid (ratOf_self q)
  have kd : (DW q.den).length ≤ 1000 := Nat.le_trans (DW_length _) k2
  have kdv : (W (dwv q.den)).length ≤ 1000 := by rw [← DW_dwv]; exact kd
  have K1 := Lib.hid (show (R q.num.natAbs).length ≤ 2000000 by have := R_of_W k1; omega)
  have K2 := Lib.hid (show (R q.den).length ≤ 2000000 by have := R_of_W k2; omega)
  have K3 := Lib.hid (show (R (dwv q.den)).length ≤ 2000000 by have := R_of_W kdv; omega)
  have hc1 := h1.le
  have hc2 := h2.le
  have hm1 := h1.max
  have hm2 := h2.max
  clear h1 h2 hb0 kdv
  go_enter Tryd.func51, Tryd.ntmps51
  go_wp2_with fail
  refine (rOf _ _ _ q.num.natAbs (dwv q.den) _ _ _ _ _ H1.out H2.out (ok_W _) (ok_DW _) (val_W _) (val_DW _) (by omega) (by omega) K1.out K3.out).mono ?_
  rw [HS.out]
  rintro e wa ⟨u, rfl, ⟨B1, b1, B2, b2, rfl, hB1, hB2⟩, ba⟩
  have HB1 := Lib.hid hB1
  have HB2 := Lib.hid hB2
  have X1 := Lib.hid (X0.out.below ba)
  have H1 := Lib.hid (H1.out.below ba)
  have H2 := Lib.hid (H2.out.below ba)
  have BA := Lib.hid (below_step B0.out B0.out.size ba)
  clear hB1 hB2 ba
  go_wp2_with fail
  refine (rRat _ _ _ _ _ _ _ _ HB1.out HB2.out HNZ.out HDZ.out K1.out K2.out).mono ?_
  rintro e wb ⟨u, rfl, ⟨C1, d1, C2, d2, rfl, hC1, hC2⟩, bb⟩
  have X2 := X1.out.below bb
  have hb3 := below_alloc wb (.cells #[.bool (ng q), .slice C1 (W q.num.natAbs).length d1, .slice C2 (DW q.den).length d2] 24)
  have X3 := Lib.hid (X2.below hb3)
  have Y3 := Lib.hid (Box.new wb (.bool (ng q)) (.slice C1 (W q.num.natAbs).length d1) (.slice C2 (DW q.den).length d2) 24)
  have HC1 := Lib.hid (hC1.below hb3)
  have HC2 := Lib.hid (hC2.below hb3)
  have H1 := Lib.hid ((H1.out.below bb).below hb3)
  have H2 := Lib.hid ((H2.out.below bb).below hb3)
  have B3 := Lib.hid (below_step (below_step BA.out BA.out.size bb) (Nat.le_trans BA.out.size bb.size) hb3)
  have hlt := X2.lt
  have hd1 := hC1.le
  have hd2 := hC2.le
  have hn1 := hC1.max
  have hn2 := hC2.max
  obtain ⟨x1, x2, x3, _, _, _⟩ := X2.cells
  clear hC1 hC2 bb hb3 X2
  generalize W q.num.natAbs = l1 at *
  generalize DW q.den = l2 at *
  go_wp2
  obtain ⟨M, hM⟩ : ∃ M, wb.alloc (.cells #[.bool (ng q), .slice C1 l1.length d1, .slice C2 l2.length d2] 24) = M := ⟨_, rfl⟩
  rw [hM] at X3 Y3 HC1 HC2 H1 H2 B3
  rw [hM]
  clear hM x1 x2 x3
  obtain ⟨x1, x2, x3, _, _, _⟩ := X3.out.cells
  obtain ⟨y1, y2, y3, _, _, _⟩ := Y3.out.cells
  go_loopw [35] (fun v35 wr => ∃ (i nr : Nat), i ≤ l1.length ∧ v35 = .int .i64 i ∧ wr = M.drewN nr) (fun v35 _ => l1.length - (intOf v35).toNat)
  case atStart => exact ⟨0, 0, Nat.zero_le _, rfl, rfl⟩
  case round =>
    obtain ⟨i, nr, hi, rfl, rfl⟩ := hrel
    by_cases hlt1 : i < l1.length
    · obtain ⟨ad, rfl, hc⟩ := H1.out.at_ i hlt1
      obtain ⟨ad', rfl, hc'⟩ := HC1.out.at_ i hlt1
      go_wp2
      go_quiet (fail)
      go_wp2
      go_roundw
      case rel => exact ⟨i + 1, _, by omega, by go_num, rfl⟩
      case measure => simp [intOf]; omega
    · obtain rfl : i = l1.length := by omega
      clear hlt1
      go_wp2
      go_loopw [53] (fun v53 wr => ∃ (i ns : Nat), i ≤ l2.length ∧ v53 = .int .i64 i ∧ wr = M.drewN ns) (fun v53 _ => l2.length - (intOf v53).toNat)
      case atStart => exact ⟨0, _, Nat.zero_le _, rfl, rfl⟩
      case round =>
        obtain ⟨i, ns, hi2, rfl, rfl⟩ := hrel
        by_cases hlt1 : i < l2.length
        · obtain ⟨ad, rfl, hc⟩ := H2.out.at_ i hlt1
          obtain ⟨ad', rfl, hc'⟩ := HC2.out.at_ i hlt1
          go_wp2
          go_quiet (fail)
          go_wp2
          go_roundw
          case rel => exact ⟨i + 1, _, by omega, by go_num, rfl⟩
          case measure => simp [intOf]; omega
        · obtain rfl : i = l2.length := by omega
          go_wp2
          go_ret
          exact ⟨rfl, B3.out.drewN _⟩
end Go.Proofs.YtfmhplcpejmkhabDoor

namespace Go.Proofs.YtfmhplcpejmkhabDoor
open Go.RowKit Dig
set_option linter.unusedVariables false
set_option linter.unusedSimpArgs false
/-- two values in variables -/
structure Lv2 (w M : World) (g1 g2 : Nat) (s1 : Bool) (A1 : Option Addr) (c1 : Nat) (l1 : List Int) (A2 : Option Addr) (c2 : Nat) (l2 : List Int) (s2 : Bool) (A3 : Option Addr) (c3 : Nat) (l3 : List Int) (A4 : Option Addr) (c4 : Nat) (l4 : List Int) : Prop where
  f : Box M g1 (.bool s1) (.slice A1 l1.length c1) (.slice A2 l2.length c2) 24
  g : Box M g2 (.bool s2) (.slice A3 l3.length c3) (.slice A4 l4.length c4) 24
  r1 : Rd M A1 c1 l1
  r2 : Rd M A2 c2 l2
  r3 : Rd M A3 c3 l3
  r4 : Rd M A4 c4 l4
  bel : Below w.heap.size w M
section
variable {w M M' : World} {g1 g2 : Nat} {s1 : Bool} {A1 : Option Addr} {c1 : Nat} {l1 : List Int} {A2 : Option Addr} {c2 : Nat} {l2 : List Int} {s2 : Bool} {A3 : Option Addr} {c3 : Nat} {l3 : List Int} {A4 : Option Addr} {c4 : Nat} {l4 : List Int}
theorem Lv2.below (h : Lv2 w M g1 g2 s1 A1 c1 l1 A2 c2 l2 s2 A3 c3 l3 A4 c4 l4) (hb : Below M.heap.size M M') : Lv2 w M' g1 g2 s1 A1 c1 l1 A2 c2 l2 s2 A3 c3 l3 A4 c4 l4 :=
  ⟨h.f.below hb, h.g.below hb, h.r1.below hb, h.r2.below hb, h.r3.below hb, h.r4.below hb, below_step h.bel h.bel.size hb⟩
theorem Lv2.cells (h : Lv2 w M g1 g2 s1 A1 c1 l1 A2 c2 l2 s2 A3 c3 l3 A4 c4 l4) : (World.cell? M ⟨g1, 0, none⟩ = some (.bool s1) ∧ World.cell? M ⟨g1, 1, none⟩ = some (.slice A1 (l1).length c1) ∧ World.cell? M ⟨g1, 2, none⟩ = some (.slice A2 (l2).length c2) ∧ World.cell? M ⟨g2, 0, none⟩ = some (.bool s2) ∧ World.cell? M ⟨g2, 1, none⟩ = some (.slice A3 (l3).length c3) ∧ World.cell? M ⟨g2, 2, none⟩ = some (.slice A4 (l4).length c4) ∧ Hid (Lv2 w M g1 g2 s1 A1 c1 l1 A2 c2 l2 s2 A3 c3 l3 A4 c4 l4)) := by
  obtain ⟨a1, a2, a3, _, _, _⟩ := h.f.cells
  obtain ⟨b1, b2, b3, _, _, _⟩ := h.g.cells
  exact ⟨a1, a2, a3, b1, b2, b3, h⟩
theorem Lv2.of (h : (World.cell? M ⟨g1, 0, none⟩ = some (.bool s1) ∧ World.cell? M ⟨g1, 1, none⟩ = some (.slice A1 (l1).length c1) ∧ World.cell? M ⟨g1, 2, none⟩ = some (.slice A2 (l2).length c2) ∧ World.cell? M ⟨g2, 0, none⟩ = some (.bool s2) ∧ World.cell? M ⟨g2, 1, none⟩ = some (.slice A3 (l3).length c3) ∧ World.cell? M ⟨g2, 2, none⟩ = some (.slice A4 (l4).length c4) ∧ Hid (Lv2 w M g1 g2 s1 A1 c1 l1 A2 c2 l2 s2 A3 c3 l3 A4 c4 l4))) : Lv2 w M g1 g2 s1 A1 c1 l1 A2 c2 l2 s2 A3 c3 l3 A4 c4 l4 := h.2.2.2.2.2.2.out
theorem Lv2.next (h : (World.cell? M ⟨g1, 0, none⟩ = some (.bool s1) ∧ World.cell? M ⟨g1, 1, none⟩ = some (.slice A1 (l1).length c1) ∧ World.cell? M ⟨g1, 2, none⟩ = some (.slice A2 (l2).length c2) ∧ World.cell? M ⟨g2, 0, none⟩ = some (.bool s2) ∧ World.cell? M ⟨g2, 1, none⟩ = some (.slice A3 (l3).length c3) ∧ World.cell? M ⟨g2, 2, none⟩ = some (.slice A4 (l4).length c4) ∧ Hid (Lv2 w M g1 g2 s1 A1 c1 l1 A2 c2 l2 s2 A3 c3 l3 A4 c4 l4))) (hb : Below M.heap.size M M') : (World.cell? M' ⟨g1, 0, none⟩ = some (.bool s1) ∧ World.cell? M' ⟨g1, 1, none⟩ = some (.slice A1 (l1).length c1) ∧ World.cell? M' ⟨g1, 2, none⟩ = some (.slice A2 (l2).length c2) ∧ World.cell? M' ⟨g2, 0, none⟩ = some (.bool s2) ∧ World.cell? M' ⟨g2, 1, none⟩ = some (.slice A3 (l3).length c3) ∧ World.cell? M' ⟨g2, 2, none⟩ = some (.slice A4 (l4).length c4) ∧ Hid (Lv2 w M' g1 g2 s1 A1 c1 l1 A2 c2 l2 s2 A3 c3 l3 A4 c4 l4)) := ((Lv2.of h).below hb).cells
theorem Lv2.start (h1 : Rd w A1 c1 l1) (h2 : Rd w A2 c2 l2) (h3 : Rd w A3 c3 l3) (h4 : Rd w A4 c4 l4) :
    Lv2 w ((w.alloc (.cells #[.bool s1, .slice A1 l1.length c1, .slice A2 l2.length c2] 24)).alloc (.cells #[.bool s2, .slice A3 l3.length c3, .slice A4 l4.length c4] 24)) w.heap.size (w.heap.size + 1) s1 A1 c1 l1 A2 c2 l2 s2 A3 c3 l3 A4 c4 l4 := by
  have b1 := below_alloc w (.cells #[.bool s1, .slice A1 l1.length c1, .slice A2 l2.length c2] 24)
  have k1 := Box.new w (.bool s1) (.slice A1 l1.length c1) (.slice A2 l2.length c2) 24
  have z1 : (w.alloc (.cells #[.bool s1, .slice A1 l1.length c1, .slice A2 l2.length c2] 24)).heap.size = w.heap.size + 1 := by simp
  generalize w.alloc (.cells #[.bool s1, .slice A1 l1.length c1, .slice A2 l2.length c2] 24) = w1 at *
  have b3 := below_alloc w1 (.cells #[.bool s2, .slice A3 l3.length c3, .slice A4 l4.length c4] 24)
  have k3 := Box.new w1 (.bool s2) (.slice A3 l3.length c3) (.slice A4 l4.length c4) 24
  rw [z1] at k3
  generalize w1.alloc (.cells #[.bool s2, .slice A3 l3.length c3, .slice A4 l4.length c4] 24) = w3 at *
  have b03 : Below w.heap.size w w3 := below_step b1 b1.size b3
  exact ⟨k1.below b3, k3, h1.below b03, h2.below b03, h3.below b03, h4.below b03, b03⟩
end
/-- the denominator that stands for 1 where it is 0 -/
def one0 (d : Nat) : Nat := if d = 0 then 1 else d
theorem one0_pos (d : Nat) : one0 d ≠ 0 := by unfold one0; split <;> omega
theorem ratOf_one0 (s : Bool) (n d : Nat) : ratOf s n d = mkRat (sg s n) (one0 d) := rfl
theorem ratOf_eq_zero {s : Bool} {n d : Nat} : ratOf s n d = 0 ↔ n = 0 := by
  rw [ratOf_one0, Rat.mkRat_eq_zero (one0_pos d)]
  unfold sg; cases s <;> simp <;> omega
theorem ratOf_eq {s t : Bool} {n d m e : Nat} (hn : n ≠ 0) (hm : m ≠ 0) : ratOf s n d = ratOf t m e ↔ s = t ∧ n * one0 e = m * one0 d := by
  rw [ratOf_one0, ratOf_one0, Rat.mkRat_eq_iff (one0_pos d) (one0_pos e)]
  have h1 : 0 < n * one0 e := Nat.mul_pos (by omega) (by have := one0_pos e; omega)
  have h2 : 0 < m * one0 d := Nat.mul_pos (by omega) (by have := one0_pos d; omega)
  rw [sg_mul, sg_mul]
  generalize n * one0 e = x at *
  generalize m * one0 d = y at *
  unfold sg
  cases s <;> cases t <;> simp <;> omega
theorem one0_len (d : Nat) : (R (one0 d)).length ≤ (R d).length + 1 := by
  unfold one0; split
  · rw [R_one]; simp
  · omega
theorem cmpI_zero (a b : Nat) : (cmpI a b == 0) = decide (a = b) := cmpI_beq a b
theorem words_len {l : List Int} {N : Nat} (ho : Ok B32 l) (hv : val B32 l = N) : (R N).length ≤ 2 * l.length := by
  refine R_of_W ?_
  rw [← strip_W ho hv]; exact strip_length_le l
theorem rDen_lit (d : Nat) (w : World) (A2 : Option Addr) (c2 : Nat) (h2 : Rd w A2 c2 (R d)) :
    Calls Tryd.prog 85 #[.agg #[.bool false, .slice none 0 0, .slice A2 (R d).length c2]] w fun e w' => ∃ A c, e = .returned (.slice A (R (one0 d)).length c) ∧ Rd w' A c (R (one0 d)) ∧ Below w.heap.size w w' := by
  have := rDen_any false 0 d w none A2 0 c2 h2
  rw [R_zero] at this
  exact this
set_option maxHeartbeats 4000000 in
set_option maxRecDepth 100000 in
theorem rEqual (s1 : Bool) (l1 l2 : List Int) (N1 D1 : Nat) (s2 : Bool) (l3 l4 : List Int) (N2 D2 : Nat) (w : World) (A1 A2 A3 A4 : Option Addr) (c1 c2 c3 c4 : Nat)
    (h1 : Rd w A1 c1 l1) (h2 : Rd w A2 c2 l2) (h3 : Rd w A3 c3 l3) (h4 : Rd w A4 c4 l4) (o1 : Ok B32 l1) (o2 : Ok B32 l2) (o3 : Ok B32 l3) (o4 : Ok B32 l4)
    (v1 : val B32 l1 = N1) (v2 : val B32 l2 = D1) (v3 : val B32 l3 = N2) (v4 : val B32 l4 = D2)
    (z1 : l1.length ≤ 1048575) (z2 : l2.length ≤ 1048575) (z3 : l3.length ≤ 1048575) (z4 : l4.length ≤ 1048575) :
    Calls Tryd.prog 52 #[.agg #[.bool s1, .slice A1 l1.length c1, .slice A2 l2.length c2], .agg #[.bool s2, .slice A3 l3.length c3, .slice A4 l4.length c4]] w fun e w' => e = .returned (.bool (decide (ratOf s1 N1 D1 = ratOf s2 N2 D2))) ∧ Below w.heap.size w w' := by
  have T0 := Lib.hid (Lv2.start (s1 := s1) (s2 := s2) h1 h2 h3 h4)
  have O1 := Lib.hid o1
  have O2 := Lib.hid o2
  have O3 := Lib.hid o3
  have O4 := Lib.hid o4
  have V1 := Lib.hid v1
  have V2 := Lib.hid v2
  have V3 := Lib.hid v3
  have V4 := Lib.hid v4
  have K1 := Lib.hid (words_len o1 v1)
  have K2 := Lib.hid (words_len o2 v2)
  have K3 := Lib.hid (words_len o3 v3)
  have K4 := Lib.hid (words_len o4 v4)
  clear h1 h2 h3 h4 o1 o2 o3 o4 v1 v2 v3 v4
  go_enter Tryd.func52, Tryd.ntmps52
  go_wp2_with fail
  go_region_held3 (fun W' => (World.cell? W' ⟨(w.heap.size), 0, none⟩ = some (.bool s1) ∧ World.cell? W' ⟨(w.heap.size), 1, none⟩ = some (.slice A1 (l1).length c1) ∧ World.cell? W' ⟨(w.heap.size), 2, none⟩ = some (.slice A2 (l2).length c2) ∧ World.cell? W' ⟨(w.heap.size + 1), 0, none⟩ = some (.bool s2) ∧ World.cell? W' ⟨(w.heap.size + 1), 1, none⟩ = some (.slice A3 (l3).length c3) ∧ World.cell? W' ⟨(w.heap.size + 1), 2, none⟩ = some (.slice A4 (l4).length c4) ∧ Hid (Lv2 w W' (w.heap.size) (w.heap.size + 1) s1 A1 c1 l1 A2 c2 l2 s2 A3 c3 l3 A4 c4 l4)))
    (with_reducible (first | assumption | exact (T0.out.below (Below.refl _ _).drew).cells | exact Lv2.next (by assumption) (by assumption)))
    (first
       | (go_at_call_of 67 (Value.slice A1 l1.length c1)
          refine (rWords l1 N1 _ _ _ (Lv2.of (by assumption)).r1 O1.out V1.out (by omega)).mono ?_
          rintro e wa ⟨Aa, ca, rfl, ra, ba⟩)
       | (go_at_call_of 67 (Value.slice A3 l3.length c3)
          refine (rWords l3 N2 _ _ _ (Lv2.of (by assumption)).r3 O3.out V3.out (by omega)).mono ?_
          rintro e wb ⟨Ab, cb, rfl, rb, bb⟩))
  have RA := Lib.hid (ra.below bb)
  have RB := Lib.hid rb
  have TB := Lib.hid (Lv2.of (by assumption))
  clear ra rb ba bb T0
  obtain ⟨x1, x2, x3, x4, x5, x6, _⟩ := TB.out.cells
  by_cases hz1 : N1 = 0
  · have hzb : (((R N1).length : Int) == 0) = true := by subst hz1; simp [R_zero]
    have hr : decide (ratOf s1 N1 D1 = ratOf s2 N2 D2) = (((R N1).length : Int) == ((R N2).length : Int)) := by
      subst hz1
      rw [R_zero, Bool.eq_iff_iff]
      simp only [decide_eq_true_eq, beq_iff_eq, List.length_nil]
      rw [ratOf_eq_zero.2 rfl, eq_comm, ratOf_eq_zero]
      constructor
      · rintro rfl; rw [R_zero]; rfl
      · intro h; exact R_length_zero (by omega)
    have HR := Lib.hid hr
    clear hz1 hr
    go_wp2
    go_ret
    exact ⟨ret_bool (by rw [HR.out]), TB.out.bel⟩
  · have hzb : (((R N1).length : Int) == 0) = false := by have := R_nz hz1; rw [beq_eq_false_iff_ne]; omega
    by_cases hz2 : N2 = 0
    · have hzb2 : (((R N2).length : Int) == 0) = true := by subst hz2; simp [R_zero]
      have hr : decide (ratOf s1 N1 D1 = ratOf s2 N2 D2) = false := by
        subst hz2
        rw [decide_eq_false_iff_not, ratOf_eq_zero.2 (show (0 : Nat) = 0 from rfl), ratOf_eq_zero]; exact hz1
      have hr2 : (((R N1).length : Int) == ((R N2).length : Int)) = false := by
        subst hz2
        have := R_nz hz1
        rw [beq_eq_false_iff_ne, show (R 0).length = 0 from by rw [R_zero]; rfl]; omega
      have HR := Lib.hid hr
      clear hz1 hz2 hr
      go_wp2
      go_ret
      exact ⟨ret_bool (by rw [HR.out]), TB.out.bel⟩
    · have hzb2 : (((R N2).length : Int) == 0) = false := by have := R_nz hz2; rw [beq_eq_false_iff_ne]; omega
      have HE := Lib.hid (ratOf_eq (s := s1) (t := s2) (d := D1) (e := D2) hz1 hz2)
      clear hz1 hz2
      go_wp2_with fail
      go_region_held3 (fun W' => (World.cell? W' ⟨(w.heap.size), 0, none⟩ = some (.bool s1) ∧ World.cell? W' ⟨(w.heap.size), 1, none⟩ = some (.slice A1 (l1).length c1) ∧ World.cell? W' ⟨(w.heap.size), 2, none⟩ = some (.slice A2 (l2).length c2) ∧ World.cell? W' ⟨(w.heap.size + 1), 0, none⟩ = some (.bool s2) ∧ World.cell? W' ⟨(w.heap.size + 1), 1, none⟩ = some (.slice A3 (l3).length c3) ∧ World.cell? W' ⟨(w.heap.size + 1), 2, none⟩ = some (.slice A4 (l4).length c4) ∧ Hid (Lv2 w W' (w.heap.size) (w.heap.size + 1) s1 A1 c1 l1 A2 c2 l2 s2 A3 c3 l3 A4 c4 l4)))
        (with_reducible (first | assumption | exact (TB.out.below (Below.refl _ _).drew).cells | exact Lv2.next (by assumption) (by assumption)))
        (first
           | (go_at_call_of 67 (Value.slice A2 l2.length c2)
              refine (rWords l2 D1 _ _ _ (Lv2.of (by assumption)).r2 O2.out V2.out (by omega)).mono ?_
              rintro e wc ⟨Ac, cc, rfl, rc, bc⟩)
           | (go_at_call_of 67 (Value.slice A4 l4.length c4)
              refine (rWords l4 D2 _ _ _ (Lv2.of (by assumption)).r4 O4.out V4.out (by omega)).mono ?_
              rintro e wd ⟨Ad, cd, rfl, rd, bd⟩)
           | (go_at_call_of 85 (Value.agg #[.bool false, .slice none 0 0, .slice Ac (R D1).length cc])
              refine (rDen_lit D1 _ _ _ rc).mono ?_
              rintro e we ⟨Ae, ce, rfl, re, be⟩)
           | (go_at_call_of 85 (Value.agg #[.bool false, .slice none 0 0, .slice Ad (R D2).length cd])
              refine (rDen_lit D2 _ _ _ rd).mono ?_
              rintro e wf ⟨Af, cf, rfl, rf, bf⟩))
      have RA := Lib.hid ((((RA.out.below (Below.drew_step bc)).below be).below bd).below bf)
      have RB := Lib.hid ((((RB.out.below (Below.drew_step bc)).below be).below bd).below bf)
      have RE := Lib.hid ((re.below bd).below bf)
      have RF := Lib.hid rf
      have TF := Lib.hid (Lv2.of (by assumption))
      have L1 := one0_len D1
      have L2 := one0_len D2
      have q1 := K1.out
      have q2 := K2.out
      have q3 := K3.out
      have q4 := K4.out
      clear rc re rd rf bc be bd bf x1 x2 x3 x4 x5 x6 TB
      obtain ⟨x1, x2, x3, x4, x5, x6, _⟩ := TF.out.cells
      by_cases hs : s1 = s2
      · have hsb : (s1 == s2) = true := beq_iff_eq.2 hs
        have HS := Lib.hid hs
        clear hs
        go_wp2_with fail
        refine (rMul N1 (one0 D2) _ _ _ _ _ RA.out RF.out (by omega) (by omega)).mono ?_
        rintro e wg ⟨Ag, cg, rfl, rg, bg⟩
        have RG := Lib.hid rg
        have RB := Lib.hid (RB.out.below bg)
        have RE := Lib.hid (RE.out.below bg)
        have BG := Lib.hid (below_step TF.out.bel TF.out.bel.size bg)
        clear rg bg x1 x2 x3 x4 x5 x6
        go_wp2_with fail
        refine (rMul N2 (one0 D1) _ _ _ _ _ RB.out RE.out (by omega) (by omega)).mono ?_
        rintro e wh ⟨Ah, ch, rfl, rh, bh⟩
        have RH := Lib.hid rh
        have RG := Lib.hid (RG.out.below bh)
        have BH := Lib.hid (below_step BG.out BG.out.size bh)
        clear rh bh
        go_wp2_with fail
        refine (rCmp _ _ _ _ _ _ _ RG.out RH.out).mono ?_
        rintro e wi ⟨rfl, bi⟩
        have BI := Lib.hid (below_step BH.out BH.out.size bi)
        have hcz := cmpI_zero (N1 * one0 D2) (N2 * one0 D1)
        clear bi
        go_wp2
        go_ret
        refine ⟨ret_bool ?_, BI.out⟩
        rw [Bool.eq_iff_iff, decide_eq_true_eq, decide_eq_true_eq, HE.out]
        exact ⟨fun h => ⟨HS.out, h⟩, fun h => h.2⟩
      · have hsb : (s1 == s2) = false := beq_eq_false_iff_ne.2 hs
        have HS := Lib.hid hs
        clear hs
        go_wp2
        go_ret
        refine ⟨ret_bool ?_, TF.out.bel⟩
        rw [decide_eq_false (fun h => HS.out (HE.out.1 h).1)]
theorem rEqualQ (q : Rat) (w : World) (v1 v2 : Value) (h1 : GrQ w v1 q) (h2 : GrQ w v2 q) (k1 : (W q.num.natAbs).length ≤ 1000) (k2 : (W q.den).length ≤ 1000) :
    Calls Tryd.prog 52 #[v1, v2] w fun e w' => e = .returned (.bool true) ∧ Below w.heap.size w w' := by
  obtain ⟨A1, c1, A2, c2, rfl, r1, r2⟩ := h1
  obtain ⟨A3, c3, A4, c4, rfl, r3, r4⟩ := h2
  have kd : (DW q.den).length ≤ 1000 := Nat.le_trans (DW_length _) k2
  refine (rEqual (ng q) _ _ q.num.natAbs (dwv q.den) (ng q) _ _ q.num.natAbs (dwv q.den) w _ _ _ _ _ _ _ _ r1 r2 r3 r4 (ok_W _) (ok_DW _) (ok_W _) (ok_DW _) (val_W _) (val_DW _) (val_W _) (val_DW _) (by omega) (by omega) (by omega) (by omega)).mono ?_
  rintro e w' ⟨rfl, hb⟩
  exact ⟨by simp, hb⟩
end Go.Proofs.YtfmhplcpejmkhabDoor

namespace Go.Proofs.YtfmhplcpejmkhabDoor
open Go.RowKit Dig
set_option linter.unusedVariables false
set_option linter.unusedSimpArgs false
set_option maxRecDepth 100000 in
theorem lIs_err (k : Nat) (hk : 0 < k) (hk2 : k < 1000) (w : World) (v2 : Value) (h2 : ∃ s A n c A' n' c', v2 = .agg #[.bool s, .slice A n c, .slice A' n' c']) :
    Calls Tryd.prog 16 #[noRat, .int .i64 k, v2, .int .i64 k] w fun e w' => e = .returned (.bool true) ∧ Below w.heap.size w w' := by
  obtain ⟨s, A, n, c, A', n', c', rfl⟩ := h2
  have hz : ((k : Int) != 0) = true := by rw [bne_iff_ne]; omega
  have hz1 : ((k : Int) == 0) = false := by rw [beq_eq_false_iff_ne]; omega
  have hb := Lib.hid (below_alloc2 w (.bool false) (.slice none 0 0) (.slice none 0 0) (.bool s) (.slice A n c) (.slice A' n' c') 24 24)
  have e : noRat = .agg #[.bool false, .slice none 0 0, .slice none 0 0] := rfl
  rw [e]
  clear e
  go_enter Tryd.func16, Tryd.ntmps16
  go_wp2_with fail
  refine (lNone _).mono ?_
  rintro e w1 ⟨rfl, b1⟩
  have B1 := Lib.hid (below_step hb.out hb.out.size b1)
  clear b1
  go_wp2
  go_ret
  exact ⟨rfl, B1.out⟩
set_option maxRecDepth 100000 in
theorem lIs_ok (q : Rat) (w : World) (v1 v2 : Value) (h1 : GrQ w v1 q) (h2 : GrQ w v2 q) (k1 : (W q.num.natAbs).length ≤ 1000) (k2 : (W q.den).length ≤ 1000) :
    Calls Tryd.prog 16 #[v1, .int .i64 0, v2, .int .i64 0] w fun e w' => e = .returned (.bool true) ∧ Below w.heap.size w w' := by
  have g1 := h1
  have g2 := h2
  obtain ⟨A1, c1, A2, c2, rfl, r1, r2⟩ := h1
  obtain ⟨A3, c3, A4, c4, rfl, r3, r4⟩ := h2
  have hb := below_alloc2 w (.bool (ng q)) (.slice A1 (W q.num.natAbs).length c1) (.slice A2 (DW q.den).length c2) (.bool (ng q)) (.slice A3 (W q.num.natAbs).length c3) (.slice A4 (DW q.den).length c4) 24 24
  have T := Lib.hid (Lv2.start (s1 := ng q) (s2 := ng q) r1 r2 r3 r4)
  have G1 := Lib.hid (g1.below hb)
  have G2 := Lib.hid (g2.below hb)
  have HB := Lib.hid hb
  clear g1 g2 hb r1 r2 r3 r4
  go_enter Tryd.func16, Tryd.ntmps16
  go_wp2_with fail
  refine (rCanonical q _ _ _ _ _ T.out.r1 T.out.r2 k1 k2).mono ?_
  rintro e w1 ⟨rfl, b1⟩
  have TA := Lib.hid (T.out.below b1)
  have G1 := Lib.hid (G1.out.below b1)
  have G2 := Lib.hid (G2.out.below b1)
  have HB := Lib.hid (below_step HB.out HB.out.size b1)
  clear b1 T
  obtain ⟨x1, x2, x3, x4, x5, x6, _⟩ := TA.out.cells
  go_wp2_with fail
  refine (rEqualQ q _ _ _ G1.out G2.out k1 k2).mono ?_
  rintro e w2 ⟨rfl, b2⟩
  have HB := Lib.hid (below_step HB.out HB.out.size b2)
  clear b2
  go_wp2
  go_ret
  exact ⟨rfl, HB.out⟩
end Go.Proofs.YtfmhplcpejmkhabDoor

namespace Go.Proofs.YtfmhplcpejmkhabDoor
open Go.RowKit Dig
set_option linter.unusedVariables false
set_option linter.unusedSimpArgs false
/-- a result: a number, or an error -/
inductive Out where
  | ok (q : Rat)
  | err (k : Nat)
/-- a number that is not large, or ErrSize -/
def give (q : Rat) : Out := if fitQ q then .ok q else .err 1
/-- the value u with the error k is the result o -/
def OutIs (w : World) (o : Out) (u : Value) (k : Int) : Prop :=
  match o with
  | .ok q => k = 0 ∧ GrQ w u q ∧ fitQ q
  | .err j => k = j ∧ u = noRat ∧ 0 < j ∧ j < 1000
def OutPost (w : World) (o : Out) (e : Ending) (w' : World) : Prop :=
  ∃ s A n c A' n' c' k, e = .returned (.tuple #[.agg #[.bool s, .slice A n c, .slice A' n' c'], .int .i64 k]) ∧ OutIs w' o (.agg #[.bool s, .slice A n c, .slice A' n' c']) k ∧ Below w.heap.size w w'
theorem OutIs.below {w w' : World} {o : Out} {u : Value} {k : Int} (h : OutIs w o u k) (hb : Below w.heap.size w w') : OutIs w' o u k := by
  cases o with
  | ok q => exact ⟨h.1, h.2.1.below hb, h.2.2⟩
  | err j => exact h
theorem OutPost.of_give {w w' : World} {q : Rat} {e : Ending} (h : GivePost w q e w') : OutPost w (give q) e w' := by
  unfold give
  rcases h with ⟨hf, v, he, hg, hb⟩ | ⟨hf, he, hb⟩
  · obtain ⟨A1, c1, A2, c2, rfl, r1, r2⟩ := hg
    rw [if_pos hf]
    exact ⟨_, _, _, _, _, _, _, _, he, ⟨rfl, ⟨_, _, _, _, rfl, r1, r2⟩, hf⟩, hb⟩
  · rw [if_neg hf]
    exact ⟨_, _, _, _, _, _, _, _, he, ⟨rfl, rfl, by omega, by omega⟩, hb⟩
theorem OutPost.err {w w' : World} {j : Nat} {e : Ending} (he : e = .returned (.tuple #[noRat, .int .i64 j])) (h0 : 0 < j) (h1 : j < 1000) (hb : Below w.heap.size w w') : OutPost w (.err j) e w' :=
  ⟨_, _, _, _, _, _, _, _, he, ⟨rfl, rfl, h0, h1⟩, hb⟩
theorem OutPost.step {w0 w w' : World} {o : Out} {e : Ending} (h : OutPost w o e w') (hb : Below w0.heap.size w0 w) : OutPost w0 o e w' := by
  obtain ⟨s, A, n, c, A', n', c', k, he, ho, hb2⟩ := h
  exact ⟨s, A, n, c, A', n', c', k, he, ho, below_step hb hb.size hb2⟩
/-- Is holds of two results that are the same -/
theorem lIs_out (o : Out) (w : World) (s1 : Bool) (A1 : Option Addr) (n1 c1 : Nat) (B1 : Option Addr) (m1 d1 : Nat) (s2 : Bool) (A2 : Option Addr) (n2 c2 : Nat) (B2 : Option Addr) (m2 d2 : Nat) (k1 k2 : Int)
    (h1 : OutIs w o (.agg #[.bool s1, .slice A1 n1 c1, .slice B1 m1 d1]) k1) (h2 : OutIs w o (.agg #[.bool s2, .slice A2 n2 c2, .slice B2 m2 d2]) k2) :
    Calls Tryd.prog 16 #[.agg #[.bool s1, .slice A1 n1 c1, .slice B1 m1 d1], .int .i64 k1, .agg #[.bool s2, .slice A2 n2 c2, .slice B2 m2 d2], .int .i64 k2] w fun e w' => e = .returned (.bool true) ∧ Below w.heap.size w w' := by
  cases o with
  | ok q =>
    obtain ⟨rfl, g1, f1⟩ := h1
    obtain ⟨rfl, g2, _⟩ := h2
    exact lIs_ok q w _ _ g1 g2 (by have := f1.1; omega) (by have := f1.2; omega)
  | err j =>
    obtain ⟨rfl, e1, j0, j1⟩ := h1
    obtain ⟨rfl, _, _, _⟩ := h2
    rw [e1]
    exact lIs_err j j0 j1 w _ ⟨_, _, _, _, _, _, _, rfl⟩
/-- a value as it comes in -/
def RawV (w : World) (v : Value) (s : Bool) (N D : Nat) : Prop :=
  ∃ A1 c1 l1 A2 c2 l2, v = .agg #[.bool s, .slice A1 l1.length c1, .slice A2 l2.length c2] ∧ Rd w A1 c1 l1 ∧ Rd w A2 c2 l2 ∧ Ok B32 l1 ∧ Ok B32 l2 ∧ val B32 l1 = N ∧ val B32 l2 = D ∧ l1.length ≤ 1048575 ∧ l2.length ≤ 1048575
theorem RawV.below {w w' : World} {v : Value} {s : Bool} {N D : Nat} (h : RawV w v s N D) (hb : Below w.heap.size w w') : RawV w' v s N D := by
  obtain ⟨A1, c1, l1, A2, c2, l2, e, r1, r2, rest⟩ := h
  exact ⟨A1, c1, l1, A2, c2, l2, e, r1.below hb, r2.below hb, rest⟩
theorem RawV.shape {w : World} {v : Value} {s : Bool} {N D : Nat} (h : RawV w v s N D) : ∃ A n c A' n' c', v = .agg #[.bool s, .slice A n c, .slice A' n' c'] := by
  obtain ⟨A1, c1, l1, A2, c2, l2, e, _⟩ := h
  exact ⟨_, _, _, _, _, _, e⟩
theorem GrQ.raw {w : World} {v : Value} {q : Rat} (h : GrQ w v q) (hf : fitQ q) : RawV w v (ng q) q.num.natAbs (dwv q.den) := by
  obtain ⟨A1, c1, A2, c2, e, r1, r2⟩ := h
  have h1 := hf.1
  have h2 := hf.2
  have h3 := DW_length q.den
  exact ⟨A1, c1, _, A2, c2, _, e, r1, r2, ok_W _, ok_DW _, val_W _, val_DW _, by omega, by omega⟩
theorem large_self {q : Rat} (h : fitQ q) : largeB (ng q) q.num.natAbs (dwv q.den) = false := by
  have h1 := h.1
  have h2 := h.2
  have h3 := DW_length q.den
  rw [DW_dwv] at h3
  unfold largeB
  rw [ratOf_self, decide_eq_true ⟨by omega, by omega, h⟩]
  rfl
theorem readV (v : Value) (s : Bool) (N D : Nat) (w : World) (h : RawV w v s N D) (hT : Tab w) :
    Calls Tryd.prog 53 #[v] w fun e w' => ∃ t A n c A' n' c', e = .returned (.tuple #[.agg #[.bool t, .slice A n c, .slice A' n' c'], .bool (!largeB s N D)]) ∧
      Hid (largeB s N D = false → IsF w' (.agg #[.bool t, .slice A n c, .slice A' n' c']) (ratOf s N D)) ∧ Below w.heap.size w w' := by
  obtain ⟨A1, c1, l1, A2, c2, l2, rfl, r1, r2, o1, o2, v1, v2, z1, z2⟩ := h
  refine (readRaw s l1 l2 w A1 A2 c1 c2 r1 r2 N D (strip_W o1 v1) (strip_W o2 v2) hT).mono ?_
  rintro e w' ⟨u, b, rfl, ⟨t, A, n, c, A', n', c', rfl⟩, hb, hf, hbel⟩
  have e : b = !largeB s N D := by
    rw [Bool.eq_iff_iff, hb]
    unfold largeB
    simp
  subst e
  exact ⟨t, A, n, c, A', n', c', rfl, fun hl => hf (by rw [hl]; rfl), hbel⟩
theorem giveF (v : Value) (q : Rat) (w : World) (h : IsF w v q) : Calls Tryd.prog 57 #[v] w (OutPost w (give q)) := by
  obtain ⟨A1, c1, A2, c2, rfl, r1, r2⟩ := h
  refine (fracGive _ _ _ w _ _ _ _ r1 r2).mono ?_
  rintro e w' h
  refine OutPost.of_give ?_
  rcases h with ⟨h1, h2, v, he, hg, hb⟩ | ⟨h1, he, hb⟩
  · exact Or.inl ⟨⟨h1, h2⟩, v, he, hg, hb⟩
  · exact Or.inr ⟨h1, he, hb⟩
theorem largeV (v : Value) (s : Bool) (N D : Nat) (w : World) (h : RawV w v s N D) :
    Calls Tryd.prog 23 #[v] w fun e w' => e = .returned (.bool (largeB s N D)) ∧ Below w.heap.size w w' := by
  obtain ⟨A1, c1, l1, A2, c2, l2, rfl, r1, r2, o1, o2, v1, v2, z1, z2⟩ := h
  exact rLarge s l1 l2 N D w A1 A2 c1 c2 r1 r2 o1 o2 v1 v2 (by omega) (by omega)
theorem largeB_false {s : Bool} {N D : Nat} (h : largeB s N D = false) : (W N).length ≤ 256 ∧ (W D).length ≤ 256 ∧ fitQ (ratOf s N D) := by
  unfold largeB at h
  simpa using h
theorem ofV (v : Value) (s : Bool) (N D : Nat) (w : World) (h : RawV w v s N D) (hl : largeB s N D = false) :
    Calls Tryd.prog 25 #[v] w fun e w' => ∃ A1 c1 A2 c2, e = .returned (.agg #[.bool (ng (ratOf s N D)), .slice A1 (R (ratOf s N D).num.natAbs).length c1, .slice A2 (R (ratOf s N D).den).length c2]) ∧ Rd w' A1 c1 (R (ratOf s N D).num.natAbs) ∧ Rd w' A2 c2 (R (ratOf s N D).den) ∧ Below w.heap.size w w' := by
  obtain ⟨h1, h2, _⟩ := largeB_false hl
  obtain ⟨A1, c1, l1, A2, c2, l2, rfl, r1, r2, o1, o2, v1, v2, z1, z2⟩ := h
  refine (rOf s l1 l2 N D w A1 A2 c1 c2 r1 r2 o1 o2 v1 v2 (by omega) (by omega) (by have := R_of_W h1; omega) (by have := R_of_W h2; omega)).mono ?_
  rintro e w' ⟨u, rfl, ⟨B1, b1, B2, b2, rfl, hB1, hB2⟩, hb⟩
  exact ⟨_, _, _, _, rfl, hB1, hB2, hb⟩
end Go.Proofs.YtfmhplcpejmkhabDoor

namespace Go.Proofs.YtfmhplcpejmkhabDoor
open Go.RowKit Dig
set_option linter.unusedVariables false
set_option linter.unusedSimpArgs false
theorem Res.new {w : World} (t : TypeId) : Res (w.alloc (.cells #[.bool false, .slice none 0 0, .slice none 0 0] t)) w.heap.size t := ⟨_, _, _, NI.bool _, NI.slice _ _ _, NI.slice _ _ _, Box.new _ _ _ _ _⟩
/-- a result that has been stored in its variable -/
theorem OutIs.stored {w M : World} {o : Out} {g : Nat} {t : TypeId} {s : Bool} {A1 A2 : Option Addr} {n1 c1 n2 c2 : Nat} {k : Int} (h : OutIs M o (.agg #[.bool s, .slice A1 n1 c1, .slice A2 n2 c2]) k) (hr : Res M g t) (hb : Below w.heap.size w M) (hg : w.heap.size ≤ g) :
    let M' := ((M.setCell ⟨g, 0, none⟩ (.bool s)).setCell ⟨g, 1, none⟩ (.slice A1 n1 c1)).setCell ⟨g, 2, none⟩ (.slice A2 n2 c2)
    M'.cell? ⟨g, 0, none⟩ = some (.bool s) ∧ M'.cell? ⟨g, 1, none⟩ = some (.slice A1 n1 c1) ∧ M'.cell? ⟨g, 2, none⟩ = some (.slice A2 n2 c2) ∧
    OutIs M' o (.agg #[.bool s, .slice A1 n1 c1, .slice A2 n2 c2]) k ∧ Below w.heap.size w M' := by
  intro M'
  obtain ⟨x, y, z, hx, hy, hz, hbx⟩ := hr
  obtain ⟨q0, q1, q2, _, _, _⟩ := (hbx.set3 (.bool s) (.slice A1 n1 c1) (.slice A2 n2 c2)).cells
  refine ⟨q0, q1, q2, ?_, below_set3 hb hg _ _ _⟩
  cases o with
  | ok q =>
    obtain ⟨h1, ⟨B1, b1, B2, b2, e, r1, r2⟩, h3⟩ := h
    simp only [Value.agg.injEq, Array.mk.injEq, List.cons.injEq, Value.bool.injEq, Value.slice.injEq, and_true] at e
    obtain ⟨rfl, ⟨rfl, rfl, rfl⟩, rfl, rfl, rfl⟩ := e
    exact ⟨h1, ⟨_, _, _, _, rfl, r1.grown_box hbx hx hy hz (grown_set3 _ _ _ _ _), r2.grown_box hbx hx hy hz (grown_set3 _ _ _ _ _)⟩, h3⟩
  | err j => exact h
theorem start2 (w : World) (x y z x' y' z' x2 y2 z2 : Value) (t t' t2 : TypeId) : ∃ M, M = (((w.alloc (.cells #[x, y, z] t)).alloc (.cells #[x', y', z'] t')).alloc (.cells #[x2, y2, z2] t2)) ∧
    Box M w.heap.size x y z t ∧ Box M (w.heap.size + 1) x' y' z' t' ∧ Box M (w.heap.size + 1 + 1) x2 y2 z2 t2 ∧ Below w.heap.size w M := by
  refine ⟨_, rfl, ?_⟩
  have b1 := below_alloc w (.cells #[x, y, z] t)
  have k1 := Box.new w x y z t
  have z1 : (w.alloc (.cells #[x, y, z] t)).heap.size = w.heap.size + 1 := by simp
  generalize w.alloc (.cells #[x, y, z] t) = w1 at *
  have b2 := below_alloc w1 (.cells #[x', y', z'] t')
  have k2 := Box.new w1 x' y' z' t'
  have z2' : (w1.alloc (.cells #[x', y', z'] t')).heap.size = w1.heap.size + 1 := by simp
  generalize w1.alloc (.cells #[x', y', z'] t') = w2 at *
  have b3 := below_alloc w2 (.cells #[x2, y2, z2] t2)
  have k3 := Box.new w2 x2 y2 z2 t2
  rw [z1] at k2
  rw [z2', z1] at k3
  have b13 : Below w1.heap.size w1 (w2.alloc (.cells #[x2, y2, z2] t2)) := below_step b2 b2.size b3
  exact ⟨k1.below b13, k2.below b3, k3, below_step b1 b1.size b13⟩
theorem start1 (w : World) (x y z x2 y2 z2 : Value) (t t2 : TypeId) : ∃ M, M = ((w.alloc (.cells #[x, y, z] t)).alloc (.cells #[x2, y2, z2] t2)) ∧
    Box M w.heap.size x y z t ∧ Box M (w.heap.size + 1) x2 y2 z2 t2 ∧ Below w.heap.size w M := by
  refine ⟨_, rfl, ?_⟩
  have b1 := below_alloc w (.cells #[x, y, z] t)
  have k1 := Box.new w x y z t
  have z1 : (w.alloc (.cells #[x, y, z] t)).heap.size = w.heap.size + 1 := by simp
  generalize w.alloc (.cells #[x, y, z] t) = w1 at *
  have b2 := below_alloc w1 (.cells #[x2, y2, z2] t2)
  have k2 := Box.new w1 x2 y2 z2 t2
  rw [z1] at k2
  exact ⟨k1.below b2, k2, below_step b1 b1.size b2⟩
set_option maxHeartbeats 4000000 in
set_option maxRecDepth 100000 in
theorem nTwo (fn : Nat) (q : Rat) (s1 : Bool) (N1 D1 : Nat) (s2 : Bool) (N2 D2 : Nat) (w : World) (v1 v2 : Value) (h1 : RawV w v1 s1 N1 D1) (h2 : RawV w v2 s2 N2 D2) (hT : Tab w)
    (hf : ∀ (args : Array Value) (w : World), Sem.run Tryd.prog (callFunc fn args) w = .ok (.enter fn args) w)
    (hdo : ∀ (w : World) (u1 u2 : Value), IsF w u1 (ratOf s1 N1 D1) → IsF w u2 (ratOf s2 N2 D2) → fitQ (ratOf s1 N1 D1) → fitQ (ratOf s2 N2 D2) → Tab w → Calls Tryd.prog fn #[u1, u2] w fun e w' => ∃ u, e = .returned u ∧ IsF w' u q ∧ Below w.heap.size w w') :
    Calls Tryd.prog 76 #[v1, v2, .func (.func fn) #[] #[]] w (OutPost w (if largeB s1 N1 D1 || largeB s2 N2 D2 then .err 1 else give q)) := by
  have HDO := Lib.hid hdo
  have H1 := Lib.hid h1
  have H2 := Lib.hid h2
  have HT := Lib.hid hT
  obtain ⟨A1, n1, c1, A1', n1', c1', rfl⟩ := h1.shape
  obtain ⟨A2, n2, c2, A2', n2', c2', rfl⟩ := h2.shape
  clear h1 h2 hT hdo
  obtain ⟨M, hM, k1, k2, k3, bM⟩ := start2 w (.bool s1) (.slice A1 n1 c1) (.slice A1' n1' c1') (.bool s2) (.slice A2 n2 c2) (.slice A2' n2' c2') (.bool false) (.slice none 0 0) (.slice none 0 0) 24 24 24
  have HX := Lib.hid k1
  have HY := Lib.hid k2
  have HR := Lib.hid (show Res M (w.heap.size + 1 + 1) 24 from ⟨_, _, _, NI.bool _, NI.slice _ _ _, NI.slice _ _ _, k3⟩)
  have BM := Lib.hid bM
  replace H1 := Lib.hid (H1.out.below bM)
  replace H2 := Lib.hid (H2.out.below bM)
  replace HT := Lib.hid (HT.out.below bM)
  obtain ⟨L1, hL1⟩ : ∃ L, largeB s1 N1 D1 = L := ⟨_, rfl⟩
  obtain ⟨L2, hL2⟩ : ∃ L, largeB s2 N2 D2 = L := ⟨_, rfl⟩
  have HL1 := Lib.hid hL1
  have HL2 := Lib.hid hL2
  rw [hL1, hL2]
  obtain ⟨o, ho⟩ : ∃ o, (if (L1 || L2) = true then Out.err 1 else give q) = o := ⟨_, rfl⟩
  have HO := Lib.hid ho
  rw [ho]
  clear hL1 hL2 k1 k2 k3 bM ho
  go_enter Tryd.func76, Tryd.ntmps76
  go_upto_region 1 with (fail)
  rw [← hM]
  clear hM
  obtain ⟨x1, x2, x3, _, _, _⟩ := HX.out.cells
  go_wp2_with fail
  refine (readV _ s1 N1 D1 _ H1.out HT.out).mono ?_
  rw [HL1.out]
  rintro e wa ⟨t1, B1, m1, d1, B1', m1', d1', rfl, f1, ba⟩
  have bb := below_step ba ba.size (below_alloc wa (.cells #[.bool t1, .slice B1 m1 d1, .slice B1' m1' d1'] 65))
  have HF1 := Lib.hid (Box.new wa (.bool t1) (.slice B1 m1 d1) (.slice B1' m1' d1') 65)
  have F1 : Hid (L1 = false → IsF (wa.alloc (.cells #[.bool t1, .slice B1 m1 d1, .slice B1' m1' d1'] 65)) (.agg #[.bool t1, .slice B1 m1 d1, .slice B1' m1' d1']) (ratOf s1 N1 D1)) := Lib.hid (fun h => (f1.out h).below (below_alloc _ _))
  replace HX := Lib.hid (HX.out.below bb)
  replace HY := Lib.hid (HY.out.below bb)
  replace HR := Lib.hid (HR.out.below bb)
  replace H2 := Lib.hid (H2.out.below bb)
  replace HT := Lib.hid (HT.out.below bb)
  have BM := Lib.hid (below_step BM.out BM.out.size bb)
  obtain ⟨w1, hw1⟩ : ∃ w1, wa.alloc (.cells #[.bool t1, .slice B1 m1 d1, .slice B1' m1' d1'] 65) = w1 := ⟨_, rfl⟩
  clear x1 x2 x3 ba bb f1
  go_upto_region 2 with (fail)
  rw [hw1] at HX HY HR H2 HT BM HF1 F1
  try rw [hw1]
  clear hw1
  obtain ⟨y1, y2, y3, _, _, _⟩ := HY.out.cells
  go_wp2_with fail
  refine (readV _ s2 N2 D2 _ H2.out HT.out).mono ?_
  rw [HL2.out]
  rintro e wc ⟨t2, B2, m2, d2, B2', m2', d2', rfl, f2, bc⟩
  have bd := below_step bc bc.size (below_alloc wc (.cells #[.bool t2, .slice B2 m2 d2, .slice B2' m2' d2'] 65))
  have HF2 := Lib.hid (Box.new wc (.bool t2) (.slice B2 m2 d2) (.slice B2' m2' d2') 65)
  have F2 : Hid (L2 = false → IsF (wc.alloc (.cells #[.bool t2, .slice B2 m2 d2, .slice B2' m2' d2'] 65)) (.agg #[.bool t2, .slice B2 m2 d2, .slice B2' m2' d2']) (ratOf s2 N2 D2)) := Lib.hid (fun h => (f2.out h).below (below_alloc _ _))
  have F1 : Hid (L1 = false → IsF (wc.alloc (.cells #[.bool t2, .slice B2 m2 d2, .slice B2' m2' d2'] 65)) (.agg #[.bool t1, .slice B1 m1 d1, .slice B1' m1' d1']) (ratOf s1 N1 D1)) := Lib.hid (fun h => (F1.out h).below bd)
  replace HF1 := Lib.hid (HF1.out.below bd)
  replace HR := Lib.hid (HR.out.below bd)
  replace HT := Lib.hid (HT.out.below bd)
  have BM := Lib.hid (below_step BM.out BM.out.size bd)
  obtain ⟨w2, hw2⟩ : ∃ w2, wc.alloc (.cells #[.bool t2, .slice B2 m2 d2, .slice B2' m2' d2'] 65) = w2 := ⟨_, rfl⟩
  clear y1 y2 y3 bc bd f2
  go_upto_region 3 with (fail)
  rw [hw2] at HF1 HF2 HR HT BM F1 F2
  try rw [hw2]
  clear hw2
  obtain ⟨r1, r2, r3, hr1, hr2, hr3, _, _, _⟩ := HR.out.cells
  have errs : ∀ (hL : (L1 || L2) = true), OutPost w o (.returned (.tuple #[noRat, .int .i64 1])) (((w2.setCell ⟨w.heap.size + 1 + 1, 0, none⟩ (.bool false)).setCell ⟨w.heap.size + 1 + 1, 1, none⟩ (.slice none 0 0)).setCell ⟨w.heap.size + 1 + 1, 2, none⟩ (.slice none 0 0)) := by
    intro hL
    have := HO.out
    rw [if_pos hL] at this
    rw [← this]
    exact OutPost.err rfl (by omega) (by omega) (below_set3 BM.out (by omega) _ _ _)
  have ERRS := Lib.hid errs
  obtain ⟨q0, q1, q2, _, _⟩ := OutIs.stored (o := .err 1) (k := 1) (s := false) (A1 := none) (A2 := none) (n1 := 0) (c1 := 0) (n2 := 0) (c2 := 0) ⟨rfl, rfl, by omega, by omega⟩ HR.out BM.out (by omega)
  have Q := Lib.hid (And.intro q0 (And.intro q1 q2))
  clear errs q0 q1 q2
  rcases L1 with _ | _
  · rcases L2 with _ | _
    · clear ERRS Q
      obtain ⟨i1, i2, i3, _, _, _⟩ := HF1.out.cells
      obtain ⟨j1, j2, j3, _, _, _⟩ := HF2.out.cells
      go_wp2_with fail
      refine (HDO.out _ _ _ (F1.out (by simp)) (F2.out (by simp)) (largeB_false HL1.out).2.2 (largeB_false HL2.out).2.2 HT.out).mono ?_
      rintro e wd ⟨u, rfl, hu, bd⟩
      have HU := Lib.hid hu
      obtain ⟨C1, e1, C2, e2, rfl, _, _⟩ := hu
      replace HR := Lib.hid (HR.out.below bd)
      have BD := Lib.hid (below_step BM.out BM.out.size bd)
      clear bd hr1 hr2 hr3 i1 i2 i3 j1 j2 j3
      go_wp2_with fail
      refine (giveF _ q _ HU.out).mono ?_
      rintro e we ⟨s9, A9, n9, c9, A9', n9', c9', k9, rfl, h9, b9⟩
      replace HR := Lib.hid (HR.out.below b9)
      have BE := Lib.hid (below_step BD.out BD.out.size b9)
      obtain ⟨q0, q1, q2, hs, hb⟩ := OutIs.stored h9 HR.out BE.out (by omega)
      have Q := Lib.hid (And.intro q0 (And.intro q1 q2))
      have HS := Lib.hid hs
      have HB := Lib.hid hb
      clear b9 h9 q0 q1 q2 hs hb
      obtain ⟨r1, r2, r3, hr1, hr2, hr3, _, _, _⟩ := HR.out.cells
      go_wp2_with fail
      obtain ⟨q0, q1, q2⟩ := Q.out
      refine bodyPost_ret (v := .tuple #[.agg #[.bool s9, .slice A9 n9 c9, .slice A9' n9' c9'], .int .i64 k9]) (by simp [results, Tryd.results76, go_sem, q0, q1, q2]) rfl ?_
      have := HO.out
      simp only [Bool.or_self, Bool.false_eq_true, if_false] at this
      rw [← this]
      exact ⟨_, _, _, _, _, _, _, _, rfl, HS.out, HB.out⟩
    · go_wp2_with fail
      obtain ⟨q0, q1, q2⟩ := Q.out
      refine bodyPost_ret (v := .tuple #[noRat, .int .i64 1]) (by simp [results, Tryd.results76, go_sem, q0, q1, q2, noRat]) rfl (ERRS.out (by simp))
  · go_wp2_with fail
    obtain ⟨q0, q1, q2⟩ := Q.out
    refine bodyPost_ret (v := .tuple #[noRat, .int .i64 1]) (by simp [results, Tryd.results76, go_sem, q0, q1, q2, noRat]) rfl (ERRS.out (by simp))
set_option maxHeartbeats 4000000 in
set_option maxRecDepth 100000 in
theorem nOne (fn : Nat) (q : Rat) (s1 : Bool) (N1 D1 : Nat) (w : World) (v1 : Value) (h1 : RawV w v1 s1 N1 D1) (hT : Tab w)
    (hf : ∀ (args : Array Value) (w : World), Sem.run Tryd.prog (callFunc fn args) w = .ok (.enter fn args) w)
    (hdo : ∀ (w : World) (u1 : Value), IsF w u1 (ratOf s1 N1 D1) → fitQ (ratOf s1 N1 D1) → Tab w → Calls Tryd.prog fn #[u1] w fun e w' => ∃ u, e = .returned u ∧ IsF w' u q ∧ Below w.heap.size w w') :
    Calls Tryd.prog 64 #[v1, .func (.func fn) #[] #[]] w (OutPost w (if largeB s1 N1 D1 then .err 1 else give q)) := by
  have HDO := Lib.hid hdo
  have H1 := Lib.hid h1
  have HT := Lib.hid hT
  obtain ⟨A1, n1, c1, A1', n1', c1', rfl⟩ := h1.shape
  clear h1 hT hdo
  obtain ⟨M, hM, k1, k3, bM⟩ := start1 w (.bool s1) (.slice A1 n1 c1) (.slice A1' n1' c1') (.bool false) (.slice none 0 0) (.slice none 0 0) 24 24
  have HX := Lib.hid k1
  have HR := Lib.hid (show Res M (w.heap.size + 1) 24 from ⟨_, _, _, NI.bool _, NI.slice _ _ _, NI.slice _ _ _, k3⟩)
  have BM := Lib.hid bM
  replace H1 := Lib.hid (H1.out.below bM)
  replace HT := Lib.hid (HT.out.below bM)
  obtain ⟨L1, hL1⟩ : ∃ L, largeB s1 N1 D1 = L := ⟨_, rfl⟩
  have HL1 := Lib.hid hL1
  rw [hL1]
  obtain ⟨o, ho⟩ : ∃ o, (if L1 = true then Out.err 1 else give q) = o := ⟨_, rfl⟩
  have HO := Lib.hid ho
  rw [ho]
  clear hL1 k1 k3 bM ho
  go_enter Tryd.func64, Tryd.ntmps64
  go_upto_region 1 with (fail)
  rw [← hM]
  clear hM
  obtain ⟨x1, x2, x3, _, _, _⟩ := HX.out.cells
  go_wp2_with fail
  refine (readV _ s1 N1 D1 _ H1.out HT.out).mono ?_
  rw [HL1.out]
  rintro e wa ⟨t1, B1, m1, d1, B1', m1', d1', rfl, f1, ba⟩
  have bb := below_step ba ba.size (below_alloc wa (.cells #[.bool t1, .slice B1 m1 d1, .slice B1' m1' d1'] 65))
  have HF1 := Lib.hid (Box.new wa (.bool t1) (.slice B1 m1 d1) (.slice B1' m1' d1') 65)
  have F1 : Hid (L1 = false → IsF (wa.alloc (.cells #[.bool t1, .slice B1 m1 d1, .slice B1' m1' d1'] 65)) (.agg #[.bool t1, .slice B1 m1 d1, .slice B1' m1' d1']) (ratOf s1 N1 D1)) := Lib.hid (fun h => (f1.out h).below (below_alloc _ _))
  replace HR := Lib.hid (HR.out.below bb)
  replace HT := Lib.hid (HT.out.below bb)
  have BM := Lib.hid (below_step BM.out BM.out.size bb)
  obtain ⟨w2, hw2⟩ : ∃ w2, wa.alloc (.cells #[.bool t1, .slice B1 m1 d1, .slice B1' m1' d1'] 65) = w2 := ⟨_, rfl⟩
  clear x1 x2 x3 ba bb f1
  go_upto_region 2 with (fail)
  rw [hw2] at HR HT BM HF1 F1
  try rw [hw2]
  clear hw2
  obtain ⟨r1, r2, r3, hr1, hr2, hr3, _, _, _⟩ := HR.out.cells
  have errs : ∀ (hL : L1 = true), OutPost w o (.returned (.tuple #[noRat, .int .i64 1])) (((w2.setCell ⟨w.heap.size + 1, 0, none⟩ (.bool false)).setCell ⟨w.heap.size + 1, 1, none⟩ (.slice none 0 0)).setCell ⟨w.heap.size + 1, 2, none⟩ (.slice none 0 0)) := by
    intro hL
    have := HO.out
    rw [if_pos hL] at this
    rw [← this]
    exact OutPost.err rfl (by omega) (by omega) (below_set3 BM.out (by omega) _ _ _)
  have ERRS := Lib.hid errs
  obtain ⟨q0, q1, q2, _, _⟩ := OutIs.stored (o := .err 1) (k := 1) (s := false) (A1 := none) (A2 := none) (n1 := 0) (c1 := 0) (n2 := 0) (c2 := 0) ⟨rfl, rfl, by omega, by omega⟩ HR.out BM.out (by omega)
  have Q := Lib.hid (And.intro q0 (And.intro q1 q2))
  clear errs q0 q1 q2
  rcases L1 with _ | _
  · clear ERRS Q
    obtain ⟨i1, i2, i3, _, _, _⟩ := HF1.out.cells
    go_wp2_with fail
    refine (HDO.out _ _ (F1.out (by simp)) (largeB_false HL1.out).2.2 HT.out).mono ?_
    rintro e wd ⟨u, rfl, hu, bd⟩
    have HU := Lib.hid hu
    obtain ⟨C1, e1, C2, e2, rfl, _, _⟩ := hu
    replace HR := Lib.hid (HR.out.below bd)
    have BD := Lib.hid (below_step BM.out BM.out.size bd)
    clear bd hr1 hr2 hr3 i1 i2 i3
    go_wp2_with fail
    refine (giveF _ q _ HU.out).mono ?_
    rintro e we ⟨s9, A9, n9, c9, A9', n9', c9', k9, rfl, h9, b9⟩
    replace HR := Lib.hid (HR.out.below b9)
    have BE := Lib.hid (below_step BD.out BD.out.size b9)
    obtain ⟨q0, q1, q2, hs, hb⟩ := OutIs.stored h9 HR.out BE.out (by omega)
    have Q := Lib.hid (And.intro q0 (And.intro q1 q2))
    have HS := Lib.hid hs
    have HB := Lib.hid hb
    clear b9 h9 q0 q1 q2 hs hb
    obtain ⟨r1, r2, r3, hr1, hr2, hr3, _, _, _⟩ := HR.out.cells
    go_wp2_with fail
    obtain ⟨q0, q1, q2⟩ := Q.out
    refine bodyPost_ret (v := .tuple #[.agg #[.bool s9, .slice A9 n9 c9, .slice A9' n9' c9'], .int .i64 k9]) (by simp [results, Tryd.results64, go_sem, q0, q1, q2]) rfl ?_
    have := HO.out
    simp only [Bool.false_eq_true, if_false] at this
    rw [← this]
    exact ⟨_, _, _, _, _, _, _, _, rfl, HS.out, HB.out⟩
  · go_wp2_with fail
    obtain ⟨q0, q1, q2⟩ := Q.out
    refine bodyPost_ret (v := .tuple #[noRat, .int .i64 1]) (by simp [results, Tryd.results64, go_sem, q0, q1, q2, noRat]) rfl (ERRS.out (by simp))
end Go.Proofs.YtfmhplcpejmkhabDoor

namespace Go.Proofs.YtfmhplcpejmkhabDoor
set_option linter.unusedVariables false
theorem rat_add (a b : Rat) : mkRat (sg (ng a) a.num.natAbs * b.den + sg (ng b) b.num.natAbs * a.den) (a.den * b.den) = a + b := by
  rw [sg_ng, sg_ng, Rat.add_def']
theorem sg_xor (s t : Bool) (n m : Nat) : sg (!s == t) (n * m) = sg s n * sg t m := by
  cases s <;> cases t <;> simp [sg] <;> grind
theorem rat_mul (a b : Rat) : mkRat (sg (!ng a == ng b) (a.num.natAbs * b.num.natAbs)) (a.den * b.den) = a * b := by
  rw [sg_xor, sg_ng, sg_ng, Rat.mul_def']
theorem ng_neg (q : Rat) : ng (-q) = (!ng q && !decide (q.num.natAbs = 0)) := by
  unfold ng
  rw [Rat.neg_num, Bool.eq_iff_iff]
  simp only [Bool.and_eq_true, Bool.not_eq_true', decide_eq_true_eq, decide_eq_false_iff_not]
  omega
theorem neg_abs (q : Rat) : (-q).num.natAbs = q.num.natAbs := by rw [Rat.neg_num]; omega
theorem neg_den (q : Rat) : (-q).den = q.den := Rat.neg_den q
theorem rat_sub (a b : Rat) : mkRat (sg (ng a) a.num.natAbs * b.den + sg (!ng b && !decide (b.num.natAbs = 0)) b.num.natAbs * a.den) (a.den * b.den) = a - b := by
  have := rat_add a (-b)
  rw [ng_neg, neg_abs, neg_den] at this
  rw [this, Rat.sub_eq_add_neg]
theorem rat_eq_mk (q : Rat) : q = mkRat q.num q.den := (Rat.mkRat_self q).symm
theorem mk_mul_den (n : Int) (d k : Nat) : mkRat n (d * k) = mkRat n d * mkRat 1 k := by
  rw [Rat.mkRat_mul_mkRat, Int.mul_one]
theorem two_inv : mkRat 1 2 = (2 : Rat)⁻¹ := by
  rw [Rat.mkRat_eq_div, Rat.div_def]
  exact Rat.one_mul _
theorem rat_half (q : Rat) : mkRat (sg (ng q) q.num.natAbs) (q.den * 2) = q / 2 := by
  rw [sg_ng, mk_mul_den, Rat.mkRat_self, Rat.div_def, two_inv]
theorem rat_div (a b : Rat) (hb : b ≠ 0) : mkRat (sg (!ng a == ng b) (a.num.natAbs * b.den)) (a.den * b.num.natAbs) = a / b := by
  have hn : b.num ≠ 0 := fun h => hb (Rat.num_eq_zero.1 h)
  have h2 : mkRat (sg (!ng a == ng b) (a.num.natAbs * b.den)) (a.den * b.num.natAbs) = a * mkRat (sg (ng b) b.den) b.num.natAbs := by
    conv => rhs; arg 1; rw [← mk_ng a]
    rw [Rat.mkRat_mul_mkRat, ← sg_xor]
  have h3 : mkRat (sg (ng b) b.den) b.num.natAbs = b⁻¹ := by
    rw [Rat.inv_def]
    unfold sg ng
    rcases Int.lt_or_le b.num 0 with h | h
    · obtain ⟨k, hk⟩ : ∃ k : Nat, b.num = -((k + 1 : Nat) : Int) := ⟨b.num.natAbs - 1, by omega⟩
      rw [hk]
      have e : (-((k + 1 : Nat) : Int)).natAbs = k + 1 := by omega
      rw [e, if_pos (by first | (simp; done) | (simp; omega)), Rat.divInt_neg', Rat.divInt_ofNat]
    · obtain ⟨k, hk⟩ : ∃ k : Nat, b.num = ((k + 1 : Nat) : Int) := ⟨b.num.natAbs - 1, by omega⟩
      rw [hk]
      have e : (((k + 1 : Nat) : Int)).natAbs = k + 1 := by omega
      rw [e, if_neg (by first | (simp; done) | (simp; omega)), Rat.divInt_ofNat]
  rw [h2, h3, Rat.div_def]
end Go.Proofs.YtfmhplcpejmkhabDoor

namespace Go.Proofs.YtfmhplcpejmkhabDoor
open Go.RowKit Dig
set_option linter.unusedVariables false
set_option linter.unusedSimpArgs false
/-- a number of at most k words on either side -/
def Wq (k : Nat) (q : Rat) : Prop := (W q.num.natAbs).length ≤ k ∧ (W q.den).length ≤ k
theorem fit_Wq {q : Rat} (h : fitQ q) {k : Nat} (hk : 64 ≤ k) : Wq k q := ⟨Nat.le_trans h.1 hk, Nat.le_trans h.2 hk⟩
theorem mk_Wq {s : Int} {d k : Nat} (hd : d ≠ 0) (h1 : (W s.natAbs).length ≤ k) (h2 : (W d).length ≤ k) : Wq k (mkRat s d) := by
  refine ⟨?_, ?_⟩
  · rw [Rat.num_mkRat, if_neg hd]
    refine Nat.le_trans (dig_length_mono B32_two ?_) h1
    rw [Int.natAbs_ediv_of_dvd (Int.ofNat_dvd_left.2 (by simpa using Nat.gcd_dvd_right _ _))]
    exact Nat.div_le_self _ _
  · rw [Rat.den_mkRat, if_neg hd]
    exact Nat.le_trans (dig_length_mono B32_two (Nat.div_le_self _ _)) h2
theorem Wq.add {a b : Rat} {k : Nat} (ha : Wq k a) (hb : Wq k b) : Wq (4 * k + 1) (a + b) := by
  rw [Rat.add_def']
  refine mk_Wq (Nat.mul_ne_zero a.den_nz b.den_nz) ?_ ?_
  · have h1 := W_mul_length a.num.natAbs b.den
    have h2 := W_mul_length b.num.natAbs a.den
    have h3 := W_add_length (a.num.natAbs * b.den) (b.num.natAbs * a.den)
    have h4 : (a.num * ↑b.den + b.num * ↑a.den).natAbs ≤ a.num.natAbs * b.den + b.num.natAbs * a.den := by
      refine Nat.le_trans (Int.natAbs_add_le _ _) ?_
      rw [Int.natAbs_mul, Int.natAbs_mul]; simp
    have h5 : (W (a.num * ↑b.den + b.num * ↑a.den).natAbs).length ≤ _ := dig_length_mono B32_two h4
    have := ha.1; have := ha.2; have := hb.1; have := hb.2
    unfold W at *
    omega
  · have := W_mul_length a.den b.den
    have := ha.2; have := hb.2
    omega
theorem fAdd (a b : Rat) (w : World) (v1 v2 : Value) (h1 : IsF w v1 a) (h2 : IsF w v2 b) (k1 : Wq 200000 a) (k2 : Wq 200000 b) (hT : Tab w) :
    Calls Tryd.prog 78 #[v1, v2] w fun e w' => ∃ u, e = .returned u ∧ IsF w' u (a + b) ∧ Below w.heap.size w w' := by
  obtain ⟨A1, c1, A2, c2, rfl, r1, r2⟩ := h1
  obtain ⟨A3, c3, A4, c4, rfl, r3, r4⟩ := h2
  have := fracAdd (ng a) a.num.natAbs a.den (ng b) b.num.natAbs b.den w _ _ _ _ _ _ _ _ r1 r2 r3 r4 k1.1 k1.2 k2.1 k2.2 a.den_nz b.den_nz hT
  rwa [rat_add] at this
theorem fMul (a b : Rat) (w : World) (v1 v2 : Value) (h1 : IsF w v1 a) (h2 : IsF w v2 b) (k1 : Wq 400000 a) (k2 : Wq 400000 b) (hT : Tab w) :
    Calls Tryd.prog 86 #[v1, v2] w fun e w' => ∃ u, e = .returned u ∧ IsF w' u (a * b) ∧ Below w.heap.size w w' := by
  obtain ⟨A1, c1, A2, c2, rfl, r1, r2⟩ := h1
  obtain ⟨A3, c3, A4, c4, rfl, r3, r4⟩ := h2
  have := fracMul (ng a) a.num.natAbs a.den (ng b) b.num.natAbs b.den w _ _ _ _ _ _ _ _ r1 r2 r3 r4 k1.1 k1.2 k2.1 k2.2 a.den_nz b.den_nz hT
  rwa [rat_mul] at this
theorem fNeg (a : Rat) (w : World) (v1 : Value) (h1 : IsF w v1 a) :
    Calls Tryd.prog 65 #[v1] w fun e w' => ∃ u, e = .returned u ∧ IsF w' u (-a) ∧ Below w.heap.size w w' := by
  obtain ⟨A1, c1, A2, c2, rfl, r1, r2⟩ := h1
  refine (fracOpposite (ng a) a.num.natAbs a.den w A1 A2 c1 c2).mono ?_
  rintro e w' ⟨rfl, hb⟩
  refine ⟨_, rfl, ⟨A1, c1, A2, c2, ?_, ?_, ?_⟩, hb⟩
  · rw [ng_neg, neg_abs, neg_den]
  · rw [neg_abs]; exact r1.below hb
  · rw [neg_den]; exact r2.below hb
end Go.Proofs.YtfmhplcpejmkhabDoor

namespace Go.Proofs.YtfmhplcpejmkhabDoor
open Go.RowKit Dig
set_option linter.unusedVariables false
set_option linter.unusedSimpArgs false
set_option maxHeartbeats 2000000 in
theorem fracSub (s1 : Bool) (n1 d1 : Nat) (s2 : Bool) (n2 d2 : Nat) (w : World) (A1 A2 A3 A4 : Option Addr) (c1 c2 c3 c4 : Nat) (h1 : Rd w A1 c1 (W n1)) (h2 : Rd w A2 c2 (W d1)) (h3 : Rd w A3 c3 (W n2)) (h4 : Rd w A4 c4 (W d2))
    (l1 : (W n1).length ≤ 200000) (l2 : (W d1).length ≤ 200000) (l3 : (W n2).length ≤ 200000) (l4 : (W d2).length ≤ 200000) (z1 : d1 ≠ 0) (z2 : d2 ≠ 0) (hT : Tab w) :
    Calls Tryd.prog 77 #[.agg #[.bool s1, .slice A1 (W n1).length c1, .slice A2 (W d1).length c2], .agg #[.bool s2, .slice A3 (W n2).length c3, .slice A4 (W d2).length c4]] w fun e w' => ∃ u, e = .returned u ∧ IsF w' u (mkRat (sg s1 n1 * d2 + sg (!s2 && !decide (n2 = 0)) n2 * d1) (d1 * d2)) ∧ Below w.heap.size w w' := by
  have T0 := Lib.hid (Two.start (s1 := s1) (s2 := s2) h1 h2 h3 h4 hT)
  have Z1 := Lib.hid z1
  have Z2 := Lib.hid z2
  clear h1 h2 h3 h4 z1 z2 hT
  obtain ⟨t2, ht2⟩ : ∃ t2, (!s2 && !decide (n2 = 0)) = t2 := ⟨_, rfl⟩
  have HT2 := Lib.hid ht2
  rw [ht2]
  obtain ⟨q, hq⟩ : ∃ q, mkRat (sg s1 n1 * d2 + sg t2 n2 * d1) (d1 * d2) = q := ⟨_, rfl⟩
  have HQ := Lib.hid hq
  rw [hq]
  clear hq ht2
  go_enter Tryd.func77, Tryd.ntmps77
  go_wp2_with fail
  go_region_held3 (fun W' => (World.cell? W' ⟨(w.heap.size), 0, none⟩ = some (.bool s1) ∧ World.cell? W' ⟨(w.heap.size), 1, none⟩ = some (.slice A1 (W n1).length c1) ∧ World.cell? W' ⟨(w.heap.size), 2, none⟩ = some (.slice A2 (W d1).length c2) ∧ World.cell? W' ⟨(w.heap.size + 1), 0, none⟩ = some (.bool s2) ∧ World.cell? W' ⟨(w.heap.size + 1), 1, none⟩ = some (.slice A3 (W n2).length c3) ∧ World.cell? W' ⟨(w.heap.size + 1), 2, none⟩ = some (.slice A4 (W d2).length c4) ∧ Hid (Two w W' (w.heap.size) (w.heap.size + 1) (w.heap.size + 1 + 1) s1 A1 c1 n1 A2 c2 d1 s2 A3 c3 n2 A4 c4 d2)))
    (with_reducible (first | assumption | exact T0.out.cells | exact Two.next (by assumption) (by assumption) | exact Two.nextS (by assumption)))
    (first
       | (go_at_call 65
          refine (fracOpposite _ _ _ _ _ _ _ _).mono ?_
          rw [HT2.out]
          rintro e wa ⟨rfl, ba⟩)
       | (go_at_call 78
          refine (fracAdd _ _ _ _ _ _ _ _ _ _ _ _ _ _ _ (Two.of (by assumption)).f.r1 (Two.of (by assumption)).f.r2 (Two.of (by assumption)).g.r1 (Two.of (by assumption)).g.r2 l1 l2 l3 l4 Z1.out Z2.out (Two.of (by assumption)).tab).mono ?_
          rw [HQ.out]
          rintro e we ⟨u, rfl, ⟨B1, b1, B2, b2, rfl, hB1, hB2⟩, be⟩
          have hh := (Two.of (by assumption)).below be
          obtain ⟨x, y, z, hx, hy, hz, k1, k2, k3⟩ := hh.res.cells))
  go_wp2
  obtain ⟨q0, q1, q2, r1, r2, hb⟩ := hh.finish (s := ng q) hB1 hB2
  refine bodyPost_ret (v := .agg #[.bool (ng q), .slice B1 (W q.num.natAbs).length b1, .slice B2 (W q.den).length b2]) (by simp [results, Tryd.results77, go_sem, q0, q1, q2]) rfl ?_
  exact ⟨_, rfl, ⟨_, _, _, _, rfl, r1, r2⟩, hb⟩
theorem fSub (a b : Rat) (w : World) (v1 v2 : Value) (h1 : IsF w v1 a) (h2 : IsF w v2 b) (k1 : Wq 200000 a) (k2 : Wq 200000 b) (hT : Tab w) :
    Calls Tryd.prog 77 #[v1, v2] w fun e w' => ∃ u, e = .returned u ∧ IsF w' u (a - b) ∧ Below w.heap.size w w' := by
  obtain ⟨A1, c1, A2, c2, rfl, r1, r2⟩ := h1
  obtain ⟨A3, c3, A4, c4, rfl, r3, r4⟩ := h2
  have := fracSub (ng a) a.num.natAbs a.den (ng b) b.num.natAbs b.den w _ _ _ _ _ _ _ _ r1 r2 r3 r4 k1.1 k1.2 k2.1 k2.2 a.den_nz b.den_nz hT
  rwa [rat_sub] at this
end Go.Proofs.YtfmhplcpejmkhabDoor

namespace Go.Proofs.YtfmhplcpejmkhabDoor
open Go.RowKit Dig
set_option linter.unusedVariables false
set_option linter.unusedSimpArgs false
set_option maxHeartbeats 1000000 in
set_option maxRecDepth 100000 in
theorem nAdd (s1 : Bool) (N1 D1 : Nat) (s2 : Bool) (N2 D2 : Nat) (w : World) (v1 v2 : Value) (h1 : RawV w v1 s1 N1 D1) (h2 : RawV w v2 s2 N2 D2) (hT : Tab w) :
    Calls Tryd.prog 34 #[v1, v2] w (OutPost w (if largeB s1 N1 D1 || largeB s2 N2 D2 then .err 1 else give (ratOf s1 N1 D1 + ratOf s2 N2 D2))) := by
  have H1 := Lib.hid h1
  have H2 := Lib.hid h2
  have HT := Lib.hid hT
  obtain ⟨A1, n1, c1, A1', n1', c1', rfl⟩ := h1.shape
  obtain ⟨A2, n2, c2, A2', n2', c2', rfl⟩ := h2.shape
  clear h1 h2 hT
  obtain ⟨M, hM, k1, k2, k3, bM⟩ := start2 w (.bool s1) (.slice A1 n1 c1) (.slice A1' n1' c1') (.bool s2) (.slice A2 n2 c2) (.slice A2' n2' c2') (.bool false) (.slice none 0 0) (.slice none 0 0) 24 24 24
  have HX := Lib.hid k1
  have HY := Lib.hid k2
  have HR := Lib.hid (show Res M (w.heap.size + 1 + 1) 24 from ⟨_, _, _, NI.bool _, NI.slice _ _ _, NI.slice _ _ _, k3⟩)
  have BM := Lib.hid bM
  replace H1 := Lib.hid (H1.out.below bM)
  replace H2 := Lib.hid (H2.out.below bM)
  replace HT := Lib.hid (HT.out.below bM)
  have C := Lib.hid (nTwo 78 (ratOf s1 N1 D1 + ratOf s2 N2 D2) s1 N1 D1 s2 N2 D2 M _ _ H1.out H2.out HT.out (fun _ _ => Tryd.call78 ..) (fun w u1 u2 i1 i2 f1 f2 t => fAdd _ _ w u1 u2 i1 i2 (fit_Wq f1 (by omega)) (fit_Wq f2 (by omega)) t))
  obtain ⟨o, ho⟩ : ∃ o, (if (largeB s1 N1 D1 || largeB s2 N2 D2) = true then Out.err 1 else give (ratOf s1 N1 D1 + ratOf s2 N2 D2)) = o := ⟨_, rfl⟩
  rw [ho] at C
  rw [ho]
  clear k1 k2 k3 bM ho
  go_enter Tryd.func34, Tryd.ntmps34
  go_upto_region 1 with (fail)
  rw [← hM]
  clear hM
  obtain ⟨x1, x2, x3, _, _, _⟩ := HX.out.cells
  obtain ⟨y1, y2, y3, _, _, _⟩ := HY.out.cells
  go_wp2_with fail
  refine C.out.mono ?_
  rintro e we ⟨s9, A9, n9, c9, A9', n9', c9', k9, rfl, h9, b9⟩
  replace HR := Lib.hid (HR.out.below b9)
  have BE := Lib.hid (below_step BM.out BM.out.size b9)
  obtain ⟨q0, q1, q2, hs, hb⟩ := OutIs.stored h9 HR.out BE.out (by omega)
  have Q := Lib.hid (And.intro q0 (And.intro q1 q2))
  have HS := Lib.hid hs
  have HB := Lib.hid hb
  clear b9 h9 q0 q1 q2 hs hb x1 x2 x3 y1 y2 y3
  obtain ⟨r1, r2, r3, hr1, hr2, hr3, _, _, _⟩ := HR.out.cells
  go_wp2_with fail
  obtain ⟨q0, q1, q2⟩ := Q.out
  refine bodyPost_ret (v := .tuple #[.agg #[.bool s9, .slice A9 n9 c9, .slice A9' n9' c9'], .int .i64 k9]) (by simp [results, Tryd.results34, go_sem, q0, q1, q2]) rfl ?_
  exact ⟨_, _, _, _, _, _, _, _, rfl, HS.out, HB.out⟩
set_option maxHeartbeats 1000000 in
set_option maxRecDepth 100000 in
theorem nSub (s1 : Bool) (N1 D1 : Nat) (s2 : Bool) (N2 D2 : Nat) (w : World) (v1 v2 : Value) (h1 : RawV w v1 s1 N1 D1) (h2 : RawV w v2 s2 N2 D2) (hT : Tab w) :
    Calls Tryd.prog 33 #[v1, v2] w (OutPost w (if largeB s1 N1 D1 || largeB s2 N2 D2 then .err 1 else give (ratOf s1 N1 D1 - ratOf s2 N2 D2))) := by
  have H1 := Lib.hid h1
  have H2 := Lib.hid h2
  have HT := Lib.hid hT
  obtain ⟨A1, n1, c1, A1', n1', c1', rfl⟩ := h1.shape
  obtain ⟨A2, n2, c2, A2', n2', c2', rfl⟩ := h2.shape
  clear h1 h2 hT
  obtain ⟨M, hM, k1, k2, k3, bM⟩ := start2 w (.bool s1) (.slice A1 n1 c1) (.slice A1' n1' c1') (.bool s2) (.slice A2 n2 c2) (.slice A2' n2' c2') (.bool false) (.slice none 0 0) (.slice none 0 0) 24 24 24
  have HX := Lib.hid k1
  have HY := Lib.hid k2
  have HR := Lib.hid (show Res M (w.heap.size + 1 + 1) 24 from ⟨_, _, _, NI.bool _, NI.slice _ _ _, NI.slice _ _ _, k3⟩)
  have BM := Lib.hid bM
  replace H1 := Lib.hid (H1.out.below bM)
  replace H2 := Lib.hid (H2.out.below bM)
  replace HT := Lib.hid (HT.out.below bM)
  have C := Lib.hid (nTwo 77 (ratOf s1 N1 D1 - ratOf s2 N2 D2) s1 N1 D1 s2 N2 D2 M _ _ H1.out H2.out HT.out (fun _ _ => Tryd.call77 ..) (fun w u1 u2 i1 i2 f1 f2 t => fSub _ _ w u1 u2 i1 i2 (fit_Wq f1 (by omega)) (fit_Wq f2 (by omega)) t))
  obtain ⟨o, ho⟩ : ∃ o, (if (largeB s1 N1 D1 || largeB s2 N2 D2) = true then Out.err 1 else give (ratOf s1 N1 D1 - ratOf s2 N2 D2)) = o := ⟨_, rfl⟩
  rw [ho] at C
  rw [ho]
  clear k1 k2 k3 bM ho
  go_enter Tryd.func33, Tryd.ntmps33
  go_upto_region 1 with (fail)
  rw [← hM]
  clear hM
  obtain ⟨x1, x2, x3, _, _, _⟩ := HX.out.cells
  obtain ⟨y1, y2, y3, _, _, _⟩ := HY.out.cells
  go_wp2_with fail
  refine C.out.mono ?_
  rintro e we ⟨s9, A9, n9, c9, A9', n9', c9', k9, rfl, h9, b9⟩
  replace HR := Lib.hid (HR.out.below b9)
  have BE := Lib.hid (below_step BM.out BM.out.size b9)
  obtain ⟨q0, q1, q2, hs, hb⟩ := OutIs.stored h9 HR.out BE.out (by omega)
  have Q := Lib.hid (And.intro q0 (And.intro q1 q2))
  have HS := Lib.hid hs
  have HB := Lib.hid hb
  clear b9 h9 q0 q1 q2 hs hb x1 x2 x3 y1 y2 y3
  obtain ⟨r1, r2, r3, hr1, hr2, hr3, _, _, _⟩ := HR.out.cells
  go_wp2_with fail
  obtain ⟨q0, q1, q2⟩ := Q.out
  refine bodyPost_ret (v := .tuple #[.agg #[.bool s9, .slice A9 n9 c9, .slice A9' n9' c9'], .int .i64 k9]) (by simp [results, Tryd.results33, go_sem, q0, q1, q2]) rfl ?_
  exact ⟨_, _, _, _, _, _, _, _, rfl, HS.out, HB.out⟩
set_option maxHeartbeats 1000000 in
set_option maxRecDepth 100000 in
theorem nMul (s1 : Bool) (N1 D1 : Nat) (s2 : Bool) (N2 D2 : Nat) (w : World) (v1 v2 : Value) (h1 : RawV w v1 s1 N1 D1) (h2 : RawV w v2 s2 N2 D2) (hT : Tab w) :
    Calls Tryd.prog 45 #[v1, v2] w (OutPost w (if largeB s1 N1 D1 || largeB s2 N2 D2 then .err 1 else give (ratOf s1 N1 D1 * ratOf s2 N2 D2))) := by
  have H1 := Lib.hid h1
  have H2 := Lib.hid h2
  have HT := Lib.hid hT
  obtain ⟨A1, n1, c1, A1', n1', c1', rfl⟩ := h1.shape
  obtain ⟨A2, n2, c2, A2', n2', c2', rfl⟩ := h2.shape
  clear h1 h2 hT
  obtain ⟨M, hM, k1, k2, k3, bM⟩ := start2 w (.bool s1) (.slice A1 n1 c1) (.slice A1' n1' c1') (.bool s2) (.slice A2 n2 c2) (.slice A2' n2' c2') (.bool false) (.slice none 0 0) (.slice none 0 0) 24 24 24
  have HX := Lib.hid k1
  have HY := Lib.hid k2
  have HR := Lib.hid (show Res M (w.heap.size + 1 + 1) 24 from ⟨_, _, _, NI.bool _, NI.slice _ _ _, NI.slice _ _ _, k3⟩)
  have BM := Lib.hid bM
  replace H1 := Lib.hid (H1.out.below bM)
  replace H2 := Lib.hid (H2.out.below bM)
  replace HT := Lib.hid (HT.out.below bM)
  have C := Lib.hid (nTwo 86 (ratOf s1 N1 D1 * ratOf s2 N2 D2) s1 N1 D1 s2 N2 D2 M _ _ H1.out H2.out HT.out (fun _ _ => Tryd.call86 ..) (fun w u1 u2 i1 i2 f1 f2 t => fMul _ _ w u1 u2 i1 i2 (fit_Wq f1 (by omega)) (fit_Wq f2 (by omega)) t))
  obtain ⟨o, ho⟩ : ∃ o, (if (largeB s1 N1 D1 || largeB s2 N2 D2) = true then Out.err 1 else give (ratOf s1 N1 D1 * ratOf s2 N2 D2)) = o := ⟨_, rfl⟩
  rw [ho] at C
  rw [ho]
  clear k1 k2 k3 bM ho
  go_enter Tryd.func45, Tryd.ntmps45
  go_upto_region 1 with (fail)
  rw [← hM]
  clear hM
  obtain ⟨x1, x2, x3, _, _, _⟩ := HX.out.cells
  obtain ⟨y1, y2, y3, _, _, _⟩ := HY.out.cells
  go_wp2_with fail
  refine C.out.mono ?_
  rintro e we ⟨s9, A9, n9, c9, A9', n9', c9', k9, rfl, h9, b9⟩
  replace HR := Lib.hid (HR.out.below b9)
  have BE := Lib.hid (below_step BM.out BM.out.size b9)
  obtain ⟨q0, q1, q2, hs, hb⟩ := OutIs.stored h9 HR.out BE.out (by omega)
  have Q := Lib.hid (And.intro q0 (And.intro q1 q2))
  have HS := Lib.hid hs
  have HB := Lib.hid hb
  clear b9 h9 q0 q1 q2 hs hb x1 x2 x3 y1 y2 y3
  obtain ⟨r1, r2, r3, hr1, hr2, hr3, _, _, _⟩ := HR.out.cells
  go_wp2_with fail
  obtain ⟨q0, q1, q2⟩ := Q.out
  refine bodyPost_ret (v := .tuple #[.agg #[.bool s9, .slice A9 n9 c9, .slice A9' n9' c9'], .int .i64 k9]) (by simp [results, Tryd.results45, go_sem, q0, q1, q2]) rfl ?_
  exact ⟨_, _, _, _, _, _, _, _, rfl, HS.out, HB.out⟩
end Go.Proofs.YtfmhplcpejmkhabDoor

namespace Go.Proofs.YtfmhplcpejmkhabDoor
open Go.RowKit Dig
set_option linter.unusedVariables false
set_option linter.unusedSimpArgs false
/-- two values side by side -/
def Six (w : World) (g : Nat) (a b c d e f : Value) : Prop := w.heap[g]? = some (.cells #[a, b, c, d, e, f] 24 (0, 0))
theorem Six.lt {w : World} {g : Nat} {a b c d e f : Value} (h : Six w g a b c d e f) : g < w.heap.size := (Array.getElem?_eq_some_iff.1 h).1
theorem Six.below {w w' : World} {g : Nat} {a b c d e f : Value} (h : Six w g a b c d e f) (hb : Below w.heap.size w w') : Six w' g a b c d e f := (hb.block g h.lt).trans h
theorem Six.cells {w : World} {g : Nat} {a b c d e f : Value} (h : Six w g a b c d e f) :
    w.cell? ⟨g, 0, none⟩ = some a ∧ w.cell? ⟨g, 1, none⟩ = some b ∧ w.cell? ⟨g, 2, none⟩ = some c ∧ w.cell? ⟨g, 3, none⟩ = some d ∧ w.cell? ⟨g, 4, none⟩ = some e ∧ w.cell? ⟨g, 5, none⟩ = some f := by
  unfold Six at h
  simp [World.cell?, h]
set_option maxHeartbeats 2000000 in
set_option maxRecDepth 100000 in
theorem rAnyLarge (s1 : Bool) (N1 D1 : Nat) (s2 : Bool) (N2 D2 : Nat) (w : World) (g : Nat) (A1 : Option Addr) (n1 c1 : Nat) (A1' : Option Addr) (n1' c1' : Nat) (A2 : Option Addr) (n2 c2 : Nat) (A2' : Option Addr) (n2' c2' : Nat)
    (hs : Six w g (.bool s1) (.slice A1 n1 c1) (.slice A1' n1' c1') (.bool s2) (.slice A2 n2 c2) (.slice A2' n2' c2')) (h1 : RawV w (.agg #[.bool s1, .slice A1 n1 c1, .slice A1' n1' c1']) s1 N1 D1) (h2 : RawV w (.agg #[.bool s2, .slice A2 n2 c2, .slice A2' n2' c2']) s2 N2 D2) :
    Calls Tryd.prog 89 #[.slice (some ⟨g, 0, none⟩) 2 2] w fun e w' => e = .returned (.bool (largeB s1 N1 D1 || largeB s2 N2 D2)) ∧ Below w.heap.size w w' := by
  have H1 := Lib.hid h1
  have H2 := Lib.hid h2
  have HS := Lib.hid hs
  obtain ⟨L1, hL1⟩ : ∃ L, largeB s1 N1 D1 = L := ⟨_, rfl⟩
  obtain ⟨L2, hL2⟩ : ∃ L, largeB s2 N2 D2 = L := ⟨_, rfl⟩
  have HL1 := Lib.hid hL1
  have HL2 := Lib.hid hL2
  rw [hL1, hL2]
  clear h1 h2 hs hL1 hL2
  go_enter Tryd.func89, Tryd.ntmps89
  go_wp2
  go_loopw [7] (fun v7 wr => ∃ k : Nat, v7 = .int .i64 k ∧ k ≤ 2 ∧ Hid ((1 ≤ k → L1 = false) ∧ (2 ≤ k → L2 = false)) ∧ Hid (Below w.heap.size w wr)) (fun v7 _ => 2 - (intOf v7).toNat)
  case atStart => exact ⟨0, rfl, by omega, Lib.hid ⟨fun h => by omega, fun h => by omega⟩, Lib.hid (Below.refl _ _)⟩
  case round =>
    obtain ⟨k, rfl, hk, hL, hbel⟩ := hrel
    obtain ⟨x0, x1, x2, x3, x4, x5⟩ := (HS.out.below hbel.out).cells
    rcases (show k = 0 ∨ k = 1 ∨ k = 2 by omega) with rfl | rfl | rfl
    · have ba := below_alloc wr (.cells #[.bool s1, .slice A1 n1 c1, .slice A1' n1' c1'] 24)
      have HH := Lib.hid ((H1.out.below hbel.out).below ba)
      have BA := Lib.hid (below_step hbel.out hbel.out.size ba)
      clear ba
      go_wp2_with fail
      refine (largeV _ s1 N1 D1 _ HH.out).mono ?_
      rw [HL1.out]
      rintro e wa ⟨rfl, b⟩
      have BB := Lib.hid (below_step BA.out BA.out.size b)
      clear b
      cases L1
      · go_wp2
        go_roundw
        case rel => exact ⟨1, by go_num, by omega, Lib.hid (⟨fun _ => by simp, fun h => by omega⟩), BB⟩
        case measure => simp [intOf]
      · go_wp2
        go_ret
        exact ⟨ret_bool (by simp), BB.out⟩
    · have ba := below_alloc wr (.cells #[.bool s2, .slice A2 n2 c2, .slice A2' n2' c2'] 24)
      have HH := Lib.hid ((H2.out.below hbel.out).below ba)
      have BA := Lib.hid (below_step hbel.out hbel.out.size ba)
      clear ba
      go_wp2_with fail
      refine (largeV _ s2 N2 D2 _ HH.out).mono ?_
      rw [HL2.out]
      rintro e wa ⟨rfl, b⟩
      have BB := Lib.hid (below_step BA.out BA.out.size b)
      clear b
      cases L2
      · go_wp2
        go_roundw
        case rel => exact ⟨2, by go_num, by omega, Lib.hid (⟨fun h => hL.out.1 (by omega), fun _ => by simp⟩), BB⟩
        case measure => simp [intOf]
      · go_wp2
        go_ret
        exact ⟨ret_bool (by simp), BB.out⟩
    · have e1 := hL.out.1 (by omega)
      have e2 := hL.out.2 (by omega)
      subst e1
      subst e2
      go_wp2
      go_ret
      exact ⟨rfl, hbel.out⟩
end Go.Proofs.YtfmhplcpejmkhabDoor

namespace Go.Proofs.YtfmhplcpejmkhabDoor
open Go.RowKit Dig
set_option linter.unusedVariables false
set_option linter.unusedSimpArgs false
/-- a number of at most k digits on either side -/
def Rq (k : Nat) (q : Rat) : Prop := (R q.num.natAbs).length ≤ k ∧ (R q.den).length ≤ k
theorem fit_Rq {q : Rat} (h : fitQ q) {k : Nat} (hk : 128 ≤ k) : Rq k q := ⟨Nat.le_trans (R_of_W h.1) hk, Nat.le_trans (R_of_W h.2) hk⟩
theorem Rq.le {q : Rat} {j k : Nat} (h : Rq j q) (hk : j ≤ k) : Rq k q := ⟨Nat.le_trans h.1 hk, Nat.le_trans h.2 hk⟩
theorem Rq.neg {q : Rat} {k : Nat} (h : Rq k q) : Rq k (-q) := by unfold Rq; rw [neg_abs, neg_den]; exact h
theorem mk_Rq {s : Int} {d k : Nat} (hd : d ≠ 0) (h1 : (R s.natAbs).length ≤ k) (h2 : (R d).length ≤ k) : Rq k (mkRat s d) := by
  refine ⟨?_, ?_⟩
  · rw [Rat.num_mkRat, if_neg hd]
    refine Nat.le_trans (dig_length_mono B16_two ?_) h1
    rw [Int.natAbs_ediv_of_dvd (Int.ofNat_dvd_left.2 (by simpa using Nat.gcd_dvd_right _ _))]
    exact Nat.div_le_self _ _
  · rw [Rat.den_mkRat, if_neg hd]
    exact Nat.le_trans (dig_length_mono B16_two (Nat.div_le_self _ _)) h2
theorem Rq.add {a b : Rat} {k : Nat} (ha : Rq k a) (hb : Rq k b) : Rq (4 * k + 1) (a + b) := by
  rw [Rat.add_def']
  refine mk_Rq (Nat.mul_ne_zero a.den_nz b.den_nz) ?_ ?_
  · have h1 := R_mul_length a.num.natAbs b.den
    have h2 := R_mul_length b.num.natAbs a.den
    have h3 := R_add_length (a.num.natAbs * b.den) (b.num.natAbs * a.den)
    have h4 : (a.num * ↑b.den + b.num * ↑a.den).natAbs ≤ a.num.natAbs * b.den + b.num.natAbs * a.den := by
      refine Nat.le_trans (Int.natAbs_add_le _ _) ?_
      rw [Int.natAbs_mul, Int.natAbs_mul]; simp
    have h5 : (R (a.num * ↑b.den + b.num * ↑a.den).natAbs).length ≤ _ := dig_length_mono B16_two h4
    have := ha.1; have := ha.2; have := hb.1; have := hb.2
    unfold R at *
    omega
  · have := R_mul_length a.den b.den
    have := ha.2; have := hb.2
    omega
theorem Rq.sub {a b : Rat} {k : Nat} (ha : Rq k a) (hb : Rq k b) : Rq (4 * k + 1) (a - b) := by
  rw [Rat.sub_eq_add_neg]; exact ha.add hb.neg
theorem Rq.mul {a b : Rat} {k : Nat} (ha : Rq k a) (hb : Rq k b) : Rq (2 * k) (a * b) := by
  rw [Rat.mul_def']
  refine mk_Rq (Nat.mul_ne_zero a.den_nz b.den_nz) ?_ ?_
  · rw [Int.natAbs_mul]
    have h1 := R_mul_length a.num.natAbs b.num.natAbs
    have := ha.1; have := hb.1
    omega
  · have := R_mul_length a.den b.den
    have := ha.2; have := hb.2
    omega
theorem Rq.div {a b : Rat} {k : Nat} (ha : Rq k a) (hb : Rq k b) (hz : b ≠ 0) : Rq (2 * k) (a / b) := by
  rw [← rat_div a b hz]
  have hn : b.num.natAbs ≠ 0 := by
    have : b.num ≠ 0 := fun h => hz (Rat.num_eq_zero.1 h)
    omega
  refine mk_Rq (Nat.mul_ne_zero a.den_nz hn) ?_ ?_
  · rw [sg_abs]
    have h1 := R_mul_length a.num.natAbs b.den
    have := ha.1; have := hb.2
    omega
  · have := R_mul_length a.den b.num.natAbs
    have := ha.2; have := hb.1
    omega
theorem qSum (a b : Rat) (w : World) (v1 v2 : Value) (h1 : IsQ w v1 a) (h2 : IsQ w v2 b) (k1 : Rq 400000 a) (k2 : Rq 400000 b) :
    Calls Tryd.prog 115 #[v1, v2] w fun e w' => ∃ u, e = .returned u ∧ IsQ w' u (a + b) ∧ Below w.heap.size w w' := by
  obtain ⟨A1, c1, A2, c2, rfl, r1, r2⟩ := h1
  obtain ⟨A3, c3, A4, c4, rfl, r3, r4⟩ := h2
  have := rSum (ng a) a.num.natAbs a.den (ng b) b.num.natAbs b.den w _ _ _ _ _ _ _ _ r1 r2 r3 r4 k1.1 k1.2 k2.1 k2.2 a.den_nz b.den_nz
  rwa [rat_add] at this
theorem qDiff (a b : Rat) (w : World) (v1 v2 : Value) (h1 : IsQ w v1 a) (h2 : IsQ w v2 b) (k1 : Rq 400000 a) (k2 : Rq 400000 b) :
    Calls Tryd.prog 83 #[v1, v2] w fun e w' => ∃ u, e = .returned u ∧ IsQ w' u (a - b) ∧ Below w.heap.size w w' := by
  obtain ⟨A1, c1, A2, c2, rfl, r1, r2⟩ := h1
  obtain ⟨A3, c3, A4, c4, rfl, r3, r4⟩ := h2
  have := rDiff (ng a) a.num.natAbs a.den (ng b) b.num.natAbs b.den w _ _ _ _ _ _ _ _ r1 r2 r3 r4 k1.1 k1.2 k2.1 k2.2 a.den_nz b.den_nz
  rwa [rat_sub] at this
theorem qDiv (a b : Rat) (w : World) (v1 v2 : Value) (h1 : IsQ w v1 a) (h2 : IsQ w v2 b) (k1 : Rq 400000 a) (k2 : Rq 400000 b) (hz : b ≠ 0) :
    Calls Tryd.prog 100 #[v1, v2] w fun e w' => ∃ u, e = .returned u ∧ IsQ w' u (a / b) ∧ Below w.heap.size w w' := by
  obtain ⟨A1, c1, A2, c2, rfl, r1, r2⟩ := h1
  obtain ⟨A3, c3, A4, c4, rfl, r3, r4⟩ := h2
  have hn : b.num.natAbs ≠ 0 := by
    have : b.num ≠ 0 := fun h => hz (Rat.num_eq_zero.1 h)
    omega
  have := rDivQ (ng a) a.num.natAbs a.den (ng b) b.num.natAbs b.den w _ _ _ _ _ _ _ _ r1 r2 r3 r4 k1.1 k1.2 k2.1 k2.2 a.den_nz b.den_nz hn
  rwa [rat_div a b hz] at this
theorem qOpp (a : Rat) (w : World) (v1 : Value) (h1 : IsQ w v1 a) :
    Calls Tryd.prog 28 #[v1] w fun e w' => ∃ u, e = .returned u ∧ IsQ w' u (-a) ∧ Below w.heap.size w w' := by
  obtain ⟨A1, c1, A2, c2, rfl, r1, r2⟩ := h1
  refine (rOpp (ng a) a.num.natAbs a.den w A1 A2 c1 c2).mono ?_
  rintro e w' ⟨rfl, hb⟩
  refine ⟨_, rfl, ⟨A1, c1, A2, c2, ?_, ?_, ?_⟩, hb⟩
  · rw [ng_neg, neg_abs, neg_den]
  · rw [neg_abs]; exact r1.below hb
  · rw [neg_den]; exact r2.below hb
theorem qDone (q : Rat) (w : World) (v : Value) (h : IsQ w v q) (k : Rq 2000000 q) : Calls Tryd.prog 58 #[v] w (OutPost w (give q)) := by
  obtain ⟨A1, c1, A2, c2, rfl, r1, r2⟩ := h
  exact (rDone q w A1 A2 c1 c2 r1 r2 k.1 k.2).mono fun e w' h => OutPost.of_give h
theorem ofQ (v : Value) (s : Bool) (N D : Nat) (q : Rat) (w : World) (h : RawV w v s N D) (hl : largeB s N D = false) (hq : ratOf s N D = q) :
    Calls Tryd.prog 25 #[v] w fun e w' => ∃ t B1 m1 e1 B2 m2 e2, e = .returned (.agg #[.bool t, .slice B1 m1 e1, .slice B2 m2 e2]) ∧ Hid (IsQ w' (.agg #[.bool t, .slice B1 m1 e1, .slice B2 m2 e2]) q) ∧ Below w.heap.size w w' := by
  subst hq
  refine (ofV v s N D w h hl).mono ?_
  rintro e w' ⟨A1, c1, A2, c2, rfl, r1, r2, hb⟩
  exact ⟨_, _, _, _, _, _, _, rfl, ⟨_, _, _, _, rfl, r1, r2⟩, hb⟩
/-- a contract of the form '∃ u, returned u, u is q' with the parts of u written out -/
theorem Calls.parts {f : Nat} {args : Array Value} {w : World} {q : Rat} (h : Calls Tryd.prog f args w fun e w' => ∃ u, e = .returned u ∧ IsQ w' u q ∧ Below w.heap.size w w') :
    Calls Tryd.prog f args w fun e w' => ∃ t B1 m1 e1 B2 m2 e2, e = .returned (.agg #[.bool t, .slice B1 m1 e1, .slice B2 m2 e2]) ∧ Hid (IsQ w' (.agg #[.bool t, .slice B1 m1 e1, .slice B2 m2 e2]) q) ∧ Below w.heap.size w w' := by
  refine h.mono ?_
  rintro e w' ⟨u, rfl, hq, hb⟩
  have hq2 := hq
  obtain ⟨A1, c1, A2, c2, rfl, r1, r2⟩ := hq
  exact ⟨_, _, _, _, _, _, _, rfl, hq2, hb⟩
/-- two values in variables, and a variable for a result -/
structure P2 (w M : World) (g1 g2 g3 : Nat) (s1 : Bool) (A1 : Option Addr) (n1 c1 : Nat) (B1 : Option Addr) (m1 d1 N1 D1 : Nat) (s2 : Bool) (A2 : Option Addr) (n2 c2 : Nat) (B2 : Option Addr) (m2 d2 N2 D2 : Nat) : Prop where
  f : Box M g1 (.bool s1) (.slice A1 n1 c1) (.slice B1 m1 d1) 24
  g : Box M g2 (.bool s2) (.slice A2 n2 c2) (.slice B2 m2 d2) 24
  res : Res M g3 24
  r1 : RawV M (.agg #[.bool s1, .slice A1 n1 c1, .slice B1 m1 d1]) s1 N1 D1
  r2 : RawV M (.agg #[.bool s2, .slice A2 n2 c2, .slice B2 m2 d2]) s2 N2 D2
  bel : Below w.heap.size w M
  n3 : w.heap.size ≤ g3
  n1 : g1 ≠ g3
  n2 : g2 ≠ g3
theorem RawV.grown {w w' : World} {v : Value} {s : Bool} {N D g : Nat} {x y z : Value} {t : TypeId} (h : RawV w v s N D) (hb : Box w g x y z t) (hx : NI x) (hy : NI y) (hz : NI z) (hg : w.grownBy w' (some g)) : RawV w' v s N D := by
  obtain ⟨A1, c1, l1, A2, c2, l2, e, r1, r2, rest⟩ := h
  exact ⟨A1, c1, l1, A2, c2, l2, e, r1.grown_box hb hx hy hz hg, r2.grown_box hb hx hy hz hg, rest⟩
section
variable {w M M' : World} {g1 g2 g3 : Nat} {s1 : Bool} {A1 : Option Addr} {n1 c1 : Nat} {B1 : Option Addr} {m1 d1 N1 D1 : Nat} {s2 : Bool} {A2 : Option Addr} {n2 c2 : Nat} {B2 : Option Addr} {m2 d2 N2 D2 : Nat}
theorem P2.below (h : P2 w M g1 g2 g3 s1 A1 n1 c1 B1 m1 d1 N1 D1 s2 A2 n2 c2 B2 m2 d2 N2 D2) (hb : Below M.heap.size M M') : P2 w M' g1 g2 g3 s1 A1 n1 c1 B1 m1 d1 N1 D1 s2 A2 n2 c2 B2 m2 d2 N2 D2 :=
  ⟨h.f.below hb, h.g.below hb, h.res.below hb, h.r1.below hb, h.r2.below hb, below_step h.bel h.bel.size hb, h.n3, h.n1, h.n2⟩
theorem P2.grown (h : P2 w M g1 g2 g3 s1 A1 n1 c1 B1 m1 d1 N1 D1 s2 A2 n2 c2 B2 m2 d2 N2 D2) {a b c : Value} (ha : NI a) (hb : NI b) (hc : NI c) : P2 w (((M.setCell ⟨g3, 0, none⟩ a).setCell ⟨g3, 1, none⟩ b).setCell ⟨g3, 2, none⟩ c) g1 g2 g3 s1 A1 n1 c1 B1 m1 d1 N1 D1 s2 A2 n2 c2 B2 m2 d2 N2 D2 := by
  have hg := grown_set3 M g3 a b c
  obtain ⟨x, y, z, hx, hy, hz, h4⟩ := h.res
  exact ⟨(hg.block g1 h.f.lt (fun e => h.n1 (Option.some.inj e))).trans h.f, (hg.block g2 h.g.lt (fun e => h.n2 (Option.some.inj e))).trans h.g, h.res.set3 ha hb hc, h.r1.grown h4 hx hy hz hg, h.r2.grown h4 hx hy hz hg, below_set3 h.bel h.n3 _ _ _, h.n3, h.n1, h.n2⟩
theorem P2.cells (h : P2 w M g1 g2 g3 s1 A1 n1 c1 B1 m1 d1 N1 D1 s2 A2 n2 c2 B2 m2 d2 N2 D2) : (World.cell? M ⟨g1, 0, none⟩ = some (.bool s1) ∧ World.cell? M ⟨g1, 1, none⟩ = some (.slice A1 n1 c1) ∧ World.cell? M ⟨g1, 2, none⟩ = some (.slice B1 m1 d1) ∧ World.cell? M ⟨g2, 0, none⟩ = some (.bool s2) ∧ World.cell? M ⟨g2, 1, none⟩ = some (.slice A2 n2 c2) ∧ World.cell? M ⟨g2, 2, none⟩ = some (.slice B2 m2 d2) ∧ Hid (P2 w M g1 g2 g3 s1 A1 n1 c1 B1 m1 d1 N1 D1 s2 A2 n2 c2 B2 m2 d2 N2 D2)) := by
  obtain ⟨a1, a2, a3, _, _, _⟩ := h.f.cells
  obtain ⟨b1, b2, b3, _, _, _⟩ := h.g.cells
  exact ⟨a1, a2, a3, b1, b2, b3, h⟩
theorem P2.of (h : (World.cell? M ⟨g1, 0, none⟩ = some (.bool s1) ∧ World.cell? M ⟨g1, 1, none⟩ = some (.slice A1 n1 c1) ∧ World.cell? M ⟨g1, 2, none⟩ = some (.slice B1 m1 d1) ∧ World.cell? M ⟨g2, 0, none⟩ = some (.bool s2) ∧ World.cell? M ⟨g2, 1, none⟩ = some (.slice A2 n2 c2) ∧ World.cell? M ⟨g2, 2, none⟩ = some (.slice B2 m2 d2) ∧ Hid (P2 w M g1 g2 g3 s1 A1 n1 c1 B1 m1 d1 N1 D1 s2 A2 n2 c2 B2 m2 d2 N2 D2))) : P2 w M g1 g2 g3 s1 A1 n1 c1 B1 m1 d1 N1 D1 s2 A2 n2 c2 B2 m2 d2 N2 D2 := h.2.2.2.2.2.2.out
theorem P2.next (h : (World.cell? M ⟨g1, 0, none⟩ = some (.bool s1) ∧ World.cell? M ⟨g1, 1, none⟩ = some (.slice A1 n1 c1) ∧ World.cell? M ⟨g1, 2, none⟩ = some (.slice B1 m1 d1) ∧ World.cell? M ⟨g2, 0, none⟩ = some (.bool s2) ∧ World.cell? M ⟨g2, 1, none⟩ = some (.slice A2 n2 c2) ∧ World.cell? M ⟨g2, 2, none⟩ = some (.slice B2 m2 d2) ∧ Hid (P2 w M g1 g2 g3 s1 A1 n1 c1 B1 m1 d1 N1 D1 s2 A2 n2 c2 B2 m2 d2 N2 D2))) (hb : Below M.heap.size M M') : (World.cell? M' ⟨g1, 0, none⟩ = some (.bool s1) ∧ World.cell? M' ⟨g1, 1, none⟩ = some (.slice A1 n1 c1) ∧ World.cell? M' ⟨g1, 2, none⟩ = some (.slice B1 m1 d1) ∧ World.cell? M' ⟨g2, 0, none⟩ = some (.bool s2) ∧ World.cell? M' ⟨g2, 1, none⟩ = some (.slice A2 n2 c2) ∧ World.cell? M' ⟨g2, 2, none⟩ = some (.slice B2 m2 d2) ∧ Hid (P2 w M' g1 g2 g3 s1 A1 n1 c1 B1 m1 d1 N1 D1 s2 A2 n2 c2 B2 m2 d2 N2 D2)) := ((P2.of h).below hb).cells
theorem P2.nextS (h : (World.cell? M ⟨g1, 0, none⟩ = some (.bool s1) ∧ World.cell? M ⟨g1, 1, none⟩ = some (.slice A1 n1 c1) ∧ World.cell? M ⟨g1, 2, none⟩ = some (.slice B1 m1 d1) ∧ World.cell? M ⟨g2, 0, none⟩ = some (.bool s2) ∧ World.cell? M ⟨g2, 1, none⟩ = some (.slice A2 n2 c2) ∧ World.cell? M ⟨g2, 2, none⟩ = some (.slice B2 m2 d2) ∧ Hid (P2 w M g1 g2 g3 s1 A1 n1 c1 B1 m1 d1 N1 D1 s2 A2 n2 c2 B2 m2 d2 N2 D2))) {a : Bool} {B C : Option Addr} {b b' c c' : Nat} : (World.cell? (((M.setCell ⟨g3, 0, none⟩ (.bool a)).setCell ⟨g3, 1, none⟩ (.slice B b b')).setCell ⟨g3, 2, none⟩ (.slice C c c')) ⟨g1, 0, none⟩ = some (.bool s1) ∧ World.cell? (((M.setCell ⟨g3, 0, none⟩ (.bool a)).setCell ⟨g3, 1, none⟩ (.slice B b b')).setCell ⟨g3, 2, none⟩ (.slice C c c')) ⟨g1, 1, none⟩ = some (.slice A1 n1 c1) ∧ World.cell? (((M.setCell ⟨g3, 0, none⟩ (.bool a)).setCell ⟨g3, 1, none⟩ (.slice B b b')).setCell ⟨g3, 2, none⟩ (.slice C c c')) ⟨g1, 2, none⟩ = some (.slice B1 m1 d1) ∧ World.cell? (((M.setCell ⟨g3, 0, none⟩ (.bool a)).setCell ⟨g3, 1, none⟩ (.slice B b b')).setCell ⟨g3, 2, none⟩ (.slice C c c')) ⟨g2, 0, none⟩ = some (.bool s2) ∧ World.cell? (((M.setCell ⟨g3, 0, none⟩ (.bool a)).setCell ⟨g3, 1, none⟩ (.slice B b b')).setCell ⟨g3, 2, none⟩ (.slice C c c')) ⟨g2, 1, none⟩ = some (.slice A2 n2 c2) ∧ World.cell? (((M.setCell ⟨g3, 0, none⟩ (.bool a)).setCell ⟨g3, 1, none⟩ (.slice B b b')).setCell ⟨g3, 2, none⟩ (.slice C c c')) ⟨g2, 2, none⟩ = some (.slice B2 m2 d2) ∧ Hid (P2 w (((M.setCell ⟨g3, 0, none⟩ (.bool a)).setCell ⟨g3, 1, none⟩ (.slice B b b')).setCell ⟨g3, 2, none⟩ (.slice C c c')) g1 g2 g3 s1 A1 n1 c1 B1 m1 d1 N1 D1 s2 A2 n2 c2 B2 m2 d2 N2 D2)) :=
  ((P2.of h).grown (NI.bool _) (NI.slice _ _ _) (NI.slice _ _ _)).cells
end
/-- one value in a variable, and a variable for a result -/
structure P1 (w M : World) (g1 g3 : Nat) (s1 : Bool) (A1 : Option Addr) (n1 c1 : Nat) (B1 : Option Addr) (m1 d1 N1 D1 : Nat) : Prop where
  f : Box M g1 (.bool s1) (.slice A1 n1 c1) (.slice B1 m1 d1) 24
  res : Res M g3 24
  r1 : RawV M (.agg #[.bool s1, .slice A1 n1 c1, .slice B1 m1 d1]) s1 N1 D1
  bel : Below w.heap.size w M
  n3 : w.heap.size ≤ g3
  n1 : g1 ≠ g3
section
variable {w M M' : World} {g1 g3 : Nat} {s1 : Bool} {A1 : Option Addr} {n1 c1 : Nat} {B1 : Option Addr} {m1 d1 N1 D1 : Nat}
theorem P1.below (h : P1 w M g1 g3 s1 A1 n1 c1 B1 m1 d1 N1 D1) (hb : Below M.heap.size M M') : P1 w M' g1 g3 s1 A1 n1 c1 B1 m1 d1 N1 D1 :=
  ⟨h.f.below hb, h.res.below hb, h.r1.below hb, below_step h.bel h.bel.size hb, h.n3, h.n1⟩
theorem P1.grown (h : P1 w M g1 g3 s1 A1 n1 c1 B1 m1 d1 N1 D1) {a b c : Value} (ha : NI a) (hb : NI b) (hc : NI c) : P1 w (((M.setCell ⟨g3, 0, none⟩ a).setCell ⟨g3, 1, none⟩ b).setCell ⟨g3, 2, none⟩ c) g1 g3 s1 A1 n1 c1 B1 m1 d1 N1 D1 := by
  have hg := grown_set3 M g3 a b c
  obtain ⟨x, y, z, hx, hy, hz, h4⟩ := h.res
  exact ⟨(hg.block g1 h.f.lt (fun e => h.n1 (Option.some.inj e))).trans h.f, h.res.set3 ha hb hc, h.r1.grown h4 hx hy hz hg, below_set3 h.bel h.n3 _ _ _, h.n3, h.n1⟩
theorem P1.cells (h : P1 w M g1 g3 s1 A1 n1 c1 B1 m1 d1 N1 D1) : (World.cell? M ⟨g1, 0, none⟩ = some (.bool s1) ∧ World.cell? M ⟨g1, 1, none⟩ = some (.slice A1 n1 c1) ∧ World.cell? M ⟨g1, 2, none⟩ = some (.slice B1 m1 d1) ∧ Hid (P1 w M g1 g3 s1 A1 n1 c1 B1 m1 d1 N1 D1)) := by
  obtain ⟨a1, a2, a3, _, _, _⟩ := h.f.cells
  exact ⟨a1, a2, a3, h⟩
theorem P1.of (h : (World.cell? M ⟨g1, 0, none⟩ = some (.bool s1) ∧ World.cell? M ⟨g1, 1, none⟩ = some (.slice A1 n1 c1) ∧ World.cell? M ⟨g1, 2, none⟩ = some (.slice B1 m1 d1) ∧ Hid (P1 w M g1 g3 s1 A1 n1 c1 B1 m1 d1 N1 D1))) : P1 w M g1 g3 s1 A1 n1 c1 B1 m1 d1 N1 D1 := h.2.2.2.out
theorem P1.next (h : (World.cell? M ⟨g1, 0, none⟩ = some (.bool s1) ∧ World.cell? M ⟨g1, 1, none⟩ = some (.slice A1 n1 c1) ∧ World.cell? M ⟨g1, 2, none⟩ = some (.slice B1 m1 d1) ∧ Hid (P1 w M g1 g3 s1 A1 n1 c1 B1 m1 d1 N1 D1))) (hb : Below M.heap.size M M') : (World.cell? M' ⟨g1, 0, none⟩ = some (.bool s1) ∧ World.cell? M' ⟨g1, 1, none⟩ = some (.slice A1 n1 c1) ∧ World.cell? M' ⟨g1, 2, none⟩ = some (.slice B1 m1 d1) ∧ Hid (P1 w M' g1 g3 s1 A1 n1 c1 B1 m1 d1 N1 D1)) := ((P1.of h).below hb).cells
theorem P1.nextS (h : (World.cell? M ⟨g1, 0, none⟩ = some (.bool s1) ∧ World.cell? M ⟨g1, 1, none⟩ = some (.slice A1 n1 c1) ∧ World.cell? M ⟨g1, 2, none⟩ = some (.slice B1 m1 d1) ∧ Hid (P1 w M g1 g3 s1 A1 n1 c1 B1 m1 d1 N1 D1))) {a : Bool} {B C : Option Addr} {b b' c c' : Nat} : (World.cell? (((M.setCell ⟨g3, 0, none⟩ (.bool a)).setCell ⟨g3, 1, none⟩ (.slice B b b')).setCell ⟨g3, 2, none⟩ (.slice C c c')) ⟨g1, 0, none⟩ = some (.bool s1) ∧ World.cell? (((M.setCell ⟨g3, 0, none⟩ (.bool a)).setCell ⟨g3, 1, none⟩ (.slice B b b')).setCell ⟨g3, 2, none⟩ (.slice C c c')) ⟨g1, 1, none⟩ = some (.slice A1 n1 c1) ∧ World.cell? (((M.setCell ⟨g3, 0, none⟩ (.bool a)).setCell ⟨g3, 1, none⟩ (.slice B b b')).setCell ⟨g3, 2, none⟩ (.slice C c c')) ⟨g1, 2, none⟩ = some (.slice B1 m1 d1) ∧ Hid (P1 w (((M.setCell ⟨g3, 0, none⟩ (.bool a)).setCell ⟨g3, 1, none⟩ (.slice B b b')).setCell ⟨g3, 2, none⟩ (.slice C c c')) g1 g3 s1 A1 n1 c1 B1 m1 d1 N1 D1)) :=
  ((P1.of h).grown (NI.bool _) (NI.slice _ _ _) (NI.slice _ _ _)).cells
end
end Go.Proofs.YtfmhplcpejmkhabDoor

namespace Go.Proofs.YtfmhplcpejmkhabDoor
open Go.RowKit Dig
set_option linter.unusedVariables false
set_option linter.unusedSimpArgs false
/-- what stays while a statement over one number in a variable goes on -/
structure Bx (w M : World) (g : Nat) (t : TypeId) (s : Bool) (A1 : Option Addr) (c1 : Nat) (l1 : List Int) (A2 : Option Addr) (c2 : Nat) (l2 : List Int) : Prop where
  box : Box M g (.bool s) (.slice A1 l1.length c1) (.slice A2 l2.length c2) t
  r1 : Rd M A1 c1 l1
  r2 : Rd M A2 c2 l2
  bel : Below w.heap.size w M
section
variable {w M M' : World} {g : Nat} {t : TypeId} {s : Bool} {A1 : Option Addr} {c1 : Nat} {l1 : List Int} {A2 : Option Addr} {c2 : Nat} {l2 : List Int}
theorem Bx.below (h : Bx w M g t s A1 c1 l1 A2 c2 l2) (hb : Below M.heap.size M M') : Bx w M' g t s A1 c1 l1 A2 c2 l2 := ⟨h.box.below hb, h.r1.below hb, h.r2.below hb, below_step h.bel h.bel.size hb⟩
theorem Bx.cells (h : Bx w M g t s A1 c1 l1 A2 c2 l2) : (World.cell? M ⟨g, 0, none⟩ = some (.bool s) ∧ World.cell? M ⟨g, 1, none⟩ = some (.slice A1 (l1).length c1) ∧ World.cell? M ⟨g, 2, none⟩ = some (.slice A2 (l2).length c2) ∧ Hid (Bx w M g t s A1 c1 l1 A2 c2 l2)) := by
  obtain ⟨a1, a2, a3, _, _, _⟩ := h.box.cells
  exact ⟨a1, a2, a3, h⟩
theorem Bx.of (h : (World.cell? M ⟨g, 0, none⟩ = some (.bool s) ∧ World.cell? M ⟨g, 1, none⟩ = some (.slice A1 (l1).length c1) ∧ World.cell? M ⟨g, 2, none⟩ = some (.slice A2 (l2).length c2) ∧ Hid (Bx w M g t s A1 c1 l1 A2 c2 l2))) : Bx w M g t s A1 c1 l1 A2 c2 l2 := h.2.2.2.out
theorem Bx.next (h : (World.cell? M ⟨g, 0, none⟩ = some (.bool s) ∧ World.cell? M ⟨g, 1, none⟩ = some (.slice A1 (l1).length c1) ∧ World.cell? M ⟨g, 2, none⟩ = some (.slice A2 (l2).length c2) ∧ Hid (Bx w M g t s A1 c1 l1 A2 c2 l2))) (hb : Below M.heap.size M M') : (World.cell? M' ⟨g, 0, none⟩ = some (.bool s) ∧ World.cell? M' ⟨g, 1, none⟩ = some (.slice A1 (l1).length c1) ∧ World.cell? M' ⟨g, 2, none⟩ = some (.slice A2 (l2).length c2) ∧ Hid (Bx w M' g t s A1 c1 l1 A2 c2 l2)) := ((Bx.of h).below hb).cells
end
def digQ (q : Rat) : Nat := max (bl q.num.natAbs) (bl q.den)
set_option maxHeartbeats 2000000 in
set_option maxRecDepth 100000 in
theorem nBits (s1 : Bool) (N1 D1 : Nat) (w : World) (v1 : Value) (h1 : RawV w v1 s1 N1 D1) (hT : Tab w) (q : Rat) (hq : ratOf s1 N1 D1 = q) (kn kd k : Nat) (hn : bl q.num.natAbs = kn) (hd : bl q.den = kd) (hk : max kn kd = k) (L1 : Bool) (hL1 : largeB s1 N1 D1 = L1) :
    Calls Tryd.prog 46 #[v1] w fun e w' => e = .returned (.tuple #[.int .i64 (if L1 then 0 else (k : Int)), .int .i64 (if L1 then 1 else 0)]) ∧ Below w.heap.size w w' := by
  have H1 := Lib.hid h1
  have HT := Lib.hid hT
  obtain ⟨A1, n1, c1, A1', n1', c1', rfl⟩ := h1.shape
  have bM := below_alloc w (.cells #[.bool s1, .slice A1 n1 c1, .slice A1' n1' c1'] 24)
  have HX := Lib.hid (Box.new w (.bool s1) (.slice A1 n1 c1) (.slice A1' n1' c1') 24)
  have BM := Lib.hid bM
  have HQ := Lib.hid hq
  have HN := Lib.hid hn
  have HD := Lib.hid hd
  have hm : max (kn : Int) (kd : Int) = (k : Int) := by omega
  have HL1 := Lib.hid hL1
  replace H1 := Lib.hid (H1.out.below bM)
  replace HT := Lib.hid (HT.out.below bM)
  clear h1 hT bM hq hn hd hk hL1
  go_enter Tryd.func46, Tryd.ntmps46
  go_upto_region 1 with (fail)
  obtain ⟨x1, x2, x3, _, _, _⟩ := HX.out.cells
  go_wp2_with fail
  refine (readV _ s1 N1 D1 _ H1.out HT.out).mono ?_
  rw [HL1.out, HQ.out]
  rintro e wa ⟨t1, B1, m1, d1, B1', m1', d1', rfl, f1, ba⟩
  have bb := below_step ba ba.size (below_alloc wa (.cells #[.bool t1, .slice B1 m1 d1, .slice B1' m1' d1'] 65))
  have HF1 := Lib.hid (Box.new wa (.bool t1) (.slice B1 m1 d1) (.slice B1' m1' d1') 65)
  have F1 : Hid (L1 = false → IsF (wa.alloc (.cells #[.bool t1, .slice B1 m1 d1, .slice B1' m1' d1'] 65)) (.agg #[.bool t1, .slice B1 m1 d1, .slice B1' m1' d1']) q) := Lib.hid (fun h => (f1.out h).below (below_alloc _ _))
  have BM := Lib.hid (below_step BM.out BM.out.size bb)
  clear x1 x2 x3 ba bb f1
  rcases L1 with _ | _
  · obtain ⟨E1, e1, E2, e2, ev, r1, r2⟩ := F1.out rfl
    have hf := (largeB_false HL1.out).2.2
    rw [HQ.out] at hf
    have HF := Lib.hid hf
    simp only [Value.agg.injEq, Array.mk.injEq, List.cons.injEq, Value.bool.injEq, Value.slice.injEq, and_true] at ev
    obtain ⟨rfl, ⟨rfl, rfl, rfl⟩, rfl, rfl, rfl⟩ := ev
    have HS := Lib.hid hf.1
    have HS2 := Lib.hid hf.2
    obtain ⟨n, hn⟩ : ∃ n, q.num.natAbs = n := ⟨_, rfl⟩
    obtain ⟨d, hd⟩ : ∃ d, q.den = d := ⟨_, rfl⟩
    obtain ⟨sg1, hs1⟩ : ∃ d, ng q = d := ⟨_, rfl⟩
    rw [hn] at HS HN r1 r2 HF1 BM ⊢
    rw [hd] at HS2 HD r1 r2 HF1 BM ⊢
    rw [hs1] at r1 r2 HF1 BM ⊢
    have TX := Lib.hid (Bx.mk HF1.out r1 r2 BM.out)
    clear r1 r2 hf HF F1 HF1 BM hn hd hs1
    go_wp2_with fail
    go_region_held3 (fun W' => (World.cell? W' ⟨(wa.heap.size), 0, none⟩ = some (.bool sg1) ∧ World.cell? W' ⟨(wa.heap.size), 1, none⟩ = some (.slice B1 ((W n)).length d1) ∧ World.cell? W' ⟨(wa.heap.size), 2, none⟩ = some (.slice B1' ((W d)).length d1') ∧ Hid (Bx w W' (wa.heap.size) 65 sg1 B1 d1 (W n) B1' d1' (W d))))
      (with_reducible (first | assumption | exact (TX.out.below (Below.refl _ _).drew).cells | exact Bx.next (by assumption) (by assumption)))
      (first
       | (go_at_call_of 87 (Value.slice B1 (W n).length d1)
          refine (wBits n _ _ _ (Bx.of (by assumption)).r1 (Nat.le_trans HS.out (by omega))).mono ?_
          rw [HN.out]
          rintro e wb ⟨rfl, rfl⟩)
       | (go_at_call 87
          refine (wBits d _ _ _ (Bx.of (by assumption)).r2 (Nat.le_trans HS2.out (by omega))).mono ?_
          rw [HD.out]
          rintro e wb ⟨rfl, rfl⟩))
    have hh := Bx.of (by assumption)
    go_wp2
    refine bodyPost_ret (v := .tuple #[.int .i64 (k : Int), .int .i64 0]) (by simp [results, Tryd.results46, go_sem]) rfl ⟨rfl, hh.bel⟩
  · go_wp2_with fail
    refine bodyPost_ret (v := .tuple #[.int .i64 0, .int .i64 1]) (by simp [results, Tryd.results46, go_sem]) rfl ⟨rfl, BM.out⟩
end Go.Proofs.YtfmhplcpejmkhabDoor

namespace Go.Proofs.YtfmhplcpejmkhabDoor
open Go.RowKit Dig
set_option linter.unusedVariables false
set_option linter.unusedSimpArgs false
theorem IsF.stored {w M : World} {g : Nat} {t : TypeId} {s : Bool} {n d : Nat} {A1 A2 : Option Addr} {n1 c1 n2 c2 : Nat} (h : Fr M (.agg #[.bool s, .slice A1 n1 c1, .slice A2 n2 c2]) s n d) (hr : Res M g t) (hb : Below w.heap.size w M) (hg : w.heap.size ≤ g) :
    let M' := ((M.setCell ⟨g, 0, none⟩ (.bool s)).setCell ⟨g, 1, none⟩ (.slice A1 n1 c1)).setCell ⟨g, 2, none⟩ (.slice A2 n2 c2)
    M'.cell? ⟨g, 0, none⟩ = some (.bool s) ∧ M'.cell? ⟨g, 1, none⟩ = some (.slice A1 n1 c1) ∧ M'.cell? ⟨g, 2, none⟩ = some (.slice A2 n2 c2) ∧
    Fr M' (.agg #[.bool s, .slice A1 n1 c1, .slice A2 n2 c2]) s n d ∧ Below w.heap.size w M' := by
  intro M'
  obtain ⟨x, y, z, hx, hy, hz, hbx⟩ := hr
  obtain ⟨B1, b1, B2, b2, e, h1, h2⟩ := h
  obtain ⟨q0, q1, q2, _, _, _⟩ := (hbx.set3 (.bool s) (.slice A1 n1 c1) (.slice A2 n2 c2)).cells
  exact ⟨q0, q1, q2, ⟨B1, b1, B2, b2, e, h1.grown_box hbx hx hy hz (grown_set3 _ _ _ _ _), h2.grown_box hbx hx hy hz (grown_set3 _ _ _ _ _)⟩, below_set3 hb hg _ _ _⟩
set_option maxHeartbeats 1000000 in
set_option maxRecDepth 100000 in
theorem fracAbs (s : Bool) (n d : Nat) (w : World) (A1 A2 : Option Addr) (c1 c2 : Nat) (h1 : Rd w A1 c1 (W n)) (h2 : Rd w A2 c2 (W d)) :
    Calls Tryd.prog 66 #[.agg #[.bool s, .slice A1 (W n).length c1, .slice A2 (W d).length c2]] w fun e w' => ∃ u, e = .returned u ∧ Fr w' u false n d ∧ Below w.heap.size w w' := by
  obtain ⟨M, hM, k1, k2, bM⟩ := start1 w (.bool s) (.slice A1 (W n).length c1) (.slice A2 (W d).length c2) (.bool false) (.slice none 0 0) (.slice none 0 0) 65 65
  have HX := Lib.hid k1
  have kn := k1.set0 (.bool false)
  have g1 : M.grownBy (M.setCell ⟨w.heap.size, 0, none⟩ (.bool false)) (some w.heap.size) := grown_set ⟨rfl, rfl, rfl, Nat.le_refl _, fun _ _ _ => rfl⟩ 0 _
  have HR := Lib.hid ((g1.block _ k2.lt (by simp)).trans k2)
  have bn := bM.setCell (p := ⟨w.heap.size, 0, none⟩) (Nat.le_refl _) (.bool false)
  have ST := Lib.hid (IsF.stored (w := w) (s := false) (g := w.heap.size + 1) (t := 65) ⟨A1, c1, A2, c2, rfl, (h1.below bM).grown_box k1 (NI.bool _) (NI.slice _ _ _) (NI.slice _ _ _) g1, (h2.below bM).grown_box k1 (NI.bool _) (NI.slice _ _ _) (NI.slice _ _ _) g1⟩ ⟨_, _, _, NI.bool _, NI.slice _ _ _, NI.slice _ _ _, HR.out⟩ bn (by omega))
  have HN := Lib.hid kn
  clear k1 k2 h1 h2 bM kn bn g1
  go_enter Tryd.func66, Tryd.ntmps66
  go_upto_region 1 with (fail)
  rw [← hM]
  clear hM
  obtain ⟨x1, x2, x3, _, _, _⟩ := HX.out.cells
  go_upto_region 2 with (fail)
  clear x1 x2 x3
  obtain ⟨x1, x2, x3, _, _, _⟩ := HN.out.cells
  obtain ⟨y1, y2, y3, _, _, _⟩ := Box.cells HR.out
  go_wp2_with fail
  obtain ⟨q0, q1, q2, hf, hb⟩ := ST.out
  refine bodyPost_ret (v := .agg #[.bool false, .slice A1 (W n).length c1, .slice A2 (W d).length c2]) (by simp [results, Tryd.results66, go_sem, q0, q1, q2]) rfl ⟨_, rfl, hf, hb⟩
end Go.Proofs.YtfmhplcpejmkhabDoor

namespace Go.Proofs.YtfmhplcpejmkhabDoor
open Go.RowKit Dig
set_option linter.unusedVariables false
set_option linter.unusedSimpArgs false
/-- what stays while a statement goes on: the result's variable -/
structure Rs (w M : World) (g : Nat) : Prop where
  res : Res M g 39
  bel : Below w.heap.size w M
  n3 : w.heap.size ≤ g
theorem Rs.next {w M M' : World} {g : Nat} (h : Hid (Rs w M g)) (hb : Below M.heap.size M M') : Hid (Rs w M' g) := Lib.hid ⟨h.out.res.below hb, below_step h.out.bel h.out.bel.size hb, h.out.n3⟩
theorem Rs.nextS {w M : World} {g : Nat} (h : Hid (Rs w M g)) {a : Bool} {B C : Option Addr} {b b' c c' : Nat} : Hid (Rs w (((M.setCell ⟨g, 0, none⟩ (.bool a)).setCell ⟨g, 1, none⟩ (.slice B b b')).setCell ⟨g, 2, none⟩ (.slice C c c')) g) :=
  Lib.hid ⟨h.out.res.set3 (NI.bool _) (NI.slice _ _ _) (NI.slice _ _ _), below_set3 h.out.bel h.out.n3 _ _ _, h.out.n3⟩
theorem Rs.start (w : World) : Rs w (w.alloc (.cells #[.bool false, .slice none 0 0, .slice none 0 0] 39)) w.heap.size := ⟨Res.new _, below_alloc _ _, Nat.le_refl _⟩
/-- a number that has been stored in the result's variable -/
theorem IsQ.stored {w M : World} {g : Nat} {t : TypeId} {q : Rat} {s : Bool} {A1 A2 : Option Addr} {n1 c1 n2 c2 : Nat} (h : IsQ M (.agg #[.bool s, .slice A1 n1 c1, .slice A2 n2 c2]) q) (hr : Res M g t) (hb : Below w.heap.size w M) (hg : w.heap.size ≤ g) :
    let M' := ((M.setCell ⟨g, 0, none⟩ (.bool s)).setCell ⟨g, 1, none⟩ (.slice A1 n1 c1)).setCell ⟨g, 2, none⟩ (.slice A2 n2 c2)
    M'.cell? ⟨g, 0, none⟩ = some (.bool s) ∧ M'.cell? ⟨g, 1, none⟩ = some (.slice A1 n1 c1) ∧ M'.cell? ⟨g, 2, none⟩ = some (.slice A2 n2 c2) ∧
    IsQ M' (.agg #[.bool s, .slice A1 n1 c1, .slice A2 n2 c2]) q ∧ Below w.heap.size w M' := by
  intro M'
  obtain ⟨x, y, z, hx, hy, hz, hbx⟩ := hr
  obtain ⟨B1, b1, B2, b2, e, h1, h2⟩ := h
  obtain ⟨q0, q1, q2, _, _, _⟩ := (hbx.set3 (.bool s) (.slice A1 n1 c1) (.slice A2 n2 c2)).cells
  exact ⟨q0, q1, q2, ⟨B1, b1, B2, b2, e, h1.grown_box hbx hx hy hz (grown_set3 _ _ _ _ _), h2.grown_box hbx hx hy hz (grown_set3 _ _ _ _ _)⟩, below_set3 hb hg _ _ _⟩
theorem mk_int_one (s : Bool) (n : Nat) : mkRat (sg s n) 1 = ((sg s n : Int) : Rat) := by
  rw [Rat.mkRat_one]
theorem R_len4 {n : Nat} (h : n < 18446744073709551616) : (R n).length ≤ 2000000 := Nat.le_trans ((dig_length_le B16_two n 4).2 (by unfold B16; omega)) (by omega)
theorem wrap_i64 (n : Int) (h0 : -9223372036854775808 ≤ n) (h1 : n ≤ 9223372036854775807) : IntKind.i64.wrap n = n := by
  simp [IntKind.wrap, IntKind.signed, IntKind.bits]
  split <;> omega
set_option maxHeartbeats 2000000 in
set_option maxRecDepth 100000 in
theorem rInt (n : Int) (h0 : -9223372036854775808 ≤ n) (h1 : n ≤ 9223372036854775807) (w : World) :
    Calls Tryd.prog 42 #[.int .i64 n] w fun e w' => ∃ s A1 n1 c1 A2 n2 c2, e = .returned (.agg #[.bool s, .slice A1 n1 c1, .slice A2 n2 c2]) ∧ Hid (IsQ w' (.agg #[.bool s, .slice A1 n1 c1, .slice A2 n2 c2]) (n : Rat)) ∧ Below w.heap.size w w' := by
  have T0 := Lib.hid (Rs.start w)
  have L1 := Lib.hid (R_len4 (n := 1) (by omega))
  by_cases hn : n < 0
  · obtain ⟨m, rfl⟩ : ∃ m : Nat, n = -((m : Int) + 1) := ⟨(-n - 1).toNat, by omega⟩
    have hm : (m : Int) < 9223372036854775808 := by omega
    have e1 : IntKind.i64.wrap (-((m : Int) + 1) + 1) = -(m : Int) := by rw [wrap_i64 _ (by omega) (by omega)]; omega
    have e2 : wrap64 (m : Int) = (m : Int) := by unfold wrap64; omega
    have e3 : IntKind.u64.wrap (m : Int) = (m : Int) := by rw [wrap_u64]; omega
    obtain ⟨k, hk⟩ : ∃ k : Nat, k = m + 1 := ⟨_, rfl⟩
    have e4 : IntKind.u64.wrap ((m : Int) + 1) = (k : Int) := by rw [wrap_u64]; omega
    have hd : decide (-((m : Int) + 1) < 0) = true := decide_eq_true hn
    have Q := Lib.hid (show mkRat (sg true k) 1 = ((-((m : Int) + 1) : Int) : Rat) by rw [mk_int_one, hk]; rfl)
    have L2 := Lib.hid (R_len4 (n := k) (by omega))
    have HM := Lib.hid (show k < 18446744073709551616 by omega)
    generalize hq : ((-((m : Int) + 1) : Int) : Rat) = q at *
    clear hq h0 h1 hn hm hk
    go_enter Tryd.func42, Tryd.ntmps42
    go_wp2_with fail
    refine (rNatOf k _ HM.out).mono ?_
    rintro e wa ⟨Aa, ca, rfl, ra, ba⟩
    have T1 := Rs.next T0 ba
    have RA := Lib.hid ra
    clear ra ba
    go_wp2_with fail
    refine (rNatOf1 _).mono ?_
    rintro e wb ⟨Ab, cb, rfl, rb, bb⟩
    have T2 := Rs.next T1 bb
    replace RA := Lib.hid (RA.out.below bb)
    have RB := Lib.hid rb
    clear rb bb
    go_wp2_with fail
    refine (Calls.parts (rMake _ _ _ _ _ _ _ _ RA.out RB.out (by omega) L2.out L1.out)).mono ?_
    rw [Q.out]
    rintro e wd ⟨t3, B3, m3, e3, B3', m3', e3', rfl, i3, bd⟩
    have T3 := Rs.next T2 bd
    clear bd
    obtain ⟨z1, z2, z3, hz1, hz2, hz3, k1, k2, k3⟩ := T3.out.res.cells
    go_wp2
    obtain ⟨q0, q1, q2, hs, hb⟩ := IsQ.stored i3.out T3.out.res T3.out.bel T3.out.n3
    refine bodyPost_ret (v := .agg #[.bool t3, .slice B3 m3 e3, .slice B3' m3' e3']) (by simp [results, Tryd.results42, go_sem, q0, q1, q2]) rfl ?_
    exact ⟨_, _, _, _, _, _, _, rfl, Lib.hid hs, hb⟩
  · obtain ⟨m, rfl⟩ : ∃ m : Nat, n = (m : Int) := ⟨n.toNat, by omega⟩
    have e3 : IntKind.u64.wrap (m : Int) = (m : Int) := by rw [wrap_u64]; omega
    have hd : decide ((m : Int) < 0) = false := decide_eq_false hn
    have Q := Lib.hid (show mkRat (sg false m) 1 = (((m : Int) : Int) : Rat) by rw [mk_int_one]; rfl)
    have L2 := Lib.hid (R_len4 (n := m) (by omega))
    have HM := Lib.hid (show m < 18446744073709551616 by omega)
    generalize hq : (((m : Int) : Int) : Rat) = q at *
    clear hq h0 h1 hn
    go_enter Tryd.func42, Tryd.ntmps42
    go_wp2_with fail
    refine (rNatOf m _ HM.out).mono ?_
    rintro e wa ⟨Aa, ca, rfl, ra, ba⟩
    have T1 := Rs.next T0 ba
    have RA := Lib.hid ra
    clear ra ba
    go_wp2_with fail
    refine (rNatOf1 _).mono ?_
    rintro e wb ⟨Ab, cb, rfl, rb, bb⟩
    have T2 := Rs.next T1 bb
    replace RA := Lib.hid (RA.out.below bb)
    have RB := Lib.hid rb
    clear rb bb
    go_wp2_with fail
    refine (Calls.parts (rMake _ _ _ _ _ _ _ _ RA.out RB.out (by omega) L2.out L1.out)).mono ?_
    rw [Q.out]
    rintro e wd ⟨t3, B3, m3, e3, B3', m3', e3', rfl, i3, bd⟩
    have T3 := Rs.next T2 bd
    clear bd
    obtain ⟨z1, z2, z3, hz1, hz2, hz3, k1, k2, k3⟩ := T3.out.res.cells
    go_wp2
    obtain ⟨q0, q1, q2, hs, hb⟩ := IsQ.stored i3.out T3.out.res T3.out.bel T3.out.n3
    refine bodyPost_ret (v := .agg #[.bool t3, .slice B3 m3 e3, .slice B3' m3' e3']) (by simp [results, Tryd.results42, go_sem, q0, q1, q2]) rfl ?_
    exact ⟨_, _, _, _, _, _, _, rfl, Lib.hid hs, hb⟩
theorem TwoR.undrawn {w M : World} {g1 g2 g3 : Nat} {s1 : Bool} {A1 : Option Addr} {c1 n1 : Nat} {A2 : Option Addr} {c2 d1 : Nat} {s2 : Bool} {A3 : Option Addr} {c3 n2 : Nat} {A4 : Option Addr} {c4 d2 : Nat}
    (h : TwoR w M.drew g1 g2 g3 s1 A1 c1 n1 A2 c2 d1 s2 A3 c3 n2 A4 c4 d2) : TwoR w M g1 g2 g3 s1 A1 c1 n1 A2 c2 d1 s2 A3 c3 n2 A4 c4 d2 :=
  ⟨⟨h.f.box, ⟨h.f.r1.le, h.f.r1.max, h.f.r1.at_⟩, ⟨h.f.r2.le, h.f.r2.max, h.f.r2.at_⟩⟩, ⟨h.g.box, ⟨h.g.r1.le, h.g.r1.max, h.g.r1.at_⟩, ⟨h.g.r2.le, h.g.r2.max, h.g.r2.at_⟩⟩, h.res, ⟨h.bel.os, h.bel.tape, h.bel.output, h.bel.size, h.bel.block⟩, h.n1, h.n2, h.n3, h.n4⟩
theorem half_Rq {q : Rat} {k : Nat} (h : Rq k q) : Rq (2 * (k + 4)) (q / 2) := by
  have h2 : Rq (k + 4) ((2 : Int) : Rat) := ⟨Nat.le_trans ((dig_length_le B16_two _ 4).2 (by unfold B16; decide)) (by omega), Nat.le_trans ((dig_length_le B16_two _ 4).2 (by unfold B16; decide)) (by omega)⟩
  exact Rq.div (h.le (by omega)) h2 (by decide)
end Go.Proofs.YtfmhplcpejmkhabDoor

namespace Go.Proofs.YtfmhplcpejmkhabDoor
open Go.RowKit Dig
set_option linter.unusedVariables false
set_option linter.unusedSimpArgs false
theorem GvR.undrawn {w M : World} {g1 g3 : Nat} {t : TypeId} {s1 : Bool} {A1 : Option Addr} {c1 n1 : Nat} {A2 : Option Addr} {c2 d1 : Nat} (h : GvR w M.drew g1 g3 t s1 A1 c1 n1 A2 c2 d1) : GvR w M g1 g3 t s1 A1 c1 n1 A2 c2 d1 :=
  ⟨⟨h.f.box, ⟨h.f.r1.le, h.f.r1.max, h.f.r1.at_⟩, ⟨h.f.r2.le, h.f.r2.max, h.f.r2.at_⟩⟩, h.res, ⟨h.bel.os, h.bel.tape, h.bel.output, h.bel.size, h.bel.block⟩, h.ne, h.n3⟩
theorem GvR.drew {w M : World} {g1 g3 : Nat} {t : TypeId} {s1 : Bool} {A1 : Option Addr} {c1 n1 : Nat} {A2 : Option Addr} {c2 d1 : Nat} (h : GvR w M g1 g3 t s1 A1 c1 n1 A2 c2 d1) : GvR w M.drew g1 g3 t s1 A1 c1 n1 A2 c2 d1 := h.below (Below.refl _ _).drew
theorem grid_len (s : Bool) (n d p : Nat) (up : Bool) {k : Nat} (h : (R (n * 2 ^ p)).length ≤ k) : (R (gridN s n d p up)).length ≤ k + 1 := by
  rw [R, dig_length_le B16_two] at h ⊢
  have h1 : n * 2 ^ p / d ≤ n * 2 ^ p := Nat.div_le_self _ _
  have h2 : gridN s n d p up ≤ n * 2 ^ p / d + 1 := by unfold gridN; split <;> omega
  have h3 : B16 ^ (k + 1) = B16 ^ k * B16 := Nat.pow_succ ..
  have h4 : B16 ^ k * 2 ≤ B16 ^ k * B16 := Nat.mul_le_mul_left _ B16_two
  omega
theorem R_two_pow (p : Nat) : (R (2 ^ p)).length ≤ p + 1 := by
  rw [R, dig_length_le B16_two]
  exact Nat.lt_of_lt_of_le (Nat.pow_lt_pow_right (by omega) (Nat.lt_succ_self p)) (Nat.pow_le_pow_left B16_two _)
set_option maxHeartbeats 2000000 in
set_option maxRecDepth 100000 in
theorem rScaledUp (s1 : Bool) (n1 d1 : Nat) (p : Nat) (w : World) (A1 A2 : Option Addr) (c1 c2 : Nat) (h1 : Rd w A1 c1 (R n1)) (h2 : Rd w A2 c2 (R d1)) (l1 : (R n1).length ≤ 400000) (l2 : (R d1).length ≤ 400000) (hd : d1 ≠ 0) (lp : p ≤ 1000000) (q : Rat) (hq : mkRat (sg s1 (n1 * 2 ^ p)) d1 = q) :
    Calls Tryd.prog 41 #[.agg #[.bool s1, .slice A1 (R n1).length c1, .slice A2 (R d1).length c2], .int .i64 (p : Int)] w fun e w' => ∃ s B1 m1 e1 B2 m2 e2, e = .returned (.agg #[.bool s, .slice B1 m1 e1, .slice B2 m2 e2]) ∧ Hid (IsQ w' (.agg #[.bool s, .slice B1 m1 e1, .slice B2 m2 e2]) q) ∧ Below w.heap.size w w' := by
  have T0 := Lib.hid (GvR.start (s1 := s1) (t := 39) h1 h2)
  have Z := Lib.hid hd
  have Z2 := Lib.hid (Nat.mul_ne_zero hd (Nat.ne_of_gt (Nat.two_pow_pos p)))
  have HQ := Lib.hid hq
  have LS := Lib.hid (Nat.le_trans (R_mul_length n1 (2 ^ p)) (by have := R_two_pow p; omega : _ ≤ 2000000))
  have hd2 : decide ((p : Int) < 0) = false := by simp
  have E3 := Lib.hid (wrap_i64 (p : Int) (by omega) (by omega))
  clear h1 h2 hd hq
  go_enter Tryd.func41, Tryd.ntmps41
  go_wp2_with fail
  go_region_held3 (fun W' => (World.cell? W' ⟨(w.heap.size), 0, none⟩ = some (.bool s1) ∧ World.cell? W' ⟨(w.heap.size), 1, none⟩ = some (.slice A1 (R n1).length c1) ∧ World.cell? W' ⟨(w.heap.size), 2, none⟩ = some (.slice A2 (R d1).length c2) ∧ Hid (GvR w W' (w.heap.size) (w.heap.size + 1) 39 s1 A1 c1 n1 A2 c2 d1)))
    (with_reducible (first | assumption | exact T0.out.drew.cells | exact GvR.next (by assumption) (by assumption) | exact GvR.nextS (by assumption)))
    (first
       | (go_at_call 84
          refine (rShl n1 p _ _ _ (GvR.of (by assumption)).f.r1 (by omega) (by omega)).mono ?_
          rintro e ws ⟨As, cs, rfl, rs, bs⟩)
       | (go_at_call 85
          refine (rDen _ _ _ _ _ _ _ _ (GvR.of (by assumption)).f.r2 Z.out).mono ?_
          rintro e wc ⟨Ac, cc, rfl, rc, bc⟩)
       | (go_at_call 70
          refine (Calls.parts (rMake _ _ _ _ _ _ _ _ (rs.below bc) rc Z.out LS.out (by omega))).mono ?_
          rw [HQ.out]
          rintro e we ⟨t3, B3, m3, e3, B3', m3', e3', rfl, i3, be⟩
          have hh := (GvR.of (by assumption)).below be
          obtain ⟨x, y, z, hx, hy, hz, k1, k2, k3⟩ := hh.res.cells))
  obtain ⟨q0, q1, q2, hs, hb⟩ := IsQ.stored i3.out hh.res hh.bel hh.n3
  have Q := Lib.hid (And.intro q0 (And.intro q1 q2))
  have HS := Lib.hid hs
  have HBB := Lib.hid hb
  clear q0 q1 q2 hs hb
  go_wp2
  obtain ⟨q0, q1, q2⟩ := Q.out
  refine bodyPost_ret (v := .agg #[.bool t3, .slice B3 m3 e3, .slice B3' m3' e3']) (by simp [results, Tryd.results41, go_sem, q0, q1, q2]) rfl ?_
  exact ⟨_, _, _, _, _, _, _, rfl, HS, HBB.out⟩
set_option maxHeartbeats 2000000 in
set_option maxRecDepth 100000 in
theorem rScaledDn (s1 : Bool) (n1 d1 : Nat) (p : Nat) (w : World) (A1 A2 : Option Addr) (c1 c2 : Nat) (h1 : Rd w A1 c1 (R n1)) (h2 : Rd w A2 c2 (R d1)) (l1 : (R n1).length ≤ 400000) (l2 : (R d1).length ≤ 400000) (hd : d1 ≠ 0) (lp : p ≤ 1000000) (p0 : 0 < p) (q : Rat) (hq : mkRat (sg s1 n1) (d1 * 2 ^ p) = q) :
    Calls Tryd.prog 41 #[.agg #[.bool s1, .slice A1 (R n1).length c1, .slice A2 (R d1).length c2], .int .i64 (-(p : Int))] w fun e w' => ∃ s B1 m1 e1 B2 m2 e2, e = .returned (.agg #[.bool s, .slice B1 m1 e1, .slice B2 m2 e2]) ∧ Hid (IsQ w' (.agg #[.bool s, .slice B1 m1 e1, .slice B2 m2 e2]) q) ∧ Below w.heap.size w w' := by
  have T0 := Lib.hid (GvR.start (s1 := s1) (t := 39) h1 h2)
  have Z := Lib.hid hd
  have Z2 := Lib.hid (Nat.mul_ne_zero hd (Nat.ne_of_gt (Nat.two_pow_pos p)))
  have HQ := Lib.hid hq
  have LS := Lib.hid (Nat.le_trans (R_mul_length d1 (2 ^ p)) (by have := R_two_pow p; omega : _ ≤ 2000000))
  have hd2 : decide ((-(p : Int)) < 0) = true := by simp; omega
  have E3 := Lib.hid (wrap_i64 (p : Int) (by omega) (by omega))
  clear h1 h2 hd hq
  go_enter Tryd.func41, Tryd.ntmps41
  go_wp2_with fail
  go_region_held3 (fun W' => (World.cell? W' ⟨(w.heap.size), 0, none⟩ = some (.bool s1) ∧ World.cell? W' ⟨(w.heap.size), 1, none⟩ = some (.slice A1 (R n1).length c1) ∧ World.cell? W' ⟨(w.heap.size), 2, none⟩ = some (.slice A2 (R d1).length c2) ∧ Hid (GvR w W' (w.heap.size) (w.heap.size + 1) 39 s1 A1 c1 n1 A2 c2 d1)))
    (with_reducible (first | assumption | exact T0.out.drew.cells | exact GvR.next (by assumption) (by assumption) | exact GvR.nextS (by assumption)))
    (first
       | (go_at_call 85
          refine (rDen _ _ _ _ _ _ _ _ (GvR.of (by assumption)).f.r2 Z.out).mono ?_
          rintro e wc ⟨Ac, cc, rfl, rc, bc⟩)
       | (go_at_call 84
          rw [E3.out]
          refine (rShl d1 p _ _ _ rc (by omega) (by omega)).mono ?_
          rintro e ws ⟨As, cs, rfl, rs, bs⟩)
       | (go_at_call 70
          refine (Calls.parts (rMake _ _ _ _ _ _ _ _ (GvR.of (by assumption)).f.r1 rs Z2.out (by omega) LS.out)).mono ?_
          rw [HQ.out]
          rintro e we ⟨t3, B3, m3, e3, B3', m3', e3', rfl, i3, be⟩
          have hh := (GvR.of (by assumption)).below be
          obtain ⟨x, y, z, hx, hy, hz, k1, k2, k3⟩ := hh.res.cells))
  obtain ⟨q0, q1, q2, hs, hb⟩ := IsQ.stored i3.out hh.res hh.bel hh.n3
  have Q := Lib.hid (And.intro q0 (And.intro q1 q2))
  have HS := Lib.hid hs
  have HBB := Lib.hid hb
  clear q0 q1 q2 hs hb
  go_wp2
  obtain ⟨q0, q1, q2⟩ := Q.out
  refine bodyPost_ret (v := .agg #[.bool t3, .slice B3 m3 e3, .slice B3' m3' e3']) (by simp [results, Tryd.results41, go_sem, q0, q1, q2]) rfl ?_
  exact ⟨_, _, _, _, _, _, _, rfl, HS, HBB.out⟩
end Go.Proofs.YtfmhplcpejmkhabDoor

namespace Go.Proofs.YtfmhplcpejmkhabDoor
open Go.RowKit Dig
set_option linter.unusedVariables false
set_option linter.unusedSimpArgs false
def gridQ (a : Rat) (p : Nat) (up : Bool) : Rat := mkRat (sg (ng a) (gridN (ng a) a.num.natAbs a.den p up)) (2 ^ p)
def upQ (a : Rat) (p : Nat) : Rat := mkRat (sg (ng a) (a.num.natAbs * 2 ^ p)) a.den
def dnQ (a : Rat) (p : Nat) : Rat := mkRat (sg (ng a) a.num.natAbs) (a.den * 2 ^ p)
theorem gridN_scale (s : Bool) (g n d : Nat) (up : Bool) (hg : 0 < g) : gridN s (g * n) (g * d) 0 up = gridN s n d 0 up := by
  unfold gridN
  simp only [Nat.pow_zero, Nat.mul_one]
  rw [Nat.mul_div_mul_left _ _ hg, Nat.mul_mod_mul_left]
  congr 1
  have : (g * (n % d) ≠ 0) ↔ (n % d ≠ 0) := by
    constructor
    · intro h h0; exact h (by rw [h0, Nat.mul_zero])
    · intro h h0; rcases Nat.mul_eq_zero.1 h0 with h1 | h1 <;> omega
  simp only [this]
theorem gridN_pow (s : Bool) (n d p : Nat) (up : Bool) : gridN s (n * 2 ^ p) d 0 up = gridN s n d p up := by
  unfold gridN
  simp
theorem gridN_zero (s : Bool) (d : Nat) (up : Bool) : gridN s 0 d 0 up = 0 := by
  unfold gridN
  simp
theorem grid_mk (s : Bool) (N D : Nat) (up : Bool) (hD : D ≠ 0) : gridQ (mkRat (sg s N) D) 0 up = mkRat (sg s (gridN s N D 0 up)) 1 := by
  unfold gridQ
  rw [mk_abs s N hD, mk_den s N hD, Nat.pow_zero]
  have hg : 0 < Nat.gcd N D := Nat.gcd_pos_of_pos_right _ (Nat.pos_of_ne_zero hD)
  by_cases hN : N = 0
  · subst hN
    rw [Nat.zero_div, gridN_zero, gridN_zero, sg_zero, sg_zero]
  · rw [mk_sign s hD hN]
    have e1 : gridN s N D 0 up = gridN s (Nat.gcd N D * (N / Nat.gcd N D)) (Nat.gcd N D * (D / Nat.gcd N D)) 0 up := by
      rw [Nat.mul_div_cancel' (Nat.gcd_dvd_left N D), Nat.mul_div_cancel' (Nat.gcd_dvd_right N D)]
    rw [e1, gridN_scale _ _ _ _ _ hg]
theorem top_neg (a : Rat) : -(gridQ (-a) 0 false) = gridQ a 0 true := by
  unfold gridQ
  rw [neg_abs, neg_den, ng_neg, Rat.neg_mkRat]
  by_cases h : a.num.natAbs = 0
  · rw [h, gridN_zero, gridN_zero, sg_zero, sg_zero]
    simp
  · have e : (!ng a && !decide (a.num.natAbs = 0)) = !ng a := by simp [h]
    rw [e]
    have e2 : gridN (!ng a) a.num.natAbs a.den 0 false = gridN (ng a) a.num.natAbs a.den 0 true := by
      unfold gridN
      cases ng a <;> simp
    rw [e2]
    congr 1
    unfold sg
    cases ng a <;> simp
theorem down_up (a : Rat) (p : Nat) (up : Bool) : dnQ (gridQ (upQ a p) 0 up) p = gridQ a p up := by
  unfold upQ
  rw [grid_mk _ _ _ _ a.den_nz, gridN_pow]
  unfold dnQ
  rw [sg_ng]
  rw [mk_mul_den, Rat.mkRat_self, Rat.mkRat_mul_mkRat, Int.mul_one, Nat.one_mul]
  rfl
theorem qUp (a : Rat) (p : Nat) (lp : p ≤ 1000000) (w : World) (v : Value) (h : IsQ w v a) (k : Rq 400000 a) (q : Rat) (hq : upQ a p = q) :
    Calls Tryd.prog 41 #[v, .int .i64 p] w fun e w' => ∃ s B1 m1 e1 B2 m2 e2, e = .returned (.agg #[.bool s, .slice B1 m1 e1, .slice B2 m2 e2]) ∧ Hid (IsQ w' (.agg #[.bool s, .slice B1 m1 e1, .slice B2 m2 e2]) q) ∧ Below w.heap.size w w' := by
  obtain ⟨A1, c1, A2, c2, rfl, r1, r2⟩ := h
  exact rScaledUp _ _ _ p w _ _ _ _ r1 r2 k.1 k.2 a.den_nz lp q hq
theorem qDn (a : Rat) (p : Nat) (lp : p ≤ 1000000) (w : World) (v : Value) (h : IsQ w v a) (k : Rq 400000 a) (q : Rat) (hq : dnQ a p = q) :
    Calls Tryd.prog 41 #[v, .int .i64 (-(p : Int))] w fun e w' => ∃ s B1 m1 e1 B2 m2 e2, e = .returned (.agg #[.bool s, .slice B1 m1 e1, .slice B2 m2 e2]) ∧ Hid (IsQ w' (.agg #[.bool s, .slice B1 m1 e1, .slice B2 m2 e2]) q) ∧ Below w.heap.size w w' := by
  rcases Nat.eq_zero_or_pos p with rfl | hp
  · have := qUp a 0 lp w v h k q (by rw [← hq]; unfold upQ dnQ; simp)
    simpa using this
  · obtain ⟨A1, c1, A2, c2, rfl, r1, r2⟩ := h
    exact rScaledDn _ _ _ p w _ _ _ _ r1 r2 k.1 k.2 a.den_nz lp hp q hq
theorem grid_Rq {a : Rat} {k : Nat} (h : Rq k a) (p : Nat) (up : Bool) : Rq (k + p + 3) (gridQ a p up) := by
  have h1 := R_mul_length a.num.natAbs (2 ^ p)
  have h2 := R_two_pow p
  have h3 := h.1
  refine mk_Rq (Nat.ne_of_gt (Nat.two_pow_pos p)) ?_ (Nat.le_trans h2 (by omega))
  rw [sg_abs]
  exact Nat.le_trans (grid_len _ _ _ _ _ (k := k + p + 1) (by omega)) (by omega)
theorem up_Rq {a : Rat} {k : Nat} (h : Rq k a) (p : Nat) : Rq (k + p + 3) (upQ a p) := by
  have h1 := R_mul_length a.num.natAbs (2 ^ p)
  have h2 := R_two_pow p
  have h3 := h.1
  refine mk_Rq a.den_nz ?_ (Nat.le_trans h.2 (by omega))
  rw [sg_abs]
  omega
end Go.Proofs.YtfmhplcpejmkhabDoor

namespace Go.Proofs.YtfmhplcpejmkhabDoor
open Go.RowKit Dig
set_option linter.unusedVariables false
set_option linter.unusedSimpArgs false
/-- the absolute value -/
def absQ (a : Rat) : Rat := if ng a = true then -a else a
theorem absQ_facts (a : Rat) : ng (absQ a) = false ∧ (absQ a).num.natAbs = a.num.natAbs ∧ (absQ a).den = a.den := by
  unfold absQ
  by_cases h : ng a = true
  · rw [if_pos h, ng_neg, neg_abs, neg_den, h]
    exact ⟨rfl, rfl, rfl⟩
  · rw [if_neg h]
    exact ⟨by simpa using h, rfl, rfl⟩
set_option maxHeartbeats 1000000 in
set_option maxRecDepth 100000 in
theorem nNeg (s1 : Bool) (N1 D1 : Nat) (w : World) (v1 : Value) (h1 : RawV w v1 s1 N1 D1) (hT : Tab w) :
    Calls Tryd.prog 21 #[v1] w (OutPost w (if largeB s1 N1 D1 then .err 1 else give (-(ratOf s1 N1 D1)))) := by
  have H1 := Lib.hid h1
  have HT := Lib.hid hT
  obtain ⟨A1, n1, c1, A1', n1', c1', rfl⟩ := h1.shape
  clear h1 hT
  obtain ⟨M, hM, k1, k3, bM⟩ := start1 w (.bool s1) (.slice A1 n1 c1) (.slice A1' n1' c1') (.bool false) (.slice none 0 0) (.slice none 0 0) 24 24
  have HX := Lib.hid k1
  have HR := Lib.hid (show Res M (w.heap.size + 1) 24 from ⟨_, _, _, NI.bool _, NI.slice _ _ _, NI.slice _ _ _, k3⟩)
  have BM := Lib.hid bM
  replace H1 := Lib.hid (H1.out.below bM)
  replace HT := Lib.hid (HT.out.below bM)
  have C := Lib.hid (nOne 65 (-(ratOf s1 N1 D1)) s1 N1 D1 M _ H1.out HT.out (fun _ _ => Tryd.call65 ..) (fun w u1 i1 f1 t => fNeg _ w u1 i1))
  obtain ⟨o, ho⟩ : ∃ o, (if largeB s1 N1 D1 = true then Out.err 1 else give (-(ratOf s1 N1 D1))) = o := ⟨_, rfl⟩
  rw [ho] at C
  rw [ho]
  clear k1 k3 bM ho
  go_enter Tryd.func21, Tryd.ntmps21
  go_upto_region 1 with (fail)
  rw [← hM]
  clear hM
  obtain ⟨x1, x2, x3, _, _, _⟩ := HX.out.cells
  go_wp2_with fail
  refine C.out.mono ?_
  rintro e we ⟨s9, A9, n9, c9, A9', n9', c9', k9, rfl, h9, b9⟩
  replace HR := Lib.hid (HR.out.below b9)
  have BE := Lib.hid (below_step BM.out BM.out.size b9)
  obtain ⟨q0, q1, q2, hs, hb⟩ := OutIs.stored h9 HR.out BE.out (by omega)
  have Q := Lib.hid (And.intro q0 (And.intro q1 q2))
  have HS := Lib.hid hs
  have HB := Lib.hid hb
  clear b9 h9 q0 q1 q2 hs hb x1 x2 x3
  obtain ⟨r1, r2, r3, hr1, hr2, hr3, _, _, _⟩ := HR.out.cells
  go_wp2_with fail
  obtain ⟨q0, q1, q2⟩ := Q.out
  refine bodyPost_ret (v := .tuple #[.agg #[.bool s9, .slice A9 n9 c9, .slice A9' n9' c9'], .int .i64 k9]) (by simp [results, Tryd.results21, go_sem, q0, q1, q2]) rfl ?_
  exact ⟨_, _, _, _, _, _, _, _, rfl, HS.out, HB.out⟩
theorem fAbs (a : Rat) (w : World) (v1 : Value) (h1 : IsF w v1 a) : Calls Tryd.prog 66 #[v1] w fun e w' => ∃ u, e = .returned u ∧ IsF w' u (absQ a) ∧ Below w.heap.size w w' := by
  obtain ⟨A1, c1, A2, c2, rfl, r1, r2⟩ := h1
  refine (fracAbs _ _ _ w _ _ _ _ r1 r2).mono ?_
  rintro e w' ⟨u, rfl, hu, hb⟩
  obtain ⟨e1, e2, e3⟩ := absQ_facts a
  exact ⟨u, rfl, by unfold IsF; rw [e1, e2, e3]; exact hu, hb⟩
set_option maxHeartbeats 1000000 in
set_option maxRecDepth 100000 in
theorem nAbs (s1 : Bool) (N1 D1 : Nat) (w : World) (v1 : Value) (h1 : RawV w v1 s1 N1 D1) (hT : Tab w) :
    Calls Tryd.prog 22 #[v1] w (OutPost w (if largeB s1 N1 D1 then .err 1 else give (absQ (ratOf s1 N1 D1)))) := by
  have H1 := Lib.hid h1
  have HT := Lib.hid hT
  obtain ⟨A1, n1, c1, A1', n1', c1', rfl⟩ := h1.shape
  clear h1 hT
  obtain ⟨M, hM, k1, k3, bM⟩ := start1 w (.bool s1) (.slice A1 n1 c1) (.slice A1' n1' c1') (.bool false) (.slice none 0 0) (.slice none 0 0) 24 24
  have HX := Lib.hid k1
  have HR := Lib.hid (show Res M (w.heap.size + 1) 24 from ⟨_, _, _, NI.bool _, NI.slice _ _ _, NI.slice _ _ _, k3⟩)
  have BM := Lib.hid bM
  replace H1 := Lib.hid (H1.out.below bM)
  replace HT := Lib.hid (HT.out.below bM)
  have C := Lib.hid (nOne 66 (absQ (ratOf s1 N1 D1)) s1 N1 D1 M _ H1.out HT.out (fun _ _ => Tryd.call66 ..) (fun w u1 i1 f1 t => fAbs _ w u1 i1))
  obtain ⟨o, ho⟩ : ∃ o, (if largeB s1 N1 D1 = true then Out.err 1 else give (absQ (ratOf s1 N1 D1))) = o := ⟨_, rfl⟩
  rw [ho] at C
  rw [ho]
  clear k1 k3 bM ho
  go_enter Tryd.func22, Tryd.ntmps22
  go_upto_region 1 with (fail)
  rw [← hM]
  clear hM
  obtain ⟨x1, x2, x3, _, _, _⟩ := HX.out.cells
  go_wp2_with fail
  refine C.out.mono ?_
  rintro e we ⟨s9, A9, n9, c9, A9', n9', c9', k9, rfl, h9, b9⟩
  replace HR := Lib.hid (HR.out.below b9)
  have BE := Lib.hid (below_step BM.out BM.out.size b9)
  obtain ⟨q0, q1, q2, hs, hb⟩ := OutIs.stored h9 HR.out BE.out (by omega)
  have Q := Lib.hid (And.intro q0 (And.intro q1 q2))
  have HS := Lib.hid hs
  have HB := Lib.hid hb
  clear b9 h9 q0 q1 q2 hs hb x1 x2 x3
  obtain ⟨r1, r2, r3, hr1, hr2, hr3, _, _, _⟩ := HR.out.cells
  go_wp2_with fail
  obtain ⟨q0, q1, q2⟩ := Q.out
  refine bodyPost_ret (v := .tuple #[.agg #[.bool s9, .slice A9 n9 c9, .slice A9' n9' c9'], .int .i64 k9]) (by simp [results, Tryd.results22, go_sem, q0, q1, q2]) rfl ?_
  exact ⟨_, _, _, _, _, _, _, _, rfl, HS.out, HB.out⟩
end Go.Proofs.YtfmhplcpejmkhabDoor

namespace Go.Proofs.YtfmhplcpejmkhabDoor
open Go.RowKit Dig
set_option linter.unusedVariables false
set_option linter.unusedSimpArgs false
end Go.Proofs.YtfmhplcpejmkhabDoor
