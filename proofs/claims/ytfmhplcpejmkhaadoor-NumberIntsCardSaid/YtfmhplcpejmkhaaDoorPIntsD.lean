/-
  Contracts of the reference's rational numbers: Bottom, Top, Scaled, GridDown, GridUp.
  The reference's Bottom, Top, Scaled, GridDown, GridUp over rational numbers, and what they are in the program's words.
  Contracts of number.Canon, Neg, Abs, Floor, Ceil. Under the premise that the table of math/bits lies as its initialiser lays it.
  Contracts of the reference's Floor, Ceil, Grid.
  Contracts of number.round, Down, Up. Under the premise that the table of math/bits lies as its initialiser lays it.
  Contracts of two values that have been read.
  Words for the statements' walks: values in variables that stay.
  Contracts: number.FromInt; and canonical values in variables. Under the premise that the table of math/bits lies as its initialiser lays it.
  Contract of the statements' own awake.
  The walk of the statement NumberCanons. Under the premise that the table of math/bits lies as its initialiser lays it.
  The walk of the statement NumberInts. Under the premise that the table of math/bits lies as its initialiser lays it.
  From a row's reading to the walks' premises: a number as it comes in, the table of math/bits, and what an answer 'true' over untouched arguments gives.
  The statement NumberIntsCardSaid: the row, and the card over it. Conditions: the walks' none but what the row's reading and its listed table give.
-/
import Derived.Test.YtfmhplcpejmkhaaDoorCards
import Derived.Test.YtfmhplcpejmkhaaDoorTie
import Derived.WalkKit
import Derived.ProofKit
import Derived.OpenShut
import Derived.Carry
import Derived.Deep.DeepHandedRow
import Derived.Lib.LaidTab
import Derived.Lib.SmallJoins
import Derived.ChangeSlices
import Derived.Test.YtfmhplcpejmkhaaDoorPIntsC
namespace Go.Proofs.YtfmhplcpejmkhaaDoor
open Go.RowKit Dig
set_option linter.unusedVariables false
set_option linter.unusedSimpArgs false
theorem GvR.undrawn {w M : World} {g1 g3 : Nat} {t : TypeId} {s1 : Bool} {A1 : Option Addr} {c1 n1 : Nat} {A2 : Option Addr} {c2 d1 : Nat} (h : GvR w M.drew g1 g3 t s1 A1 c1 n1 A2 c2 d1) : GvR w M g1 g3 t s1 A1 c1 n1 A2 c2 d1 :=
  ⟨⟨h.f.box, ⟨h.f.r1.le, h.f.r1.max, h.f.r1.at_⟩, ⟨h.f.r2.le, h.f.r2.max, h.f.r2.at_⟩⟩, h.res, ⟨h.bel.os, h.bel.tape, h.bel.output, h.bel.size, h.bel.block⟩, h.ne, h.n3⟩
theorem GvR.drew {w M : World} {g1 g3 : Nat} {t : TypeId} {s1 : Bool} {A1 : Option Addr} {c1 n1 : Nat} {A2 : Option Addr} {c2 d1 : Nat} (h : GvR w M g1 g3 t s1 A1 c1 n1 A2 c2 d1) : GvR w M.drew g1 g3 t s1 A1 c1 n1 A2 c2 d1 := h.below (Below.refl _ _).drew
theorem grid_len (s : Bool) (n d p : Nat) (up : Bool) {k : Nat} (h : (R (n * 2 ^ p)).length ≤ k) : (R (gridN s n d p up)).length ≤ k + 1 := by
  rw [R, dig_length_le B16_two] at h ⊢
  have h1 : n * 2 ^ p / d ≤ n * 2 ^ p := Nat.div_le_self _ _
  have h2 : gridN s n d p up ≤ n * 2 ^ p / d + 1 := by unfold gridN; split <;> omega
  have h3 : B16 ^ (k + 1) = B16 ^ k * B16 := Nat.pow_succ ..
  have h4 : B16 ^ k * 2 ≤ B16 ^ k * B16 := Nat.mul_le_mul_left _ B16_two
  omega
set_option maxHeartbeats 4000000 in
set_option maxRecDepth 100000 in
theorem rBottom (s1 : Bool) (n1 d1 : Nat) (w : World) (A1 A2 : Option Addr) (c1 c2 : Nat) (h1 : Rd w A1 c1 (R n1)) (h2 : Rd w A2 c2 (R d1)) (l1 : (R n1).length ≤ 400000) (l2 : (R d1).length ≤ 400000) (hd : d1 ≠ 0) (q : Rat) (hq : mkRat (sg s1 (gridN s1 n1 d1 0 false)) 1 = q) :
    Calls Tryd.prog 101 #[.agg #[.bool s1, .slice A1 (R n1).length c1, .slice A2 (R d1).length c2]] w fun e w' => ∃ s B1 m1 e1 B2 m2 e2, e = .returned (.agg #[.bool s, .slice B1 m1 e1, .slice B2 m2 e2]) ∧ Hid (IsQ w' (.agg #[.bool s, .slice B1 m1 e1, .slice B2 m2 e2]) q) ∧ Below w.heap.size w w' := by
  have T0 := Lib.hid (GvR.start (s1 := s1) (t := 37) h1 h2)
  have Z := Lib.hid hd
  have HQ := Lib.hid hq
  have L1 := Lib.hid (R_len4 (n := 1) (by omega))
  obtain ⟨k, hk⟩ : ∃ k, n1 / d1 = k := ⟨_, rfl⟩
  obtain ⟨r, hr⟩ : ∃ r, n1 % d1 = r := ⟨_, rfl⟩
  have hlk : (R k).length ≤ 400000 := by
    rw [R, dig_length_le B16_two] at l1 ⊢
    have := Nat.div_le_self n1 d1
    omega
  have LK := Lib.hid hlk
  have HK := Lib.hid hk
  have HR := Lib.hid hr
  have G := Lib.hid (show gridN s1 n1 d1 0 false = if s1 = true ∧ r ≠ 0 then k + 1 else k by
    unfold gridN
    simp only [Nat.pow_zero, Nat.mul_one, hk, hr]
    cases s1 <;> simp
    by_cases h0 : r = 0 <;> simp [h0])
  have h5 := R_add_length k 1
  have h6 : (R 1).length = 1 := by rw [R_one]; rfl
  have LK1 := Lib.hid (show (R (k + 1)).length ≤ 400002 by omega)
  clear h5 h6
  clear h1 h2 hd hq hk hr hlk
  go_enter Tryd.func101, Tryd.ntmps101
  go_wp2_with fail
  go_region_held3 (fun W' => (World.cell? W' ⟨(w.heap.size), 0, none⟩ = some (.bool s1) ∧ World.cell? W' ⟨(w.heap.size), 1, none⟩ = some (.slice A1 (R n1).length c1) ∧ World.cell? W' ⟨(w.heap.size), 2, none⟩ = some (.slice A2 (R d1).length c2) ∧ Hid (GvR w W' (w.heap.size) (w.heap.size + 1) 37 s1 A1 c1 n1 A2 c2 d1)))
    (with_reducible (first | assumption | exact T0.out.drew.cells | exact GvR.next (by assumption) (by assumption) | exact GvR.nextS (by assumption)))
    (first
       | (go_at_call 72
          refine (rDen _ _ _ _ _ _ _ _ (GvR.of (by assumption)).f.r2 Z.out).mono ?_
          rintro e wc ⟨Ac, cc, rfl, rc, bc⟩)
       | (go_at_call 123
          refine (rDiv n1 d1 _ _ _ _ _ (GvR.of (by assumption)).f.r1 rc (by omega) (Nat.pos_of_ne_zero Z.out)).mono ?_
          rw [HK.out, HR.out]
          rintro e wa ⟨Aa, ca, Ab, cb, rfl, ra, rb, ba⟩
          have hh := (GvR.of (by assumption)).below ba))
  obtain ⟨bb, hbb⟩ : ∃ bb, decide (0 < (R r).length) = bb := ⟨_, rfl⟩
  have hbb2 : decide ((0 : Int) < ((R r).length : Int)) = bb := by rw [← hbb]; simp
  have HB := Lib.hid (show (!decide (r = 0)) = bb by rw [← R_len_pos, hbb])
  have TT := Lib.hid hh
  have RA := Lib.hid ra
  clear hh ra rb ba bc rc
  rcases s1 with _ | _
  · obtain ⟨a1, a2, a3, _⟩ := TT.out.cells
    rw [if_neg (by simp)] at G
    rw [G.out] at HQ
    go_wp2_with fail
    go_region_held3 (fun W' => (World.cell? W' ⟨(w.heap.size), 0, none⟩ = some (.bool false) ∧ World.cell? W' ⟨(w.heap.size), 1, none⟩ = some (.slice A1 (R n1).length c1) ∧ World.cell? W' ⟨(w.heap.size), 2, none⟩ = some (.slice A2 (R d1).length c2) ∧ Hid (GvR w W' (w.heap.size) (w.heap.size + 1) 37 false A1 c1 n1 A2 c2 d1)))
      (with_reducible (first | assumption | exact TT.out.drew.cells | exact GvR.next (by assumption) (by assumption) | exact GvR.nextS (by assumption)))
      (first
       | (go_at_call 73
          refine (rNatOf1 _).mono ?_
          rintro e wn ⟨An, cn, rfl, rn, bn⟩)
       | (go_at_call 74
          refine (Calls.parts (rMake _ k 1 _ _ _ _ _ ((RA.out.below (Below.refl _ _).drew).below bn) rn (by omega) (Nat.le_trans LK.out (by omega)) L1.out)).mono ?_
          rw [HQ.out]
          rintro e we ⟨t3, B3, m3, e3, B3', m3', e3', rfl, i3, be⟩
          have hh := (GvR.of (by assumption)).below be
          obtain ⟨x, y, z, hx, hy, hz, k1, k2, k3⟩ := hh.res.cells))
    obtain ⟨q0, q1, q2, hs, hb⟩ := IsQ.stored i3.out hh.res hh.bel hh.n3
    have Q := Lib.hid (And.intro q0 (And.intro q1 q2))
    have HS := Lib.hid hs
    have HBB := Lib.hid hb
    clear q0 q1 q2 hs hb
    go_wp2
    obtain ⟨q0, q1, q2⟩ := Q.out
    refine bodyPost_ret (v := .agg #[.bool t3, .slice B3 m3 e3, .slice B3' m3' e3']) (by simp [results, Tryd.results101, go_sem, q0, q1, q2]) rfl ?_
    exact ⟨_, _, _, _, _, _, _, rfl, HS, HBB.out⟩
  · rcases bb with _ | _
    · obtain ⟨a1, a2, a3, _⟩ := TT.out.cells
      have hr0 : r = 0 := by have := HB.out; simpa using this
      rw [if_neg (by simp [hr0])] at G
      rw [G.out] at HQ
      clear hr0
      go_wp2_with fail
      go_region_held3 (fun W' => (World.cell? W' ⟨(w.heap.size), 0, none⟩ = some (.bool true) ∧ World.cell? W' ⟨(w.heap.size), 1, none⟩ = some (.slice A1 (R n1).length c1) ∧ World.cell? W' ⟨(w.heap.size), 2, none⟩ = some (.slice A2 (R d1).length c2) ∧ Hid (GvR w W' (w.heap.size) (w.heap.size + 1) 37 true A1 c1 n1 A2 c2 d1)))
        (with_reducible (first | assumption | exact TT.out.drew.cells | exact GvR.next (by assumption) (by assumption) | exact GvR.nextS (by assumption)))
        (first
         | (go_at_call 73
            refine (rNatOf1 _).mono ?_
            rintro e wn ⟨An, cn, rfl, rn, bn⟩)
         | (go_at_call 74
            refine (Calls.parts (rMake _ k 1 _ _ _ _ _ ((RA.out.below (Below.refl _ _).drew).below bn) rn (by omega) (Nat.le_trans LK.out (by omega)) L1.out)).mono ?_
            rw [HQ.out]
            rintro e we ⟨t3, B3, m3, e3, B3', m3', e3', rfl, i3, be⟩
            have hh := (GvR.of (by assumption)).below be
            obtain ⟨x, y, z, hx, hy, hz, k1, k2, k3⟩ := hh.res.cells))
      obtain ⟨q0, q1, q2, hs, hb⟩ := IsQ.stored i3.out hh.res hh.bel hh.n3
      have Q := Lib.hid (And.intro q0 (And.intro q1 q2))
      have HS := Lib.hid hs
      have HBB := Lib.hid hb
      clear q0 q1 q2 hs hb
      go_wp2
      obtain ⟨q0, q1, q2⟩ := Q.out
      refine bodyPost_ret (v := .agg #[.bool t3, .slice B3 m3 e3, .slice B3' m3' e3']) (by simp [results, Tryd.results101, go_sem, q0, q1, q2]) rfl ?_
      exact ⟨_, _, _, _, _, _, _, rfl, HS, HBB.out⟩
    · obtain ⟨a1, a2, a3, _⟩ := TT.out.cells
      have hr0 : r ≠ 0 := by have := HB.out; simpa using this
      rw [if_pos ⟨rfl, hr0⟩] at G
      rw [G.out] at HQ
      clear hr0
      go_wp2_with fail
      refine (rNatOf1 _).mono ?_
      rintro e wn ⟨An, cn, rfl, rn, bn⟩
      replace RA := Lib.hid (RA.out.below bn)
      have TT := Lib.hid (TT.out.below bn)
      have RN := Lib.hid rn
      clear bn rn a1 a2 a3
      go_wp2_with fail
      refine (rAdd k 1 _ _ _ _ _ RA.out RN.out (Nat.le_trans LK.out (by omega)) (Nat.le_trans L1.out (by omega))).mono ?_
      rintro e wm ⟨Am, cm, rfl, rm, bm⟩
      have TT := Lib.hid (TT.out.below bm)
      have RA := Lib.hid rm
      clear bm rm
      obtain ⟨a1, a2, a3, _⟩ := TT.out.cells
      go_wp2_with fail
      go_region_held3 (fun W' => (World.cell? W' ⟨(w.heap.size), 0, none⟩ = some (.bool true) ∧ World.cell? W' ⟨(w.heap.size), 1, none⟩ = some (.slice A1 (R n1).length c1) ∧ World.cell? W' ⟨(w.heap.size), 2, none⟩ = some (.slice A2 (R d1).length c2) ∧ Hid (GvR w W' (w.heap.size) (w.heap.size + 1) 37 true A1 c1 n1 A2 c2 d1)))
        (with_reducible (first | assumption | exact TT.out.drew.cells | exact GvR.next (by assumption) (by assumption) | exact GvR.nextS (by assumption)))
        (first
         | (go_at_call 73
            refine (rNatOf1 _).mono ?_
            rintro e wn ⟨An, cn, rfl, rn, bn⟩)
         | (go_at_call 74
            refine (Calls.parts (rMake _ (k + 1) 1 _ _ _ _ _ ((RA.out.below (Below.refl _ _).drew).below bn) rn (by omega) (Nat.le_trans LK1.out (by omega)) L1.out)).mono ?_
            rw [HQ.out]
            rintro e we ⟨t3, B3, m3, e3, B3', m3', e3', rfl, i3, be⟩
            have hh := (GvR.of (by assumption)).below be
            obtain ⟨x, y, z, hx, hy, hz, k1, k2, k3⟩ := hh.res.cells))
      obtain ⟨q0, q1, q2, hs, hb⟩ := IsQ.stored i3.out hh.res hh.bel hh.n3
      have Q := Lib.hid (And.intro q0 (And.intro q1 q2))
      have HS := Lib.hid hs
      have HBB := Lib.hid hb
      clear q0 q1 q2 hs hb
      go_wp2
      obtain ⟨q0, q1, q2⟩ := Q.out
      refine bodyPost_ret (v := .agg #[.bool t3, .slice B3 m3 e3, .slice B3' m3' e3']) (by simp [results, Tryd.results101, go_sem, q0, q1, q2]) rfl ?_
      exact ⟨_, _, _, _, _, _, _, rfl, HS, HBB.out⟩
theorem R_two_pow (p : Nat) : (R (2 ^ p)).length ≤ p + 1 := by
  rw [R, dig_length_le B16_two]
  exact Nat.lt_of_lt_of_le (Nat.pow_lt_pow_right (by omega) (Nat.lt_succ_self p)) (Nat.pow_le_pow_left B16_two _)
set_option maxHeartbeats 2000000 in
set_option maxRecDepth 100000 in
theorem rScaledUp (s1 : Bool) (n1 d1 : Nat) (p : Nat) (w : World) (A1 A2 : Option Addr) (c1 c2 : Nat) (h1 : Rd w A1 c1 (R n1)) (h2 : Rd w A2 c2 (R d1)) (l1 : (R n1).length ≤ 400000) (l2 : (R d1).length ≤ 400000) (hd : d1 ≠ 0) (lp : p ≤ 1000000) (q : Rat) (hq : mkRat (sg s1 (n1 * 2 ^ p)) d1 = q) :
    Calls Tryd.prog 127 #[.agg #[.bool s1, .slice A1 (R n1).length c1, .slice A2 (R d1).length c2], .int .i64 (p : Int)] w fun e w' => ∃ s B1 m1 e1 B2 m2 e2, e = .returned (.agg #[.bool s, .slice B1 m1 e1, .slice B2 m2 e2]) ∧ Hid (IsQ w' (.agg #[.bool s, .slice B1 m1 e1, .slice B2 m2 e2]) q) ∧ Below w.heap.size w w' := by
  have T0 := Lib.hid (GvR.start (s1 := s1) (t := 37) h1 h2)
  have Z := Lib.hid hd
  have Z2 := Lib.hid (Nat.mul_ne_zero hd (Nat.ne_of_gt (Nat.two_pow_pos p)))
  have HQ := Lib.hid hq
  have LS := Lib.hid (Nat.le_trans (R_mul_length n1 (2 ^ p)) (by have := R_two_pow p; omega : _ ≤ 2000000))
  have hd2 : decide ((p : Int) < 0) = false := by simp
  have E3 := Lib.hid (wrap_i64 (p : Int) (by omega) (by omega))
  clear h1 h2 hd hq
  go_enter Tryd.func127, Tryd.ntmps127
  go_wp2_with fail
  go_region_held3 (fun W' => (World.cell? W' ⟨(w.heap.size), 0, none⟩ = some (.bool s1) ∧ World.cell? W' ⟨(w.heap.size), 1, none⟩ = some (.slice A1 (R n1).length c1) ∧ World.cell? W' ⟨(w.heap.size), 2, none⟩ = some (.slice A2 (R d1).length c2) ∧ Hid (GvR w W' (w.heap.size) (w.heap.size + 1) 37 s1 A1 c1 n1 A2 c2 d1)))
    (with_reducible (first | assumption | exact T0.out.drew.cells | exact GvR.next (by assumption) (by assumption) | exact GvR.nextS (by assumption)))
    (first
       | (go_at_call 132
          refine (rShl n1 p _ _ _ (GvR.of (by assumption)).f.r1 (by omega) (by omega)).mono ?_
          rintro e ws ⟨As, cs, rfl, rs, bs⟩)
       | (go_at_call 72
          refine (rDen _ _ _ _ _ _ _ _ (GvR.of (by assumption)).f.r2 Z.out).mono ?_
          rintro e wc ⟨Ac, cc, rfl, rc, bc⟩)
       | (go_at_call 74
          refine (Calls.parts (rMake _ _ _ _ _ _ _ _ (rs.below bc) rc Z.out LS.out (by omega))).mono ?_
          rw [HQ.out]
          rintro e we ⟨t3, B3, m3, e3, B3', m3', e3', rfl, i3, be⟩
          have hh := (GvR.of (by assumption)).below be
          obtain ⟨x, y, z, hx, hy, hz, k1, k2, k3⟩ := hh.res.cells))
  obtain ⟨q0, q1, q2, hs, hb⟩ := IsQ.stored i3.out hh.res hh.bel hh.n3
  have Q := Lib.hid (And.intro q0 (And.intro q1 q2))
  have HS := Lib.hid hs
  have HBB := Lib.hid hb
  clear q0 q1 q2 hs hb
  go_wp2
  obtain ⟨q0, q1, q2⟩ := Q.out
  refine bodyPost_ret (v := .agg #[.bool t3, .slice B3 m3 e3, .slice B3' m3' e3']) (by simp [results, Tryd.results127, go_sem, q0, q1, q2]) rfl ?_
  exact ⟨_, _, _, _, _, _, _, rfl, HS, HBB.out⟩
set_option maxHeartbeats 2000000 in
set_option maxRecDepth 100000 in
theorem rScaledDn (s1 : Bool) (n1 d1 : Nat) (p : Nat) (w : World) (A1 A2 : Option Addr) (c1 c2 : Nat) (h1 : Rd w A1 c1 (R n1)) (h2 : Rd w A2 c2 (R d1)) (l1 : (R n1).length ≤ 400000) (l2 : (R d1).length ≤ 400000) (hd : d1 ≠ 0) (lp : p ≤ 1000000) (p0 : 0 < p) (q : Rat) (hq : mkRat (sg s1 n1) (d1 * 2 ^ p) = q) :
    Calls Tryd.prog 127 #[.agg #[.bool s1, .slice A1 (R n1).length c1, .slice A2 (R d1).length c2], .int .i64 (-(p : Int))] w fun e w' => ∃ s B1 m1 e1 B2 m2 e2, e = .returned (.agg #[.bool s, .slice B1 m1 e1, .slice B2 m2 e2]) ∧ Hid (IsQ w' (.agg #[.bool s, .slice B1 m1 e1, .slice B2 m2 e2]) q) ∧ Below w.heap.size w w' := by
  have T0 := Lib.hid (GvR.start (s1 := s1) (t := 37) h1 h2)
  have Z := Lib.hid hd
  have Z2 := Lib.hid (Nat.mul_ne_zero hd (Nat.ne_of_gt (Nat.two_pow_pos p)))
  have HQ := Lib.hid hq
  have LS := Lib.hid (Nat.le_trans (R_mul_length d1 (2 ^ p)) (by have := R_two_pow p; omega : _ ≤ 2000000))
  have hd2 : decide ((-(p : Int)) < 0) = true := by simp; omega
  have E3 := Lib.hid (wrap_i64 (p : Int) (by omega) (by omega))
  clear h1 h2 hd hq
  go_enter Tryd.func127, Tryd.ntmps127
  go_wp2_with fail
  go_region_held3 (fun W' => (World.cell? W' ⟨(w.heap.size), 0, none⟩ = some (.bool s1) ∧ World.cell? W' ⟨(w.heap.size), 1, none⟩ = some (.slice A1 (R n1).length c1) ∧ World.cell? W' ⟨(w.heap.size), 2, none⟩ = some (.slice A2 (R d1).length c2) ∧ Hid (GvR w W' (w.heap.size) (w.heap.size + 1) 37 s1 A1 c1 n1 A2 c2 d1)))
    (with_reducible (first | assumption | exact T0.out.drew.cells | exact GvR.next (by assumption) (by assumption) | exact GvR.nextS (by assumption)))
    (first
       | (go_at_call 72
          refine (rDen _ _ _ _ _ _ _ _ (GvR.of (by assumption)).f.r2 Z.out).mono ?_
          rintro e wc ⟨Ac, cc, rfl, rc, bc⟩)
       | (go_at_call 132
          rw [E3.out]
          refine (rShl d1 p _ _ _ rc (by omega) (by omega)).mono ?_
          rintro e ws ⟨As, cs, rfl, rs, bs⟩)
       | (go_at_call 74
          refine (Calls.parts (rMake _ _ _ _ _ _ _ _ (GvR.of (by assumption)).f.r1 rs Z2.out (by omega) LS.out)).mono ?_
          rw [HQ.out]
          rintro e we ⟨t3, B3, m3, e3, B3', m3', e3', rfl, i3, be⟩
          have hh := (GvR.of (by assumption)).below be
          obtain ⟨x, y, z, hx, hy, hz, k1, k2, k3⟩ := hh.res.cells))
  obtain ⟨q0, q1, q2, hs, hb⟩ := IsQ.stored i3.out hh.res hh.bel hh.n3
  have Q := Lib.hid (And.intro q0 (And.intro q1 q2))
  have HS := Lib.hid hs
  have HBB := Lib.hid hb
  clear q0 q1 q2 hs hb
  go_wp2
  obtain ⟨q0, q1, q2⟩ := Q.out
  refine bodyPost_ret (v := .agg #[.bool t3, .slice B3 m3 e3, .slice B3' m3' e3']) (by simp [results, Tryd.results127, go_sem, q0, q1, q2]) rfl ?_
  exact ⟨_, _, _, _, _, _, _, rfl, HS, HBB.out⟩
end Go.Proofs.YtfmhplcpejmkhaaDoor

namespace Go.Proofs.YtfmhplcpejmkhaaDoor
open Go.RowKit Dig
set_option linter.unusedVariables false
set_option linter.unusedSimpArgs false
def gridQ (a : Rat) (p : Nat) (up : Bool) : Rat := mkRat (sg (ng a) (gridN (ng a) a.num.natAbs a.den p up)) (2 ^ p)
def upQ (a : Rat) (p : Nat) : Rat := mkRat (sg (ng a) (a.num.natAbs * 2 ^ p)) a.den
def dnQ (a : Rat) (p : Nat) : Rat := mkRat (sg (ng a) a.num.natAbs) (a.den * 2 ^ p)
theorem gridN_scale (s : Bool) (g n d : Nat) (up : Bool) (hg : 0 < g) : gridN s (g * n) (g * d) 0 up = gridN s n d 0 up := by
  unfold gridN
  simp only [Nat.pow_zero, Nat.mul_one]
  rw [Nat.mul_div_mul_left _ _ hg, Nat.mul_mod_mul_left]
  congr 1
  have : (g * (n % d) ≠ 0) ↔ (n % d ≠ 0) := by
    constructor
    · intro h h0; exact h (by rw [h0, Nat.mul_zero])
    · intro h h0; rcases Nat.mul_eq_zero.1 h0 with h1 | h1 <;> omega
  simp only [this]
theorem gridN_pow (s : Bool) (n d p : Nat) (up : Bool) : gridN s (n * 2 ^ p) d 0 up = gridN s n d p up := by
  unfold gridN
  simp
theorem gridN_zero (s : Bool) (d : Nat) (up : Bool) : gridN s 0 d 0 up = 0 := by
  unfold gridN
  simp
theorem grid_mk (s : Bool) (N D : Nat) (up : Bool) (hD : D ≠ 0) : gridQ (mkRat (sg s N) D) 0 up = mkRat (sg s (gridN s N D 0 up)) 1 := by
  unfold gridQ
  rw [mk_abs s N hD, mk_den s N hD, Nat.pow_zero]
  have hg : 0 < Nat.gcd N D := Nat.gcd_pos_of_pos_right _ (Nat.pos_of_ne_zero hD)
  by_cases hN : N = 0
  · subst hN
    rw [Nat.zero_div, gridN_zero, gridN_zero, sg_zero, sg_zero]
  · rw [mk_sign s hD hN]
    have e1 : gridN s N D 0 up = gridN s (Nat.gcd N D * (N / Nat.gcd N D)) (Nat.gcd N D * (D / Nat.gcd N D)) 0 up := by
      rw [Nat.mul_div_cancel' (Nat.gcd_dvd_left N D), Nat.mul_div_cancel' (Nat.gcd_dvd_right N D)]
    rw [e1, gridN_scale _ _ _ _ _ hg]
theorem top_neg (a : Rat) : -(gridQ (-a) 0 false) = gridQ a 0 true := by
  unfold gridQ
  rw [neg_abs, neg_den, ng_neg, Rat.neg_mkRat]
  by_cases h : a.num.natAbs = 0
  · rw [h, gridN_zero, gridN_zero, sg_zero, sg_zero]
    simp
  · have e : (!ng a && !decide (a.num.natAbs = 0)) = !ng a := by simp [h]
    rw [e]
    have e2 : gridN (!ng a) a.num.natAbs a.den 0 false = gridN (ng a) a.num.natAbs a.den 0 true := by
      unfold gridN
      cases ng a <;> simp
    rw [e2]
    congr 1
    unfold sg
    cases ng a <;> simp
theorem down_up (a : Rat) (p : Nat) (up : Bool) : dnQ (gridQ (upQ a p) 0 up) p = gridQ a p up := by
  unfold upQ
  rw [grid_mk _ _ _ _ a.den_nz, gridN_pow]
  unfold dnQ
  rw [sg_ng]
  rw [mk_mul_den, Rat.mkRat_self, Rat.mkRat_mul_mkRat, Int.mul_one, Nat.one_mul]
  rfl
theorem qBottom (a : Rat) (w : World) (v : Value) (h : IsQ w v a) (k : Rq 400000 a) (q : Rat) (hq : gridQ a 0 false = q) :
    Calls Tryd.prog 101 #[v] w fun e w' => ∃ s B1 m1 e1 B2 m2 e2, e = .returned (.agg #[.bool s, .slice B1 m1 e1, .slice B2 m2 e2]) ∧ Hid (IsQ w' (.agg #[.bool s, .slice B1 m1 e1, .slice B2 m2 e2]) q) ∧ Below w.heap.size w w' := by
  obtain ⟨A1, c1, A2, c2, rfl, r1, r2⟩ := h
  exact rBottom _ _ _ w _ _ _ _ r1 r2 k.1 k.2 a.den_nz q (by rw [← hq, gridQ, Nat.pow_zero])
theorem qUp (a : Rat) (p : Nat) (lp : p ≤ 1000000) (w : World) (v : Value) (h : IsQ w v a) (k : Rq 400000 a) (q : Rat) (hq : upQ a p = q) :
    Calls Tryd.prog 127 #[v, .int .i64 p] w fun e w' => ∃ s B1 m1 e1 B2 m2 e2, e = .returned (.agg #[.bool s, .slice B1 m1 e1, .slice B2 m2 e2]) ∧ Hid (IsQ w' (.agg #[.bool s, .slice B1 m1 e1, .slice B2 m2 e2]) q) ∧ Below w.heap.size w w' := by
  obtain ⟨A1, c1, A2, c2, rfl, r1, r2⟩ := h
  exact rScaledUp _ _ _ p w _ _ _ _ r1 r2 k.1 k.2 a.den_nz lp q hq
theorem qDn (a : Rat) (p : Nat) (lp : p ≤ 1000000) (w : World) (v : Value) (h : IsQ w v a) (k : Rq 400000 a) (q : Rat) (hq : dnQ a p = q) :
    Calls Tryd.prog 127 #[v, .int .i64 (-(p : Int))] w fun e w' => ∃ s B1 m1 e1 B2 m2 e2, e = .returned (.agg #[.bool s, .slice B1 m1 e1, .slice B2 m2 e2]) ∧ Hid (IsQ w' (.agg #[.bool s, .slice B1 m1 e1, .slice B2 m2 e2]) q) ∧ Below w.heap.size w w' := by
  rcases Nat.eq_zero_or_pos p with rfl | hp
  · have := qUp a 0 lp w v h k q (by rw [← hq]; unfold upQ dnQ; simp)
    simpa using this
  · obtain ⟨A1, c1, A2, c2, rfl, r1, r2⟩ := h
    exact rScaledDn _ _ _ p w _ _ _ _ r1 r2 k.1 k.2 a.den_nz lp hp q hq
theorem grid_Rq {a : Rat} {k : Nat} (h : Rq k a) (p : Nat) (up : Bool) : Rq (k + p + 3) (gridQ a p up) := by
  have h1 := R_mul_length a.num.natAbs (2 ^ p)
  have h2 := R_two_pow p
  have h3 := h.1
  refine mk_Rq (Nat.ne_of_gt (Nat.two_pow_pos p)) ?_ (Nat.le_trans h2 (by omega))
  rw [sg_abs]
  exact Nat.le_trans (grid_len _ _ _ _ _ (k := k + p + 1) (by omega)) (by omega)
theorem up_Rq {a : Rat} {k : Nat} (h : Rq k a) (p : Nat) : Rq (k + p + 3) (upQ a p) := by
  have h1 := R_mul_length a.num.natAbs (2 ^ p)
  have h2 := R_two_pow p
  have h3 := h.1
  refine mk_Rq a.den_nz ?_ (Nat.le_trans h.2 (by omega))
  rw [sg_abs]
  omega
set_option maxHeartbeats 2000000 in
set_option maxRecDepth 100000 in
theorem rTop (s1 : Bool) (n1 d1 : Nat) (w : World) (A1 A2 : Option Addr) (c1 c2 : Nat) (h1 : Rd w A1 c1 (R n1)) (h2 : Rd w A2 c2 (R d1)) (a b q : Rat) (ha : IsQ w (.agg #[.bool s1, .slice A1 (R n1).length c1, .slice A2 (R d1).length c2]) a) (k : Rq 400000 a) (hb : gridQ (-a) 0 false = b) (hq : -b = q) :
    Calls Tryd.prog 102 #[.agg #[.bool s1, .slice A1 (R n1).length c1, .slice A2 (R d1).length c2]] w fun e w' => ∃ s B1 m1 e1 B2 m2 e2, e = .returned (.agg #[.bool s, .slice B1 m1 e1, .slice B2 m2 e2]) ∧ Hid (IsQ w' (.agg #[.bool s, .slice B1 m1 e1, .slice B2 m2 e2]) q) ∧ Below w.heap.size w w' := by
  obtain ⟨M, hM, k1, k2, bM⟩ := start1 w (.bool s1) (.slice A1 (R n1).length c1) (.slice A2 (R d1).length c2) (.bool false) (.slice none 0 0) (.slice none 0 0) 37 37
  have HX := Lib.hid k1
  have HA := Lib.hid (ha.below bM)
  have TR := Lib.hid (show Rs w M (w.heap.size + 1) from ⟨⟨_, _, _, NI.bool _, NI.slice _ _ _, NI.slice _ _ _, k2⟩, bM, by omega⟩)
  have KN := Lib.hid k.neg
  obtain ⟨n, hn⟩ : ∃ n, -a = n := ⟨_, rfl⟩
  have HN := Lib.hid hn
  have HQ := Lib.hid hq
  rw [hn] at hb KN
  have HB := Lib.hid hb
  clear k1 k2 h1 h2 bM ha hn hq hb
  go_enter Tryd.func102, Tryd.ntmps102
  go_upto_region 1 with (fail)
  rw [← hM]
  clear hM
  obtain ⟨x1, x2, x3, _, _, _⟩ := HX.out.cells
  go_wp2_with fail
  refine (Calls.parts (qOpp a _ _ HA.out)).mono ?_
  rw [HN.out]
  rintro e wa ⟨t3, B3, m3, e3, B3', m3', e3', rfl, i3, ba⟩
  replace TR := Rs.next TR ba
  clear x1 x2 x3 ba
  go_wp2_with fail
  refine (qBottom n _ _ i3.out KN.out b HB.out).mono ?_
  rintro e wb ⟨t4, B4, m4, e4, B4', m4', e4', rfl, i4, bb⟩
  replace TR := Rs.next TR bb
  clear bb
  go_wp2_with fail
  refine (Calls.parts (qOpp b _ _ i4.out)).mono ?_
  rw [HQ.out]
  rintro e wc ⟨t5, B5, m5, e5, B5', m5', e5', rfl, i5, bc⟩
  replace TR := Rs.next TR bc
  clear bc
  obtain ⟨z1, z2, z3, hz1, hz2, hz3, k1, k2, k3⟩ := TR.out.res.cells
  go_wp2
  obtain ⟨q0, q1, q2, hs, hb⟩ := IsQ.stored i5.out TR.out.res TR.out.bel TR.out.n3
  refine bodyPost_ret (v := .agg #[.bool t5, .slice B5 m5 e5, .slice B5' m5' e5']) (by simp [results, Tryd.results102, go_sem, q0, q1, q2]) rfl ?_
  exact ⟨_, _, _, _, _, _, _, rfl, Lib.hid hs, hb⟩
theorem qTop (a : Rat) (w : World) (v : Value) (h : IsQ w v a) (k : Rq 400000 a) (q : Rat) (hq : gridQ a 0 true = q) :
    Calls Tryd.prog 102 #[v] w fun e w' => ∃ s B1 m1 e1 B2 m2 e2, e = .returned (.agg #[.bool s, .slice B1 m1 e1, .slice B2 m2 e2]) ∧ Hid (IsQ w' (.agg #[.bool s, .slice B1 m1 e1, .slice B2 m2 e2]) q) ∧ Below w.heap.size w w' := by
  have h0 := h
  obtain ⟨A1, c1, A2, c2, rfl, r1, r2⟩ := h
  exact rTop _ _ _ w _ _ _ _ r1 r2 a _ q h0 k rfl (by rw [top_neg, hq])
set_option maxHeartbeats 2000000 in
set_option maxRecDepth 100000 in
theorem rGridDown (p : Nat) (lp : p ≤ 1000) (s1 : Bool) (n1 d1 : Nat) (w : World) (A1 A2 : Option Addr) (c1 c2 : Nat) (a x y q : Rat) (ha : IsQ w (.agg #[.bool s1, .slice A1 (R n1).length c1, .slice A2 (R d1).length c2]) a) (ka : Rq 400000 a) (hx : upQ a p = x) (kx : Rq 400000 x) (hy : gridQ x 0 false = y) (ky : Rq 400000 y) (hq : dnQ y p = q) :
    Calls Tryd.prog 105 #[.agg #[.bool s1, .slice A1 (R n1).length c1, .slice A2 (R d1).length c2], .int .i64 p] w fun e w' => ∃ s B1 m1 e1 B2 m2 e2, e = .returned (.agg #[.bool s, .slice B1 m1 e1, .slice B2 m2 e2]) ∧ Hid (IsQ w' (.agg #[.bool s, .slice B1 m1 e1, .slice B2 m2 e2]) q) ∧ Below w.heap.size w w' := by
  obtain ⟨M, hM, k1, k2, bM⟩ := start1 w (.bool s1) (.slice A1 (R n1).length c1) (.slice A2 (R d1).length c2) (.bool false) (.slice none 0 0) (.slice none 0 0) 37 37
  have HX := Lib.hid k1
  have HA := Lib.hid (ha.below bM)
  have TR := Lib.hid (show Rs w M (w.heap.size + 1) from ⟨⟨_, _, _, NI.bool _, NI.slice _ _ _, NI.slice _ _ _, k2⟩, bM, by omega⟩)
  have H1 := Lib.hid hx
  have H2 := Lib.hid hy
  have H3 := Lib.hid hq
  clear k1 k2 bM ha hx hy hq
  go_enter Tryd.func105, Tryd.ntmps105
  go_upto_region 1 with (fail)
  rw [← hM]
  clear hM
  obtain ⟨x1, x2, x3, _, _, _⟩ := HX.out.cells
  go_wp2_with fail
  refine (qUp a p (by omega) _ _ HA.out ka x H1.out).mono ?_
  rintro e wa ⟨t3, B3, m3, e3, B3', m3', e3', rfl, i3, ba⟩
  replace TR := Rs.next TR ba
  clear x1 x2 x3 ba
  go_wp2_with fail
  refine (qBottom x _ _ i3.out kx y H2.out).mono ?_
  rintro e wb ⟨t4, B4, m4, e4, B4', m4', e4', rfl, i4, bb⟩
  replace TR := Rs.next TR bb
  clear bb
  have e9 : wrap64 (-(p : Int)) = -(p : Int) := by unfold wrap64; omega
  have e8 : IntKind.i64.wrap (-(p : Int)) = -(p : Int) := wrap_i64 _ (by omega) (by omega)
  go_wp2_with fail
  refine (qDn y p (by omega) _ _ i4.out ky q H3.out).mono ?_
  rintro e wc ⟨t5, B5, m5, e5, B5', m5', e5', rfl, i5, bc⟩
  replace TR := Rs.next TR bc
  clear bc
  obtain ⟨z1, z2, z3, hz1, hz2, hz3, k1, k2, k3⟩ := TR.out.res.cells
  go_wp2
  obtain ⟨q0, q1, q2, hs, hb⟩ := IsQ.stored i5.out TR.out.res TR.out.bel TR.out.n3
  refine bodyPost_ret (v := .agg #[.bool t5, .slice B5 m5 e5, .slice B5' m5' e5']) (by simp [results, Tryd.results105, go_sem, q0, q1, q2]) rfl ?_
  exact ⟨_, _, _, _, _, _, _, rfl, Lib.hid hs, hb⟩
theorem qGridDown (a : Rat) (p : Nat) (lp : p ≤ 1000) (w : World) (v : Value) (h : IsQ w v a) (k : Rq 100000 a) (q : Rat) (hq : gridQ a p false = q) :
    Calls Tryd.prog 105 #[v, .int .i64 p] w fun e w' => ∃ s B1 m1 e1 B2 m2 e2, e = .returned (.agg #[.bool s, .slice B1 m1 e1, .slice B2 m2 e2]) ∧ Hid (IsQ w' (.agg #[.bool s, .slice B1 m1 e1, .slice B2 m2 e2]) q) ∧ Below w.heap.size w w' := by
  have h0 := h
  obtain ⟨A1, c1, A2, c2, rfl, r1, r2⟩ := h
  exact rGridDown p lp _ _ _ w _ _ _ _ a _ _ q h0 (k.le (by omega)) rfl ((up_Rq k p).le (by omega)) rfl ((grid_Rq (up_Rq k p) 0 false).le (by omega)) (by rw [down_up, hq])
set_option maxHeartbeats 2000000 in
set_option maxRecDepth 100000 in
theorem rGridUp (p : Nat) (lp : p ≤ 1000) (s1 : Bool) (n1 d1 : Nat) (w : World) (A1 A2 : Option Addr) (c1 c2 : Nat) (a x y q : Rat) (ha : IsQ w (.agg #[.bool s1, .slice A1 (R n1).length c1, .slice A2 (R d1).length c2]) a) (ka : Rq 400000 a) (hx : upQ a p = x) (kx : Rq 400000 x) (hy : gridQ x 0 true = y) (ky : Rq 400000 y) (hq : dnQ y p = q) :
    Calls Tryd.prog 104 #[.agg #[.bool s1, .slice A1 (R n1).length c1, .slice A2 (R d1).length c2], .int .i64 p] w fun e w' => ∃ s B1 m1 e1 B2 m2 e2, e = .returned (.agg #[.bool s, .slice B1 m1 e1, .slice B2 m2 e2]) ∧ Hid (IsQ w' (.agg #[.bool s, .slice B1 m1 e1, .slice B2 m2 e2]) q) ∧ Below w.heap.size w w' := by
  obtain ⟨M, hM, k1, k2, bM⟩ := start1 w (.bool s1) (.slice A1 (R n1).length c1) (.slice A2 (R d1).length c2) (.bool false) (.slice none 0 0) (.slice none 0 0) 37 37
  have HX := Lib.hid k1
  have HA := Lib.hid (ha.below bM)
  have TR := Lib.hid (show Rs w M (w.heap.size + 1) from ⟨⟨_, _, _, NI.bool _, NI.slice _ _ _, NI.slice _ _ _, k2⟩, bM, by omega⟩)
  have H1 := Lib.hid hx
  have H2 := Lib.hid hy
  have H3 := Lib.hid hq
  clear k1 k2 bM ha hx hy hq
  go_enter Tryd.func104, Tryd.ntmps104
  go_upto_region 1 with (fail)
  rw [← hM]
  clear hM
  obtain ⟨x1, x2, x3, _, _, _⟩ := HX.out.cells
  go_wp2_with fail
  refine (qUp a p (by omega) _ _ HA.out ka x H1.out).mono ?_
  rintro e wa ⟨t3, B3, m3, e3, B3', m3', e3', rfl, i3, ba⟩
  replace TR := Rs.next TR ba
  clear x1 x2 x3 ba
  go_wp2_with fail
  refine (qTop x _ _ i3.out kx y H2.out).mono ?_
  rintro e wb ⟨t4, B4, m4, e4, B4', m4', e4', rfl, i4, bb⟩
  replace TR := Rs.next TR bb
  clear bb
  have e9 : wrap64 (-(p : Int)) = -(p : Int) := by unfold wrap64; omega
  have e8 : IntKind.i64.wrap (-(p : Int)) = -(p : Int) := wrap_i64 _ (by omega) (by omega)
  go_wp2_with fail
  refine (qDn y p (by omega) _ _ i4.out ky q H3.out).mono ?_
  rintro e wc ⟨t5, B5, m5, e5, B5', m5', e5', rfl, i5, bc⟩
  replace TR := Rs.next TR bc
  clear bc
  obtain ⟨z1, z2, z3, hz1, hz2, hz3, k1, k2, k3⟩ := TR.out.res.cells
  go_wp2
  obtain ⟨q0, q1, q2, hs, hb⟩ := IsQ.stored i5.out TR.out.res TR.out.bel TR.out.n3
  refine bodyPost_ret (v := .agg #[.bool t5, .slice B5 m5 e5, .slice B5' m5' e5']) (by simp [results, Tryd.results104, go_sem, q0, q1, q2]) rfl ?_
  exact ⟨_, _, _, _, _, _, _, rfl, Lib.hid hs, hb⟩
theorem qGridUp (a : Rat) (p : Nat) (lp : p ≤ 1000) (w : World) (v : Value) (h : IsQ w v a) (k : Rq 100000 a) (q : Rat) (hq : gridQ a p true = q) :
    Calls Tryd.prog 104 #[v, .int .i64 p] w fun e w' => ∃ s B1 m1 e1 B2 m2 e2, e = .returned (.agg #[.bool s, .slice B1 m1 e1, .slice B2 m2 e2]) ∧ Hid (IsQ w' (.agg #[.bool s, .slice B1 m1 e1, .slice B2 m2 e2]) q) ∧ Below w.heap.size w w' := by
  have h0 := h
  obtain ⟨A1, c1, A2, c2, rfl, r1, r2⟩ := h
  exact rGridUp p lp _ _ _ w _ _ _ _ a _ _ q h0 (k.le (by omega)) rfl ((up_Rq k p).le (by omega)) rfl ((grid_Rq (up_Rq k p) 0 true).le (by omega)) (by rw [down_up, hq])
end Go.Proofs.YtfmhplcpejmkhaaDoor

namespace Go.Proofs.YtfmhplcpejmkhaaDoor
open Go.RowKit Dig
set_option linter.unusedVariables false
set_option linter.unusedSimpArgs false
/-- the absolute value -/
def absQ (a : Rat) : Rat := if ng a = true then -a else a
theorem absQ_facts (a : Rat) : ng (absQ a) = false ∧ (absQ a).num.natAbs = a.num.natAbs ∧ (absQ a).den = a.den := by
  unfold absQ
  by_cases h : ng a = true
  · rw [if_pos h, ng_neg, neg_abs, neg_den, h]
    exact ⟨rfl, rfl, rfl⟩
  · rw [if_neg h]
    exact ⟨by simpa using h, rfl, rfl⟩
theorem fCanon (a : Rat) (w : World) (v1 : Value) (h1 : IsF w v1 a) : Calls Tryd.prog 76 #[v1] w fun e w' => ∃ u, e = .returned u ∧ IsF w' u a ∧ Below w.heap.size w w' := by
  obtain ⟨A1, c1, A2, c2, rfl, r1, r2⟩ := h1
  exact fracSame _ _ _ w _ _ _ _ r1 r2
set_option maxHeartbeats 1000000 in
set_option maxRecDepth 100000 in
theorem nCanon (s1 : Bool) (N1 D1 : Nat) (w : World) (v1 : Value) (h1 : RawV w v1 s1 N1 D1) (hT : Tab w) :
    Calls Tryd.prog 27 #[v1] w (OutPost w (if largeB s1 N1 D1 then .err 1 else give (ratOf s1 N1 D1))) := by
  have H1 := Lib.hid h1
  have HT := Lib.hid hT
  obtain ⟨A1, n1, c1, A1', n1', c1', rfl⟩ := h1.shape
  clear h1 hT
  obtain ⟨M, hM, k1, k3, bM⟩ := start1 w (.bool s1) (.slice A1 n1 c1) (.slice A1' n1' c1') (.bool false) (.slice none 0 0) (.slice none 0 0) 24 24
  have HX := Lib.hid k1
  have HR := Lib.hid (show Res M (w.heap.size + 1) 24 from ⟨_, _, _, NI.bool _, NI.slice _ _ _, NI.slice _ _ _, k3⟩)
  have BM := Lib.hid bM
  replace H1 := Lib.hid (H1.out.below bM)
  replace HT := Lib.hid (HT.out.below bM)
  have C := Lib.hid (nOne 76 (ratOf s1 N1 D1) s1 N1 D1 M _ H1.out HT.out (fun _ _ => Tryd.call76 ..) (fun w u1 i1 f1 t => fCanon _ w u1 i1))
  obtain ⟨o, ho⟩ : ∃ o, (if largeB s1 N1 D1 = true then Out.err 1 else give (ratOf s1 N1 D1)) = o := ⟨_, rfl⟩
  rw [ho] at C
  rw [ho]
  clear k1 k3 bM ho
  go_enter Tryd.func27, Tryd.ntmps27
  go_upto_region 1 with (fail)
  rw [← hM]
  clear hM
  obtain ⟨x1, x2, x3, _, _, _⟩ := HX.out.cells
  go_wp2_with fail
  refine C.out.mono ?_
  rintro e we ⟨s9, A9, n9, c9, A9', n9', c9', k9, rfl, h9, b9⟩
  replace HR := Lib.hid (HR.out.below b9)
  have BE := Lib.hid (below_step BM.out BM.out.size b9)
  obtain ⟨q0, q1, q2, hs, hb⟩ := OutIs.stored h9 HR.out BE.out (by omega)
  have Q := Lib.hid (And.intro q0 (And.intro q1 q2))
  have HS := Lib.hid hs
  have HB := Lib.hid hb
  clear b9 h9 q0 q1 q2 hs hb x1 x2 x3
  obtain ⟨r1, r2, r3, hr1, hr2, hr3, _, _, _⟩ := HR.out.cells
  go_wp2_with fail
  obtain ⟨q0, q1, q2⟩ := Q.out
  refine bodyPost_ret (v := .tuple #[.agg #[.bool s9, .slice A9 n9 c9, .slice A9' n9' c9'], .int .i64 k9]) (by simp [results, Tryd.results27, go_sem, q0, q1, q2]) rfl ?_
  exact ⟨_, _, _, _, _, _, _, _, rfl, HS.out, HB.out⟩
set_option maxHeartbeats 1000000 in
set_option maxRecDepth 100000 in
theorem nNeg (s1 : Bool) (N1 D1 : Nat) (w : World) (v1 : Value) (h1 : RawV w v1 s1 N1 D1) (hT : Tab w) :
    Calls Tryd.prog 38 #[v1] w (OutPost w (if largeB s1 N1 D1 then .err 1 else give (-(ratOf s1 N1 D1)))) := by
  have H1 := Lib.hid h1
  have HT := Lib.hid hT
  obtain ⟨A1, n1, c1, A1', n1', c1', rfl⟩ := h1.shape
  clear h1 hT
  obtain ⟨M, hM, k1, k3, bM⟩ := start1 w (.bool s1) (.slice A1 n1 c1) (.slice A1' n1' c1') (.bool false) (.slice none 0 0) (.slice none 0 0) 24 24
  have HX := Lib.hid k1
  have HR := Lib.hid (show Res M (w.heap.size + 1) 24 from ⟨_, _, _, NI.bool _, NI.slice _ _ _, NI.slice _ _ _, k3⟩)
  have BM := Lib.hid bM
  replace H1 := Lib.hid (H1.out.below bM)
  replace HT := Lib.hid (HT.out.below bM)
  have C := Lib.hid (nOne 64 (-(ratOf s1 N1 D1)) s1 N1 D1 M _ H1.out HT.out (fun _ _ => Tryd.call64 ..) (fun w u1 i1 f1 t => fNeg _ w u1 i1))
  obtain ⟨o, ho⟩ : ∃ o, (if largeB s1 N1 D1 = true then Out.err 1 else give (-(ratOf s1 N1 D1))) = o := ⟨_, rfl⟩
  rw [ho] at C
  rw [ho]
  clear k1 k3 bM ho
  go_enter Tryd.func38, Tryd.ntmps38
  go_upto_region 1 with (fail)
  rw [← hM]
  clear hM
  obtain ⟨x1, x2, x3, _, _, _⟩ := HX.out.cells
  go_wp2_with fail
  refine C.out.mono ?_
  rintro e we ⟨s9, A9, n9, c9, A9', n9', c9', k9, rfl, h9, b9⟩
  replace HR := Lib.hid (HR.out.below b9)
  have BE := Lib.hid (below_step BM.out BM.out.size b9)
  obtain ⟨q0, q1, q2, hs, hb⟩ := OutIs.stored h9 HR.out BE.out (by omega)
  have Q := Lib.hid (And.intro q0 (And.intro q1 q2))
  have HS := Lib.hid hs
  have HB := Lib.hid hb
  clear b9 h9 q0 q1 q2 hs hb x1 x2 x3
  obtain ⟨r1, r2, r3, hr1, hr2, hr3, _, _, _⟩ := HR.out.cells
  go_wp2_with fail
  obtain ⟨q0, q1, q2⟩ := Q.out
  refine bodyPost_ret (v := .tuple #[.agg #[.bool s9, .slice A9 n9 c9, .slice A9' n9' c9'], .int .i64 k9]) (by simp [results, Tryd.results38, go_sem, q0, q1, q2]) rfl ?_
  exact ⟨_, _, _, _, _, _, _, _, rfl, HS.out, HB.out⟩
theorem fAbs (a : Rat) (w : World) (v1 : Value) (h1 : IsF w v1 a) : Calls Tryd.prog 95 #[v1] w fun e w' => ∃ u, e = .returned u ∧ IsF w' u (absQ a) ∧ Below w.heap.size w w' := by
  obtain ⟨A1, c1, A2, c2, rfl, r1, r2⟩ := h1
  refine (fracAbs _ _ _ w _ _ _ _ r1 r2).mono ?_
  rintro e w' ⟨u, rfl, hu, hb⟩
  obtain ⟨e1, e2, e3⟩ := absQ_facts a
  exact ⟨u, rfl, by unfold IsF; rw [e1, e2, e3]; exact hu, hb⟩
set_option maxHeartbeats 1000000 in
set_option maxRecDepth 100000 in
theorem nAbs (s1 : Bool) (N1 D1 : Nat) (w : World) (v1 : Value) (h1 : RawV w v1 s1 N1 D1) (hT : Tab w) :
    Calls Tryd.prog 43 #[v1] w (OutPost w (if largeB s1 N1 D1 then .err 1 else give (absQ (ratOf s1 N1 D1)))) := by
  have H1 := Lib.hid h1
  have HT := Lib.hid hT
  obtain ⟨A1, n1, c1, A1', n1', c1', rfl⟩ := h1.shape
  clear h1 hT
  obtain ⟨M, hM, k1, k3, bM⟩ := start1 w (.bool s1) (.slice A1 n1 c1) (.slice A1' n1' c1') (.bool false) (.slice none 0 0) (.slice none 0 0) 24 24
  have HX := Lib.hid k1
  have HR := Lib.hid (show Res M (w.heap.size + 1) 24 from ⟨_, _, _, NI.bool _, NI.slice _ _ _, NI.slice _ _ _, k3⟩)
  have BM := Lib.hid bM
  replace H1 := Lib.hid (H1.out.below bM)
  replace HT := Lib.hid (HT.out.below bM)
  have C := Lib.hid (nOne 95 (absQ (ratOf s1 N1 D1)) s1 N1 D1 M _ H1.out HT.out (fun _ _ => Tryd.call95 ..) (fun w u1 i1 f1 t => fAbs _ w u1 i1))
  obtain ⟨o, ho⟩ : ∃ o, (if largeB s1 N1 D1 = true then Out.err 1 else give (absQ (ratOf s1 N1 D1))) = o := ⟨_, rfl⟩
  rw [ho] at C
  rw [ho]
  clear k1 k3 bM ho
  go_enter Tryd.func43, Tryd.ntmps43
  go_upto_region 1 with (fail)
  rw [← hM]
  clear hM
  obtain ⟨x1, x2, x3, _, _, _⟩ := HX.out.cells
  go_wp2_with fail
  refine C.out.mono ?_
  rintro e we ⟨s9, A9, n9, c9, A9', n9', c9', k9, rfl, h9, b9⟩
  replace HR := Lib.hid (HR.out.below b9)
  have BE := Lib.hid (below_step BM.out BM.out.size b9)
  obtain ⟨q0, q1, q2, hs, hb⟩ := OutIs.stored h9 HR.out BE.out (by omega)
  have Q := Lib.hid (And.intro q0 (And.intro q1 q2))
  have HS := Lib.hid hs
  have HB := Lib.hid hb
  clear b9 h9 q0 q1 q2 hs hb x1 x2 x3
  obtain ⟨r1, r2, r3, hr1, hr2, hr3, _, _, _⟩ := HR.out.cells
  go_wp2_with fail
  obtain ⟨q0, q1, q2⟩ := Q.out
  refine bodyPost_ret (v := .tuple #[.agg #[.bool s9, .slice A9 n9 c9, .slice A9' n9' c9'], .int .i64 k9]) (by simp [results, Tryd.results43, go_sem, q0, q1, q2]) rfl ?_
  exact ⟨_, _, _, _, _, _, _, _, rfl, HS.out, HB.out⟩
theorem fFloor (a : Rat) (w : World) (v1 : Value) (h1 : IsF w v1 a) (k : Wq 200000 a) (hT : Tab w) : Calls Tryd.prog 98 #[v1] w fun e w' => ∃ u, e = .returned u ∧ IsF w' u (gridQ a 0 false) ∧ Below w.heap.size w w' := by
  obtain ⟨A1, c1, A2, c2, rfl, r1, r2⟩ := h1
  exact fracFloor _ _ _ w _ _ _ _ r1 r2 k.1 k.2 a.den_nz hT _ rfl
set_option maxHeartbeats 1000000 in
set_option maxRecDepth 100000 in
theorem nFloor (s1 : Bool) (N1 D1 : Nat) (w : World) (v1 : Value) (h1 : RawV w v1 s1 N1 D1) (hT : Tab w) :
    Calls Tryd.prog 47 #[v1] w (OutPost w (if largeB s1 N1 D1 then .err 1 else give (gridQ (ratOf s1 N1 D1) 0 false))) := by
  have H1 := Lib.hid h1
  have HT := Lib.hid hT
  obtain ⟨A1, n1, c1, A1', n1', c1', rfl⟩ := h1.shape
  clear h1 hT
  obtain ⟨M, hM, k1, k3, bM⟩ := start1 w (.bool s1) (.slice A1 n1 c1) (.slice A1' n1' c1') (.bool false) (.slice none 0 0) (.slice none 0 0) 24 24
  have HX := Lib.hid k1
  have HR := Lib.hid (show Res M (w.heap.size + 1) 24 from ⟨_, _, _, NI.bool _, NI.slice _ _ _, NI.slice _ _ _, k3⟩)
  have BM := Lib.hid bM
  replace H1 := Lib.hid (H1.out.below bM)
  replace HT := Lib.hid (HT.out.below bM)
  have C := Lib.hid (nOne 98 (gridQ (ratOf s1 N1 D1) 0 false) s1 N1 D1 M _ H1.out HT.out (fun _ _ => Tryd.call98 ..) (fun w u1 i1 f1 t => fFloor _ w u1 i1 (fit_Wq f1 (by omega)) t))
  obtain ⟨o, ho⟩ : ∃ o, (if largeB s1 N1 D1 = true then Out.err 1 else give (gridQ (ratOf s1 N1 D1) 0 false)) = o := ⟨_, rfl⟩
  rw [ho] at C
  rw [ho]
  clear k1 k3 bM ho
  go_enter Tryd.func47, Tryd.ntmps47
  go_upto_region 1 with (fail)
  rw [← hM]
  clear hM
  obtain ⟨x1, x2, x3, _, _, _⟩ := HX.out.cells
  go_wp2_with fail
  refine C.out.mono ?_
  rintro e we ⟨s9, A9, n9, c9, A9', n9', c9', k9, rfl, h9, b9⟩
  replace HR := Lib.hid (HR.out.below b9)
  have BE := Lib.hid (below_step BM.out BM.out.size b9)
  obtain ⟨q0, q1, q2, hs, hb⟩ := OutIs.stored h9 HR.out BE.out (by omega)
  have Q := Lib.hid (And.intro q0 (And.intro q1 q2))
  have HS := Lib.hid hs
  have HB := Lib.hid hb
  clear b9 h9 q0 q1 q2 hs hb x1 x2 x3
  obtain ⟨r1, r2, r3, hr1, hr2, hr3, _, _, _⟩ := HR.out.cells
  go_wp2_with fail
  obtain ⟨q0, q1, q2⟩ := Q.out
  refine bodyPost_ret (v := .tuple #[.agg #[.bool s9, .slice A9 n9 c9, .slice A9' n9' c9'], .int .i64 k9]) (by simp [results, Tryd.results47, go_sem, q0, q1, q2]) rfl ?_
  exact ⟨_, _, _, _, _, _, _, _, rfl, HS.out, HB.out⟩
theorem fCeil (a : Rat) (w : World) (v1 : Value) (h1 : IsF w v1 a) (k : Wq 200000 a) (hT : Tab w) : Calls Tryd.prog 100 #[v1] w fun e w' => ∃ u, e = .returned u ∧ IsF w' u (gridQ a 0 true) ∧ Below w.heap.size w w' := by
  obtain ⟨A1, c1, A2, c2, rfl, r1, r2⟩ := h1
  exact fracCeil _ _ _ w _ _ _ _ r1 r2 k.1 k.2 a.den_nz hT _ rfl
set_option maxHeartbeats 1000000 in
set_option maxRecDepth 100000 in
theorem nCeil (s1 : Bool) (N1 D1 : Nat) (w : World) (v1 : Value) (h1 : RawV w v1 s1 N1 D1) (hT : Tab w) :
    Calls Tryd.prog 48 #[v1] w (OutPost w (if largeB s1 N1 D1 then .err 1 else give (gridQ (ratOf s1 N1 D1) 0 true))) := by
  have H1 := Lib.hid h1
  have HT := Lib.hid hT
  obtain ⟨A1, n1, c1, A1', n1', c1', rfl⟩ := h1.shape
  clear h1 hT
  obtain ⟨M, hM, k1, k3, bM⟩ := start1 w (.bool s1) (.slice A1 n1 c1) (.slice A1' n1' c1') (.bool false) (.slice none 0 0) (.slice none 0 0) 24 24
  have HX := Lib.hid k1
  have HR := Lib.hid (show Res M (w.heap.size + 1) 24 from ⟨_, _, _, NI.bool _, NI.slice _ _ _, NI.slice _ _ _, k3⟩)
  have BM := Lib.hid bM
  replace H1 := Lib.hid (H1.out.below bM)
  replace HT := Lib.hid (HT.out.below bM)
  have C := Lib.hid (nOne 100 (gridQ (ratOf s1 N1 D1) 0 true) s1 N1 D1 M _ H1.out HT.out (fun _ _ => Tryd.call100 ..) (fun w u1 i1 f1 t => fCeil _ w u1 i1 (fit_Wq f1 (by omega)) t))
  obtain ⟨o, ho⟩ : ∃ o, (if largeB s1 N1 D1 = true then Out.err 1 else give (gridQ (ratOf s1 N1 D1) 0 true)) = o := ⟨_, rfl⟩
  rw [ho] at C
  rw [ho]
  clear k1 k3 bM ho
  go_enter Tryd.func48, Tryd.ntmps48
  go_upto_region 1 with (fail)
  rw [← hM]
  clear hM
  obtain ⟨x1, x2, x3, _, _, _⟩ := HX.out.cells
  go_wp2_with fail
  refine C.out.mono ?_
  rintro e we ⟨s9, A9, n9, c9, A9', n9', c9', k9, rfl, h9, b9⟩
  replace HR := Lib.hid (HR.out.below b9)
  have BE := Lib.hid (below_step BM.out BM.out.size b9)
  obtain ⟨q0, q1, q2, hs, hb⟩ := OutIs.stored h9 HR.out BE.out (by omega)
  have Q := Lib.hid (And.intro q0 (And.intro q1 q2))
  have HS := Lib.hid hs
  have HB := Lib.hid hb
  clear b9 h9 q0 q1 q2 hs hb x1 x2 x3
  obtain ⟨r1, r2, r3, hr1, hr2, hr3, _, _, _⟩ := HR.out.cells
  go_wp2_with fail
  obtain ⟨q0, q1, q2⟩ := Q.out
  refine bodyPost_ret (v := .tuple #[.agg #[.bool s9, .slice A9 n9 c9, .slice A9' n9' c9'], .int .i64 k9]) (by simp [results, Tryd.results48, go_sem, q0, q1, q2]) rfl ?_
  exact ⟨_, _, _, _, _, _, _, _, rfl, HS.out, HB.out⟩
end Go.Proofs.YtfmhplcpejmkhaaDoor

namespace Go.Proofs.YtfmhplcpejmkhaaDoor
open Go.RowKit Dig
set_option linter.unusedVariables false
set_option linter.unusedSimpArgs false
set_option maxHeartbeats 2000000 in
set_option maxRecDepth 100000 in
theorem lFloor_large (s1 : Bool) (N1 D1 : Nat)  (w : World) (v1 : Value) (h1 : RawV w v1 s1 N1 D1) (q : Rat) (hq : ratOf s1 N1 D1 = q) (hL : largeB s1 N1 D1 = true) :
    Calls Tryd.prog 49 #[v1] w (OutPost w (Out.err 1)) := by
  have H1 := Lib.hid h1
  obtain ⟨A1, n1, c1, A1', n1', c1', rfl⟩ := h1.shape
  clear h1
  obtain ⟨M, hM, k1, k3, bM⟩ := start1 w (.bool s1) (.slice A1 n1 c1) (.slice A1' n1' c1') (.bool false) (.slice none 0 0) (.slice none 0 0) 24 24
  have TA : Hid (P1 w M w.heap.size (w.heap.size + 1) s1 A1 n1 c1 A1' n1' c1' N1 D1) := Lib.hid ⟨k1, ⟨_, _, _, NI.bool _, NI.slice _ _ _, NI.slice _ _ _, k3⟩, H1.out.below bM, bM, by omega, by omega⟩
  have HQ := Lib.hid hq
  have HL := Lib.hid hL
  obtain ⟨o, ho⟩ : ∃ o, Out.err 1 = o := ⟨_, rfl⟩
  have HO := Lib.hid ho
  rw [ho]
  clear hq hL k1 k3 bM H1 ho
  go_enter Tryd.func49, Tryd.ntmps49
  go_upto_region 1 with (fail)
  rw [← hM]
  clear hM
  obtain ⟨x1, x2, x3, _⟩ := TA.out.cells
  go_wp2_with fail
  refine (largeV _ s1 N1 D1 _ TA.out.r1).mono ?_
  rw [HL.out]
  rintro e wa ⟨rfl, ba⟩
  replace TA := Lib.hid (TA.out.below ba)
  clear ba x1 x2 x3
  obtain ⟨x1, x2, x3, _⟩ := TA.out.cells
  obtain ⟨y1, y2, y3, hy1, hy2, hy3, f1, f2, f3⟩ := TA.out.res.cells
  obtain ⟨q0, q1, q2, hs, hb⟩ := OutIs.stored (o := .err 1) (k := 1) (s := false) (A1 := none) (A2 := none) (n1 := 0) (c1 := 0) (n2 := 0) (c2 := 0) ⟨rfl, rfl, by omega, by omega⟩ TA.out.res TA.out.bel TA.out.n3
  have Q := Lib.hid (And.intro q0 (And.intro q1 q2))
  have HBB := Lib.hid hb
  clear q0 q1 q2 hs hb
  go_wp2_with fail
  obtain ⟨q0, q1, q2⟩ := Q.out
  refine bodyPost_ret (v := .tuple #[noRat, .int .i64 1]) (by simp [results, Tryd.results49, go_sem, q0, q1, q2, noRat]) rfl ?_
  rw [← HO.out]
  exact OutPost.err rfl (by omega) (by omega) HBB.out
set_option maxHeartbeats 2000000 in
set_option maxRecDepth 100000 in
theorem lFloor_fit (s1 : Bool) (N1 D1 : Nat) (r : Rat) (hr : gridQ (ratOf s1 N1 D1) 0 false = r) (w : World) (v1 : Value) (h1 : RawV w v1 s1 N1 D1) (q : Rat) (hq : ratOf s1 N1 D1 = q) (hL : largeB s1 N1 D1 = false) :
    Calls Tryd.prog 49 #[v1] w (OutPost w (give r)) := by
  have H1 := Lib.hid h1
  obtain ⟨A1, n1, c1, A1', n1', c1', rfl⟩ := h1.shape
  clear h1
  obtain ⟨M, hM, k1, k3, bM⟩ := start1 w (.bool s1) (.slice A1 n1 c1) (.slice A1' n1' c1') (.bool false) (.slice none 0 0) (.slice none 0 0) 24 24
  have TA : Hid (P1 w M w.heap.size (w.heap.size + 1) s1 A1 n1 c1 A1' n1' c1' N1 D1) := Lib.hid ⟨k1, ⟨_, _, _, NI.bool _, NI.slice _ _ _, NI.slice _ _ _, k3⟩, H1.out.below bM, bM, by omega, by omega⟩
  have HQ := Lib.hid hq
  have HL := Lib.hid hL
  have hf := (largeB_false hL).2.2
  rw [hq] at hf
  have HF := Lib.hid hf
  clear hf
  rw [hq] at hr
  have HR := Lib.hid hr
  have HK := Lib.hid (show Rq 2000000 r by rw [← hr]; exact (grid_Rq (fit_Rq HF.out (k := 128) (by omega)) 0 false).le (by omega))
  clear hr
  obtain ⟨o, ho⟩ : ∃ o, give r = o := ⟨_, rfl⟩
  have HO := Lib.hid ho
  rw [ho]
  clear hq hL k1 k3 bM H1 ho
  go_enter Tryd.func49, Tryd.ntmps49
  go_upto_region 1 with (fail)
  rw [← hM]
  clear hM
  obtain ⟨x1, x2, x3, _⟩ := TA.out.cells
  go_wp2_with fail
  refine (largeV _ s1 N1 D1 _ TA.out.r1).mono ?_
  rw [HL.out]
  rintro e wa ⟨rfl, ba⟩
  replace TA := Lib.hid (TA.out.below ba)
  clear ba x1 x2 x3
  obtain ⟨x1, x2, x3, _⟩ := TA.out.cells
  go_wp2_with fail
  refine (ofQ _ _ _ _ q _ TA.out.r1 HL.out HQ.out).mono ?_
  rintro e wb ⟨t0, B0, m0, e0, B0', m0', e0', rfl, i0, bb⟩
  replace TA := Lib.hid (TA.out.below bb)
  clear bb x1 x2 x3
  go_wp2_with fail
  refine (qBottom q _ _ i0.out (fit_Rq HF.out (by omega)) r HR.out).mono ?_
  rintro e wb ⟨t1, B1, m1, e1, B1', m1', e1', rfl, i1, bb⟩
  replace TA := Lib.hid (TA.out.below bb)
  clear bb
  go_wp2_with fail
  refine (qDone _ _ _ i1.out HK.out).mono ?_
  rintro e we ⟨s9, A9, n9, c9, A9', n9', c9', k9, rfl, h9, b9⟩
  replace TA := Lib.hid (TA.out.below b9)
  obtain ⟨z1, z2, z3, hz1, hz2, hz3, k1, k2, k3⟩ := TA.out.res.cells
  obtain ⟨q0, q1, q2, hs, hb⟩ := OutIs.stored h9 TA.out.res TA.out.bel TA.out.n3
  have Q := Lib.hid (And.intro q0 (And.intro q1 q2))
  have HS := Lib.hid hs
  have HBB := Lib.hid hb
  clear q0 q1 q2 hs hb h9 b9
  go_wp2
  obtain ⟨q0, q1, q2⟩ := Q.out
  refine bodyPost_ret (v := .tuple #[.agg #[.bool s9, .slice A9 n9 c9, .slice A9' n9' c9'], .int .i64 k9]) (by simp [results, Tryd.results49, go_sem, q0, q1, q2]) rfl ?_
  rw [← HO.out]
  exact ⟨_, _, _, _, _, _, _, _, rfl, HS.out, HBB.out⟩
theorem lFloor (s1 : Bool) (N1 D1 : Nat) (w : World) (v1 : Value) (h1 : RawV w v1 s1 N1 D1) :
    Calls Tryd.prog 49 #[v1] w (OutPost w (if largeB s1 N1 D1 = true then .err 1 else give (gridQ (ratOf s1 N1 D1) 0 false))) := by
  by_cases h : largeB s1 N1 D1 = true
  · rw [if_pos h]; exact lFloor_large s1 N1 D1 w v1 h1 _ rfl h
  · rw [if_neg h]; exact lFloor_fit s1 N1 D1 _ rfl w v1 h1 _ rfl (by simpa using h)
set_option maxHeartbeats 2000000 in
set_option maxRecDepth 100000 in
theorem lCeil_large (s1 : Bool) (N1 D1 : Nat)  (w : World) (v1 : Value) (h1 : RawV w v1 s1 N1 D1) (q : Rat) (hq : ratOf s1 N1 D1 = q) (hL : largeB s1 N1 D1 = true) :
    Calls Tryd.prog 50 #[v1] w (OutPost w (Out.err 1)) := by
  have H1 := Lib.hid h1
  obtain ⟨A1, n1, c1, A1', n1', c1', rfl⟩ := h1.shape
  clear h1
  obtain ⟨M, hM, k1, k3, bM⟩ := start1 w (.bool s1) (.slice A1 n1 c1) (.slice A1' n1' c1') (.bool false) (.slice none 0 0) (.slice none 0 0) 24 24
  have TA : Hid (P1 w M w.heap.size (w.heap.size + 1) s1 A1 n1 c1 A1' n1' c1' N1 D1) := Lib.hid ⟨k1, ⟨_, _, _, NI.bool _, NI.slice _ _ _, NI.slice _ _ _, k3⟩, H1.out.below bM, bM, by omega, by omega⟩
  have HQ := Lib.hid hq
  have HL := Lib.hid hL
  obtain ⟨o, ho⟩ : ∃ o, Out.err 1 = o := ⟨_, rfl⟩
  have HO := Lib.hid ho
  rw [ho]
  clear hq hL k1 k3 bM H1 ho
  go_enter Tryd.func50, Tryd.ntmps50
  go_upto_region 1 with (fail)
  rw [← hM]
  clear hM
  obtain ⟨x1, x2, x3, _⟩ := TA.out.cells
  go_wp2_with fail
  refine (largeV _ s1 N1 D1 _ TA.out.r1).mono ?_
  rw [HL.out]
  rintro e wa ⟨rfl, ba⟩
  replace TA := Lib.hid (TA.out.below ba)
  clear ba x1 x2 x3
  obtain ⟨x1, x2, x3, _⟩ := TA.out.cells
  obtain ⟨y1, y2, y3, hy1, hy2, hy3, f1, f2, f3⟩ := TA.out.res.cells
  obtain ⟨q0, q1, q2, hs, hb⟩ := OutIs.stored (o := .err 1) (k := 1) (s := false) (A1 := none) (A2 := none) (n1 := 0) (c1 := 0) (n2 := 0) (c2 := 0) ⟨rfl, rfl, by omega, by omega⟩ TA.out.res TA.out.bel TA.out.n3
  have Q := Lib.hid (And.intro q0 (And.intro q1 q2))
  have HBB := Lib.hid hb
  clear q0 q1 q2 hs hb
  go_wp2_with fail
  obtain ⟨q0, q1, q2⟩ := Q.out
  refine bodyPost_ret (v := .tuple #[noRat, .int .i64 1]) (by simp [results, Tryd.results50, go_sem, q0, q1, q2, noRat]) rfl ?_
  rw [← HO.out]
  exact OutPost.err rfl (by omega) (by omega) HBB.out
set_option maxHeartbeats 2000000 in
set_option maxRecDepth 100000 in
theorem lCeil_fit (s1 : Bool) (N1 D1 : Nat) (r : Rat) (hr : gridQ (ratOf s1 N1 D1) 0 true = r) (w : World) (v1 : Value) (h1 : RawV w v1 s1 N1 D1) (q : Rat) (hq : ratOf s1 N1 D1 = q) (hL : largeB s1 N1 D1 = false) :
    Calls Tryd.prog 50 #[v1] w (OutPost w (give r)) := by
  have H1 := Lib.hid h1
  obtain ⟨A1, n1, c1, A1', n1', c1', rfl⟩ := h1.shape
  clear h1
  obtain ⟨M, hM, k1, k3, bM⟩ := start1 w (.bool s1) (.slice A1 n1 c1) (.slice A1' n1' c1') (.bool false) (.slice none 0 0) (.slice none 0 0) 24 24
  have TA : Hid (P1 w M w.heap.size (w.heap.size + 1) s1 A1 n1 c1 A1' n1' c1' N1 D1) := Lib.hid ⟨k1, ⟨_, _, _, NI.bool _, NI.slice _ _ _, NI.slice _ _ _, k3⟩, H1.out.below bM, bM, by omega, by omega⟩
  have HQ := Lib.hid hq
  have HL := Lib.hid hL
  have hf := (largeB_false hL).2.2
  rw [hq] at hf
  have HF := Lib.hid hf
  clear hf
  rw [hq] at hr
  have HR := Lib.hid hr
  have HK := Lib.hid (show Rq 2000000 r by rw [← hr]; exact (grid_Rq (fit_Rq HF.out (k := 128) (by omega)) 0 true).le (by omega))
  clear hr
  obtain ⟨o, ho⟩ : ∃ o, give r = o := ⟨_, rfl⟩
  have HO := Lib.hid ho
  rw [ho]
  clear hq hL k1 k3 bM H1 ho
  go_enter Tryd.func50, Tryd.ntmps50
  go_upto_region 1 with (fail)
  rw [← hM]
  clear hM
  obtain ⟨x1, x2, x3, _⟩ := TA.out.cells
  go_wp2_with fail
  refine (largeV _ s1 N1 D1 _ TA.out.r1).mono ?_
  rw [HL.out]
  rintro e wa ⟨rfl, ba⟩
  replace TA := Lib.hid (TA.out.below ba)
  clear ba x1 x2 x3
  obtain ⟨x1, x2, x3, _⟩ := TA.out.cells
  go_wp2_with fail
  refine (ofQ _ _ _ _ q _ TA.out.r1 HL.out HQ.out).mono ?_
  rintro e wb ⟨t0, B0, m0, e0, B0', m0', e0', rfl, i0, bb⟩
  replace TA := Lib.hid (TA.out.below bb)
  clear bb x1 x2 x3
  go_wp2_with fail
  refine (qTop q _ _ i0.out (fit_Rq HF.out (by omega)) r HR.out).mono ?_
  rintro e wb ⟨t1, B1, m1, e1, B1', m1', e1', rfl, i1, bb⟩
  replace TA := Lib.hid (TA.out.below bb)
  clear bb
  go_wp2_with fail
  refine (qDone _ _ _ i1.out HK.out).mono ?_
  rintro e we ⟨s9, A9, n9, c9, A9', n9', c9', k9, rfl, h9, b9⟩
  replace TA := Lib.hid (TA.out.below b9)
  obtain ⟨z1, z2, z3, hz1, hz2, hz3, k1, k2, k3⟩ := TA.out.res.cells
  obtain ⟨q0, q1, q2, hs, hb⟩ := OutIs.stored h9 TA.out.res TA.out.bel TA.out.n3
  have Q := Lib.hid (And.intro q0 (And.intro q1 q2))
  have HS := Lib.hid hs
  have HBB := Lib.hid hb
  clear q0 q1 q2 hs hb h9 b9
  go_wp2
  obtain ⟨q0, q1, q2⟩ := Q.out
  refine bodyPost_ret (v := .tuple #[.agg #[.bool s9, .slice A9 n9 c9, .slice A9' n9' c9'], .int .i64 k9]) (by simp [results, Tryd.results50, go_sem, q0, q1, q2]) rfl ?_
  rw [← HO.out]
  exact ⟨_, _, _, _, _, _, _, _, rfl, HS.out, HBB.out⟩
theorem lCeil (s1 : Bool) (N1 D1 : Nat) (w : World) (v1 : Value) (h1 : RawV w v1 s1 N1 D1) :
    Calls Tryd.prog 50 #[v1] w (OutPost w (if largeB s1 N1 D1 = true then .err 1 else give (gridQ (ratOf s1 N1 D1) 0 true))) := by
  by_cases h : largeB s1 N1 D1 = true
  · rw [if_pos h]; exact lCeil_large s1 N1 D1 w v1 h1 _ rfl h
  · rw [if_neg h]; exact lCeil_fit s1 N1 D1 _ rfl w v1 h1 _ rfl (by simpa using h)
set_option maxHeartbeats 2000000 in
set_option maxRecDepth 100000 in
theorem lGrid_large (s1 : Bool) (N1 D1 : Nat) (p : Int) (up : Bool) (w : World) (v1 : Value) (h1 : RawV w v1 s1 N1 D1) (q : Rat) (hq : ratOf s1 N1 D1 = q) (hL : largeB s1 N1 D1 = true) :
    Calls Tryd.prog 53 #[v1, .int .i64 p, .bool up] w (OutPost w (Out.err 1)) := by
  have H1 := Lib.hid h1
  obtain ⟨A1, n1, c1, A1', n1', c1', rfl⟩ := h1.shape
  clear h1
  obtain ⟨M, hM, k1, k3, bM⟩ := start1 w (.bool s1) (.slice A1 n1 c1) (.slice A1' n1' c1') (.bool false) (.slice none 0 0) (.slice none 0 0) 24 24
  have TA : Hid (P1 w M w.heap.size (w.heap.size + 1) s1 A1 n1 c1 A1' n1' c1' N1 D1) := Lib.hid ⟨k1, ⟨_, _, _, NI.bool _, NI.slice _ _ _, NI.slice _ _ _, k3⟩, H1.out.below bM, bM, by omega, by omega⟩
  have HQ := Lib.hid hq
  have HL := Lib.hid hL
  obtain ⟨o, ho⟩ : ∃ o, Out.err 1 = o := ⟨_, rfl⟩
  have HO := Lib.hid ho
  rw [ho]
  clear hq hL k1 k3 bM H1 ho
  go_enter Tryd.func53, Tryd.ntmps53
  go_upto_region 1 with (fail)
  rw [← hM]
  clear hM
  obtain ⟨x1, x2, x3, _⟩ := TA.out.cells
  go_wp2_with fail
  refine (largeV _ s1 N1 D1 _ TA.out.r1).mono ?_
  rw [HL.out]
  rintro e wa ⟨rfl, ba⟩
  replace TA := Lib.hid (TA.out.below ba)
  clear ba x1 x2 x3
  obtain ⟨x1, x2, x3, _⟩ := TA.out.cells
  obtain ⟨y1, y2, y3, hy1, hy2, hy3, f1, f2, f3⟩ := TA.out.res.cells
  obtain ⟨q0, q1, q2, hs, hb⟩ := OutIs.stored (o := .err 1) (k := 1) (s := false) (A1 := none) (A2 := none) (n1 := 0) (c1 := 0) (n2 := 0) (c2 := 0) ⟨rfl, rfl, by omega, by omega⟩ TA.out.res TA.out.bel TA.out.n3
  have Q := Lib.hid (And.intro q0 (And.intro q1 q2))
  have HBB := Lib.hid hb
  clear q0 q1 q2 hs hb
  go_wp2_with fail
  obtain ⟨q0, q1, q2⟩ := Q.out
  refine bodyPost_ret (v := .tuple #[noRat, .int .i64 1]) (by simp [results, Tryd.results53, go_sem, q0, q1, q2, noRat]) rfl ?_
  rw [← HO.out]
  exact OutPost.err rfl (by omega) (by omega) HBB.out
set_option maxHeartbeats 2000000 in
set_option maxRecDepth 100000 in
theorem lGrid_neg (s1 : Bool) (N1 D1 : Nat) (p : Int) (hp : p < 0) (up : Bool) (w : World) (v1 : Value) (h1 : RawV w v1 s1 N1 D1) (q : Rat) (hq : ratOf s1 N1 D1 = q) (hL : largeB s1 N1 D1 = false) :
    Calls Tryd.prog 53 #[v1, .int .i64 p, .bool up] w (OutPost w (Out.err 2)) := by
  have H1 := Lib.hid h1
  obtain ⟨A1, n1, c1, A1', n1', c1', rfl⟩ := h1.shape
  clear h1
  obtain ⟨M, hM, k1, k3, bM⟩ := start1 w (.bool s1) (.slice A1 n1 c1) (.slice A1' n1' c1') (.bool false) (.slice none 0 0) (.slice none 0 0) 24 24
  have TA : Hid (P1 w M w.heap.size (w.heap.size + 1) s1 A1 n1 c1 A1' n1' c1' N1 D1) := Lib.hid ⟨k1, ⟨_, _, _, NI.bool _, NI.slice _ _ _, NI.slice _ _ _, k3⟩, H1.out.below bM, bM, by omega, by omega⟩
  have HQ := Lib.hid hq
  have HL := Lib.hid hL
  have hp1 : decide (p < 0) = true := decide_eq_true hp
  clear hp
  obtain ⟨o, ho⟩ : ∃ o, Out.err 2 = o := ⟨_, rfl⟩
  have HO := Lib.hid ho
  rw [ho]
  clear hq hL k1 k3 bM H1 ho
  go_enter Tryd.func53, Tryd.ntmps53
  go_upto_region 1 with (fail)
  rw [← hM]
  clear hM
  obtain ⟨x1, x2, x3, _⟩ := TA.out.cells
  go_wp2_with fail
  refine (largeV _ s1 N1 D1 _ TA.out.r1).mono ?_
  rw [HL.out]
  rintro e wa ⟨rfl, ba⟩
  replace TA := Lib.hid (TA.out.below ba)
  clear ba x1 x2 x3
  obtain ⟨x1, x2, x3, _⟩ := TA.out.cells
  obtain ⟨y1, y2, y3, hy1, hy2, hy3, f1, f2, f3⟩ := TA.out.res.cells
  obtain ⟨q0, q1, q2, hs, hb⟩ := OutIs.stored (o := .err 2) (k := 2) (s := false) (A1 := none) (A2 := none) (n1 := 0) (c1 := 0) (n2 := 0) (c2 := 0) ⟨rfl, rfl, by omega, by omega⟩ TA.out.res TA.out.bel TA.out.n3
  have Q := Lib.hid (And.intro q0 (And.intro q1 q2))
  have HBB := Lib.hid hb
  clear q0 q1 q2 hs hb
  go_wp2_with fail
  obtain ⟨q0, q1, q2⟩ := Q.out
  refine bodyPost_ret (v := .tuple #[noRat, .int .i64 2]) (by simp [results, Tryd.results53, go_sem, q0, q1, q2, noRat]) rfl ?_
  rw [← HO.out]
  exact OutPost.err rfl (by omega) (by omega) HBB.out
set_option maxHeartbeats 2000000 in
set_option maxRecDepth 100000 in
theorem lGrid_big (s1 : Bool) (N1 D1 : Nat) (p : Int) (hp : 256 < p) (up : Bool) (w : World) (v1 : Value) (h1 : RawV w v1 s1 N1 D1) (q : Rat) (hq : ratOf s1 N1 D1 = q) (hL : largeB s1 N1 D1 = false) :
    Calls Tryd.prog 53 #[v1, .int .i64 p, .bool up] w (OutPost w (Out.err 2)) := by
  have H1 := Lib.hid h1
  obtain ⟨A1, n1, c1, A1', n1', c1', rfl⟩ := h1.shape
  clear h1
  obtain ⟨M, hM, k1, k3, bM⟩ := start1 w (.bool s1) (.slice A1 n1 c1) (.slice A1' n1' c1') (.bool false) (.slice none 0 0) (.slice none 0 0) 24 24
  have TA : Hid (P1 w M w.heap.size (w.heap.size + 1) s1 A1 n1 c1 A1' n1' c1' N1 D1) := Lib.hid ⟨k1, ⟨_, _, _, NI.bool _, NI.slice _ _ _, NI.slice _ _ _, k3⟩, H1.out.below bM, bM, by omega, by omega⟩
  have HQ := Lib.hid hq
  have HL := Lib.hid hL
  have hp1 : decide (p < 0) = false := decide_eq_false (by omega)
  have hp2 : decide (256 < p) = true := decide_eq_true hp
  clear hp
  obtain ⟨o, ho⟩ : ∃ o, Out.err 2 = o := ⟨_, rfl⟩
  have HO := Lib.hid ho
  rw [ho]
  clear hq hL k1 k3 bM H1 ho
  go_enter Tryd.func53, Tryd.ntmps53
  go_upto_region 1 with (fail)
  rw [← hM]
  clear hM
  obtain ⟨x1, x2, x3, _⟩ := TA.out.cells
  go_wp2_with fail
  refine (largeV _ s1 N1 D1 _ TA.out.r1).mono ?_
  rw [HL.out]
  rintro e wa ⟨rfl, ba⟩
  replace TA := Lib.hid (TA.out.below ba)
  clear ba x1 x2 x3
  obtain ⟨x1, x2, x3, _⟩ := TA.out.cells
  obtain ⟨y1, y2, y3, hy1, hy2, hy3, f1, f2, f3⟩ := TA.out.res.cells
  obtain ⟨q0, q1, q2, hs, hb⟩ := OutIs.stored (o := .err 2) (k := 2) (s := false) (A1 := none) (A2 := none) (n1 := 0) (c1 := 0) (n2 := 0) (c2 := 0) ⟨rfl, rfl, by omega, by omega⟩ TA.out.res TA.out.bel TA.out.n3
  have Q := Lib.hid (And.intro q0 (And.intro q1 q2))
  have HBB := Lib.hid hb
  clear q0 q1 q2 hs hb
  go_wp2_with fail
  obtain ⟨q0, q1, q2⟩ := Q.out
  refine bodyPost_ret (v := .tuple #[noRat, .int .i64 2]) (by simp [results, Tryd.results53, go_sem, q0, q1, q2, noRat]) rfl ?_
  rw [← HO.out]
  exact OutPost.err rfl (by omega) (by omega) HBB.out
set_option maxHeartbeats 2000000 in
set_option maxRecDepth 100000 in
theorem lGrid_false (s1 : Bool) (N1 D1 : Nat) (p : Nat) (hp : p ≤ 256) (r : Rat) (hr : gridQ (ratOf s1 N1 D1) p false = r) (w : World) (v1 : Value) (h1 : RawV w v1 s1 N1 D1) (q : Rat) (hq : ratOf s1 N1 D1 = q) (hL : largeB s1 N1 D1 = false) :
    Calls Tryd.prog 53 #[v1, .int .i64 p, .bool false] w (OutPost w (give r)) := by
  have H1 := Lib.hid h1
  obtain ⟨A1, n1, c1, A1', n1', c1', rfl⟩ := h1.shape
  clear h1
  obtain ⟨M, hM, k1, k3, bM⟩ := start1 w (.bool s1) (.slice A1 n1 c1) (.slice A1' n1' c1') (.bool false) (.slice none 0 0) (.slice none 0 0) 24 24
  have TA : Hid (P1 w M w.heap.size (w.heap.size + 1) s1 A1 n1 c1 A1' n1' c1' N1 D1) := Lib.hid ⟨k1, ⟨_, _, _, NI.bool _, NI.slice _ _ _, NI.slice _ _ _, k3⟩, H1.out.below bM, bM, by omega, by omega⟩
  have HQ := Lib.hid hq
  have HL := Lib.hid hL
  have hf := (largeB_false hL).2.2
  rw [hq] at hf
  have HF := Lib.hid hf
  clear hf
  rw [hq] at hr
  have HR := Lib.hid hr
  have HK := Lib.hid (show Rq 2000000 r by rw [← hr]; exact (grid_Rq (fit_Rq HF.out (k := 128) (by omega)) p false).le (by omega))
  have HP := Lib.hid hp
  have hp1 : decide ((p : Int) < 0) = false := decide_eq_false (by omega)
  have hp2 : decide (256 < (p : Int)) = false := decide_eq_false (by omega)
  have hp3 : decide (256 < p) = false := decide_eq_false (by omega)
  clear hr hp
  obtain ⟨o, ho⟩ : ∃ o, give r = o := ⟨_, rfl⟩
  have HO := Lib.hid ho
  rw [ho]
  clear hq hL k1 k3 bM H1 ho
  go_enter Tryd.func53, Tryd.ntmps53
  go_upto_region 1 with (fail)
  rw [← hM]
  clear hM
  obtain ⟨x1, x2, x3, _⟩ := TA.out.cells
  go_wp2_with fail
  refine (largeV _ s1 N1 D1 _ TA.out.r1).mono ?_
  rw [HL.out]
  rintro e wa ⟨rfl, ba⟩
  replace TA := Lib.hid (TA.out.below ba)
  clear ba x1 x2 x3
  obtain ⟨x1, x2, x3, _⟩ := TA.out.cells
  go_wp2_with fail
  refine (ofQ _ _ _ _ q _ TA.out.r1 HL.out HQ.out).mono ?_
  rintro e wb ⟨t0, B0, m0, e0, B0', m0', e0', rfl, i0, bb⟩
  replace TA := Lib.hid (TA.out.below bb)
  clear bb x1 x2 x3
  go_wp2_with fail
  refine (qGridDown q p (Nat.le_trans HP.out (by omega)) _ _ i0.out (fit_Rq HF.out (by omega)) r HR.out).mono ?_
  rintro e wb ⟨t1, B1, m1, e1, B1', m1', e1', rfl, i1, bb⟩
  replace TA := Lib.hid (TA.out.below bb)
  clear bb
  go_wp2_with fail
  refine (qDone _ _ _ i1.out HK.out).mono ?_
  rintro e we ⟨s9, A9, n9, c9, A9', n9', c9', k9, rfl, h9, b9⟩
  replace TA := Lib.hid (TA.out.below b9)
  obtain ⟨z1, z2, z3, hz1, hz2, hz3, k1, k2, k3⟩ := TA.out.res.cells
  obtain ⟨q0, q1, q2, hs, hb⟩ := OutIs.stored h9 TA.out.res TA.out.bel TA.out.n3
  have Q := Lib.hid (And.intro q0 (And.intro q1 q2))
  have HS := Lib.hid hs
  have HBB := Lib.hid hb
  clear q0 q1 q2 hs hb h9 b9
  go_wp2
  obtain ⟨q0, q1, q2⟩ := Q.out
  refine bodyPost_ret (v := .tuple #[.agg #[.bool s9, .slice A9 n9 c9, .slice A9' n9' c9'], .int .i64 k9]) (by simp [results, Tryd.results53, go_sem, q0, q1, q2]) rfl ?_
  rw [← HO.out]
  exact ⟨_, _, _, _, _, _, _, _, rfl, HS.out, HBB.out⟩
set_option maxHeartbeats 2000000 in
set_option maxRecDepth 100000 in
theorem lGrid_true (s1 : Bool) (N1 D1 : Nat) (p : Nat) (hp : p ≤ 256) (r : Rat) (hr : gridQ (ratOf s1 N1 D1) p true = r) (w : World) (v1 : Value) (h1 : RawV w v1 s1 N1 D1) (q : Rat) (hq : ratOf s1 N1 D1 = q) (hL : largeB s1 N1 D1 = false) :
    Calls Tryd.prog 53 #[v1, .int .i64 p, .bool true] w (OutPost w (give r)) := by
  have H1 := Lib.hid h1
  obtain ⟨A1, n1, c1, A1', n1', c1', rfl⟩ := h1.shape
  clear h1
  obtain ⟨M, hM, k1, k3, bM⟩ := start1 w (.bool s1) (.slice A1 n1 c1) (.slice A1' n1' c1') (.bool false) (.slice none 0 0) (.slice none 0 0) 24 24
  have TA : Hid (P1 w M w.heap.size (w.heap.size + 1) s1 A1 n1 c1 A1' n1' c1' N1 D1) := Lib.hid ⟨k1, ⟨_, _, _, NI.bool _, NI.slice _ _ _, NI.slice _ _ _, k3⟩, H1.out.below bM, bM, by omega, by omega⟩
  have HQ := Lib.hid hq
  have HL := Lib.hid hL
  have hf := (largeB_false hL).2.2
  rw [hq] at hf
  have HF := Lib.hid hf
  clear hf
  rw [hq] at hr
  have HR := Lib.hid hr
  have HK := Lib.hid (show Rq 2000000 r by rw [← hr]; exact (grid_Rq (fit_Rq HF.out (k := 128) (by omega)) p true).le (by omega))
  have HP := Lib.hid hp
  have hp1 : decide ((p : Int) < 0) = false := decide_eq_false (by omega)
  have hp2 : decide (256 < (p : Int)) = false := decide_eq_false (by omega)
  have hp3 : decide (256 < p) = false := decide_eq_false (by omega)
  clear hr hp
  obtain ⟨o, ho⟩ : ∃ o, give r = o := ⟨_, rfl⟩
  have HO := Lib.hid ho
  rw [ho]
  clear hq hL k1 k3 bM H1 ho
  go_enter Tryd.func53, Tryd.ntmps53
  go_upto_region 1 with (fail)
  rw [← hM]
  clear hM
  obtain ⟨x1, x2, x3, _⟩ := TA.out.cells
  go_wp2_with fail
  refine (largeV _ s1 N1 D1 _ TA.out.r1).mono ?_
  rw [HL.out]
  rintro e wa ⟨rfl, ba⟩
  replace TA := Lib.hid (TA.out.below ba)
  clear ba x1 x2 x3
  obtain ⟨x1, x2, x3, _⟩ := TA.out.cells
  go_wp2_with fail
  refine (ofQ _ _ _ _ q _ TA.out.r1 HL.out HQ.out).mono ?_
  rintro e wb ⟨t0, B0, m0, e0, B0', m0', e0', rfl, i0, bb⟩
  replace TA := Lib.hid (TA.out.below bb)
  clear bb x1 x2 x3
  go_wp2_with fail
  refine (qGridUp q p (Nat.le_trans HP.out (by omega)) _ _ i0.out (fit_Rq HF.out (by omega)) r HR.out).mono ?_
  rintro e wb ⟨t1, B1, m1, e1, B1', m1', e1', rfl, i1, bb⟩
  replace TA := Lib.hid (TA.out.below bb)
  clear bb
  go_wp2_with fail
  refine (qDone _ _ _ i1.out HK.out).mono ?_
  rintro e we ⟨s9, A9, n9, c9, A9', n9', c9', k9, rfl, h9, b9⟩
  replace TA := Lib.hid (TA.out.below b9)
  obtain ⟨z1, z2, z3, hz1, hz2, hz3, k1, k2, k3⟩ := TA.out.res.cells
  obtain ⟨q0, q1, q2, hs, hb⟩ := OutIs.stored h9 TA.out.res TA.out.bel TA.out.n3
  have Q := Lib.hid (And.intro q0 (And.intro q1 q2))
  have HS := Lib.hid hs
  have HBB := Lib.hid hb
  clear q0 q1 q2 hs hb h9 b9
  go_wp2
  obtain ⟨q0, q1, q2⟩ := Q.out
  refine bodyPost_ret (v := .tuple #[.agg #[.bool s9, .slice A9 n9 c9, .slice A9' n9' c9'], .int .i64 k9]) (by simp [results, Tryd.results53, go_sem, q0, q1, q2]) rfl ?_
  rw [← HO.out]
  exact ⟨_, _, _, _, _, _, _, _, rfl, HS.out, HBB.out⟩
/-- what Down and Up return -/
def gridOut (L : Bool) (p : Int) (up : Bool) (q : Rat) : Out := if L = true then .err 1 else if p < 0 ∨ 256 < p then .err 2 else give (gridQ q p.toNat up)
theorem lGrid (s1 : Bool) (N1 D1 : Nat) (p : Int) (up : Bool) (w : World) (v1 : Value) (h1 : RawV w v1 s1 N1 D1) :
    Calls Tryd.prog 53 #[v1, .int .i64 p, .bool up] w (OutPost w (gridOut (largeB s1 N1 D1) p up (ratOf s1 N1 D1))) := by
  unfold gridOut
  by_cases h : largeB s1 N1 D1 = true
  · rw [if_pos h]; exact lGrid_large s1 N1 D1 p up w v1 h1 _ rfl h
  · rw [if_neg h]
    have h' : largeB s1 N1 D1 = false := by simpa using h
    by_cases hn : p < 0
    · rw [if_pos (Or.inl hn)]; exact lGrid_neg s1 N1 D1 p hn up w v1 h1 _ rfl h'
    · by_cases hb : 256 < p
      · rw [if_pos (Or.inr hb)]; exact lGrid_big s1 N1 D1 p hb up w v1 h1 _ rfl h'
      · rw [if_neg (by omega)]
        obtain ⟨k, rfl⟩ : ∃ k : Nat, p = (k : Int) := ⟨p.toNat, by omega⟩
        rw [Int.toNat_natCast]
        cases up
        · exact lGrid_false s1 N1 D1 k (by omega) _ rfl w v1 h1 _ rfl h'
        · exact lGrid_true s1 N1 D1 k (by omega) _ rfl w v1 h1 _ rfl h'
end Go.Proofs.YtfmhplcpejmkhaaDoor

namespace Go.Proofs.YtfmhplcpejmkhaaDoor
open Go.RowKit Dig
set_option linter.unusedVariables false
set_option linter.unusedSimpArgs false
/-- a value that has been read, and a variable for a result -/
structure N1 (w M : World) (g3 g : Nat) (s : Bool) (A1 : Option Addr) (n1 c1 : Nat) (B1 : Option Addr) (m1 d1 : Nat) : Prop where
  res : Res M g3 24
  box : Box M g (.bool s) (.slice A1 n1 c1) (.slice B1 m1 d1) 60
  tab : Tab M
  bel : Below w.heap.size w M
  n3 : w.heap.size ≤ g3
  ne : g ≠ g3
theorem N1.below {w M M' : World} {g3 g : Nat} {s : Bool} {A1 : Option Addr} {n1 c1 : Nat} {B1 : Option Addr} {m1 d1 : Nat} (h : N1 w M g3 g s A1 n1 c1 B1 m1 d1) (hb : Below M.heap.size M M') : N1 w M' g3 g s A1 n1 c1 B1 m1 d1 :=
  ⟨h.res.below hb, h.box.below hb, h.tab.below hb, below_step h.bel h.bel.size hb, h.n3, h.ne⟩
theorem Calls.partsF {f : Nat} {args : Array Value} {w : World} {q : Rat} (h : Calls Tryd.prog f args w fun e w' => ∃ u, e = .returned u ∧ IsF w' u q ∧ Below w.heap.size w w') :
    Calls Tryd.prog f args w fun e w' => ∃ t B1 m1 e1 B2 m2 e2, e = .returned (.agg #[.bool t, .slice B1 m1 e1, .slice B2 m2 e2]) ∧ Hid (IsF w' (.agg #[.bool t, .slice B1 m1 e1, .slice B2 m2 e2]) q) ∧ Below w.heap.size w w' := by
  refine h.mono ?_
  rintro e w' ⟨u, rfl, hq, hb⟩
  have hq2 := hq
  obtain ⟨A1, c1, A2, c2, rfl, r1, r2⟩ := hq
  exact ⟨_, _, _, _, _, _, _, rfl, hq2, hb⟩
theorem fGrid (a : Rat) (p : Nat) (up : Bool) (lp : p ≤ 100000) (w : World) (v1 : Value) (h1 : IsF w v1 a) (k : Wq 200000 a) (hT : Tab w) : Calls Tryd.prog 99 #[v1, .int .i64 p, .bool up] w fun e w' => ∃ u, e = .returned u ∧ IsF w' u (gridQ a p up) ∧ Below w.heap.size w w' := by
  obtain ⟨A1, c1, A2, c2, rfl, r1, r2⟩ := h1
  exact fracGrid _ _ _ p up w _ _ _ _ r1 r2 k.1 k.2 lp a.den_nz hT
set_option maxHeartbeats 2000000 in
set_option maxRecDepth 100000 in
theorem nround_large (s1 : Bool) (N1' D1' : Nat) (p : Int) (up : Bool) (w : World) (v1 : Value) (h1 : RawV w v1 s1 N1' D1') (hT : Tab w) (q : Rat) (hq : ratOf s1 N1' D1' = q) (hL : largeB s1 N1' D1' = true) :
    Calls Tryd.prog 103 #[v1, .int .i64 p, .bool up] w (OutPost w (Out.err 1)) := by
  have H1 := Lib.hid h1
  have HT := Lib.hid hT
  obtain ⟨A1, n1, c1, A1', n1', c1', rfl⟩ := h1.shape
  clear h1 hT
  obtain ⟨M, hM, k1, k3, bM⟩ := start1 w (.bool s1) (.slice A1 n1 c1) (.slice A1' n1' c1') (.bool false) (.slice none 0 0) (.slice none 0 0) 24 24
  have HX := Lib.hid k1
  have HR := Lib.hid (show Res M (w.heap.size + 1) 24 from ⟨_, _, _, NI.bool _, NI.slice _ _ _, NI.slice _ _ _, k3⟩)
  have BM := Lib.hid bM
  replace H1 := Lib.hid (H1.out.below bM)
  replace HT := Lib.hid (HT.out.below bM)
  have HQ := Lib.hid hq
  have HL := Lib.hid hL
  obtain ⟨o, ho⟩ : ∃ o, Out.err 1 = o := ⟨_, rfl⟩
  have HO := Lib.hid ho
  rw [ho]
  clear hq hL k1 k3 bM ho
  go_enter Tryd.func103, Tryd.ntmps103
  go_upto_region 1 with (fail)
  rw [← hM]
  clear hM
  obtain ⟨x1, x2, x3, _, _, _⟩ := HX.out.cells
  go_wp2_with fail
  refine (readV _ s1 N1' D1' _ H1.out HT.out).mono ?_
  rw [HL.out, Bool.not_true]
  rintro e wa ⟨t1, B1, m1, d1, B1', m1', d1', rfl, f1, ba⟩
  have bb := below_step ba ba.size (below_alloc wa (.cells #[.bool t1, .slice B1 m1 d1, .slice B1' m1' d1'] 60))
  have hf1 := Box.new wa (.bool t1) (.slice B1 m1 d1) (.slice B1' m1' d1') 60
  have szw : w.heap.size + 1 < wa.heap.size := Nat.lt_of_lt_of_le (by obtain ⟨_, _, _, _, _, _, hh⟩ := HR.out; exact hh.lt) ba.size
  have TA : Hid (N1 w (wa.alloc (.cells #[.bool t1, .slice B1 m1 d1, .slice B1' m1' d1'] 60)) (w.heap.size + 1) wa.heap.size t1 B1 m1 d1 B1' m1' d1') :=
    Lib.hid ⟨HR.out.below bb, hf1, HT.out.below bb, below_step BM.out BM.out.size bb, by omega, by omega⟩
  obtain ⟨w2, hw2⟩ : ∃ w2, wa.alloc (.cells #[.bool t1, .slice B1 m1 d1, .slice B1' m1' d1'] 60) = w2 := ⟨_, rfl⟩
  obtain ⟨gf, hgf⟩ : ∃ gf, wa.heap.size = gf := ⟨_, rfl⟩
  clear x1 x2 x3 ba bb f1 hf1 szw HR BM HX H1 HT
  go_upto_region 2 with (fail)
  rw [hw2] at TA
  try rw [hw2]
  rw [hgf] at TA
  try rw [hgf]
  clear hw2 hgf
  obtain ⟨y1, y2, y3, _⟩ := TA.out.box.cells
  obtain ⟨z1, z2, z3, hy1, hy2, hy3, f1, f2, f3⟩ := TA.out.res.cells
  obtain ⟨q0, q1, q2, hs, hb⟩ := OutIs.stored (o := .err 1) (k := 1) (s := false) (A1 := none) (A2 := none) (n1 := 0) (c1 := 0) (n2 := 0) (c2 := 0) ⟨rfl, rfl, by omega, by omega⟩ TA.out.res TA.out.bel TA.out.n3
  have Q := Lib.hid (And.intro q0 (And.intro q1 q2))
  have HBB := Lib.hid hb
  clear q0 q1 q2 hs hb
  go_wp2_with fail
  obtain ⟨q0, q1, q2⟩ := Q.out
  refine bodyPost_ret (v := .tuple #[noRat, .int .i64 1]) (by simp [results, Tryd.results103, go_sem, q0, q1, q2, noRat]) rfl ?_
  rw [← HO.out]
  exact OutPost.err rfl (by omega) (by omega) HBB.out
set_option maxHeartbeats 2000000 in
set_option maxRecDepth 100000 in
theorem nround_neg (s1 : Bool) (N1' D1' : Nat) (p : Int) (hp : p < 0) (up : Bool) (w : World) (v1 : Value) (h1 : RawV w v1 s1 N1' D1') (hT : Tab w) (q : Rat) (hq : ratOf s1 N1' D1' = q) (hL : largeB s1 N1' D1' = false) :
    Calls Tryd.prog 103 #[v1, .int .i64 p, .bool up] w (OutPost w (Out.err 2)) := by
  have H1 := Lib.hid h1
  have HT := Lib.hid hT
  obtain ⟨A1, n1, c1, A1', n1', c1', rfl⟩ := h1.shape
  clear h1 hT
  obtain ⟨M, hM, k1, k3, bM⟩ := start1 w (.bool s1) (.slice A1 n1 c1) (.slice A1' n1' c1') (.bool false) (.slice none 0 0) (.slice none 0 0) 24 24
  have HX := Lib.hid k1
  have HR := Lib.hid (show Res M (w.heap.size + 1) 24 from ⟨_, _, _, NI.bool _, NI.slice _ _ _, NI.slice _ _ _, k3⟩)
  have BM := Lib.hid bM
  replace H1 := Lib.hid (H1.out.below bM)
  replace HT := Lib.hid (HT.out.below bM)
  have HQ := Lib.hid hq
  have HL := Lib.hid hL
  have hp1 : decide (p < 0) = true := decide_eq_true hp
  clear hp
  obtain ⟨o, ho⟩ : ∃ o, Out.err 2 = o := ⟨_, rfl⟩
  have HO := Lib.hid ho
  rw [ho]
  clear hq hL k1 k3 bM ho
  go_enter Tryd.func103, Tryd.ntmps103
  go_upto_region 1 with (fail)
  rw [← hM]
  clear hM
  obtain ⟨x1, x2, x3, _, _, _⟩ := HX.out.cells
  go_wp2_with fail
  refine (readV _ s1 N1' D1' _ H1.out HT.out).mono ?_
  rw [HL.out, Bool.not_false]
  rintro e wa ⟨t1, B1, m1, d1, B1', m1', d1', rfl, f1, ba⟩
  have bb := below_step ba ba.size (below_alloc wa (.cells #[.bool t1, .slice B1 m1 d1, .slice B1' m1' d1'] 60))
  have hf1 := Box.new wa (.bool t1) (.slice B1 m1 d1) (.slice B1' m1' d1') 60
  have szw : w.heap.size + 1 < wa.heap.size := Nat.lt_of_lt_of_le (by obtain ⟨_, _, _, _, _, _, hh⟩ := HR.out; exact hh.lt) ba.size
  have TA : Hid (N1 w (wa.alloc (.cells #[.bool t1, .slice B1 m1 d1, .slice B1' m1' d1'] 60)) (w.heap.size + 1) wa.heap.size t1 B1 m1 d1 B1' m1' d1') :=
    Lib.hid ⟨HR.out.below bb, hf1, HT.out.below bb, below_step BM.out BM.out.size bb, by omega, by omega⟩
  have F1 : Hid (IsF (wa.alloc (.cells #[.bool t1, .slice B1 m1 d1, .slice B1' m1' d1'] 60)) (.agg #[.bool t1, .slice B1 m1 d1, .slice B1' m1' d1']) q) := Lib.hid (by rw [← HQ.out]; exact (f1.out rfl).below (below_alloc _ _))
  obtain ⟨w2, hw2⟩ : ∃ w2, wa.alloc (.cells #[.bool t1, .slice B1 m1 d1, .slice B1' m1' d1'] 60) = w2 := ⟨_, rfl⟩
  obtain ⟨gf, hgf⟩ : ∃ gf, wa.heap.size = gf := ⟨_, rfl⟩
  clear x1 x2 x3 ba bb f1 hf1 szw HR BM HX H1 HT
  go_upto_region 2 with (fail)
  rw [hw2] at TA F1
  try rw [hw2]
  rw [hgf] at TA
  try rw [hgf]
  clear hw2 hgf
  obtain ⟨y1, y2, y3, _⟩ := TA.out.box.cells
  obtain ⟨z1, z2, z3, hy1, hy2, hy3, f1, f2, f3⟩ := TA.out.res.cells
  obtain ⟨q0, q1, q2, hs, hb⟩ := OutIs.stored (o := .err 2) (k := 2) (s := false) (A1 := none) (A2 := none) (n1 := 0) (c1 := 0) (n2 := 0) (c2 := 0) ⟨rfl, rfl, by omega, by omega⟩ TA.out.res TA.out.bel TA.out.n3
  have Q := Lib.hid (And.intro q0 (And.intro q1 q2))
  have HBB := Lib.hid hb
  clear q0 q1 q2 hs hb
  go_wp2_with fail
  obtain ⟨q0, q1, q2⟩ := Q.out
  refine bodyPost_ret (v := .tuple #[noRat, .int .i64 2]) (by simp [results, Tryd.results103, go_sem, q0, q1, q2, noRat]) rfl ?_
  rw [← HO.out]
  exact OutPost.err rfl (by omega) (by omega) HBB.out
set_option maxHeartbeats 2000000 in
set_option maxRecDepth 100000 in
theorem nround_big (s1 : Bool) (N1' D1' : Nat) (p : Int) (hp : 256 < p) (up : Bool) (w : World) (v1 : Value) (h1 : RawV w v1 s1 N1' D1') (hT : Tab w) (q : Rat) (hq : ratOf s1 N1' D1' = q) (hL : largeB s1 N1' D1' = false) :
    Calls Tryd.prog 103 #[v1, .int .i64 p, .bool up] w (OutPost w (Out.err 2)) := by
  have H1 := Lib.hid h1
  have HT := Lib.hid hT
  obtain ⟨A1, n1, c1, A1', n1', c1', rfl⟩ := h1.shape
  clear h1 hT
  obtain ⟨M, hM, k1, k3, bM⟩ := start1 w (.bool s1) (.slice A1 n1 c1) (.slice A1' n1' c1') (.bool false) (.slice none 0 0) (.slice none 0 0) 24 24
  have HX := Lib.hid k1
  have HR := Lib.hid (show Res M (w.heap.size + 1) 24 from ⟨_, _, _, NI.bool _, NI.slice _ _ _, NI.slice _ _ _, k3⟩)
  have BM := Lib.hid bM
  replace H1 := Lib.hid (H1.out.below bM)
  replace HT := Lib.hid (HT.out.below bM)
  have HQ := Lib.hid hq
  have HL := Lib.hid hL
  have hp1 : decide (p < 0) = false := decide_eq_false (by omega)
  have hp2 : decide (256 < p) = true := decide_eq_true hp
  clear hp
  obtain ⟨o, ho⟩ : ∃ o, Out.err 2 = o := ⟨_, rfl⟩
  have HO := Lib.hid ho
  rw [ho]
  clear hq hL k1 k3 bM ho
  go_enter Tryd.func103, Tryd.ntmps103
  go_upto_region 1 with (fail)
  rw [← hM]
  clear hM
  obtain ⟨x1, x2, x3, _, _, _⟩ := HX.out.cells
  go_wp2_with fail
  refine (readV _ s1 N1' D1' _ H1.out HT.out).mono ?_
  rw [HL.out, Bool.not_false]
  rintro e wa ⟨t1, B1, m1, d1, B1', m1', d1', rfl, f1, ba⟩
  have bb := below_step ba ba.size (below_alloc wa (.cells #[.bool t1, .slice B1 m1 d1, .slice B1' m1' d1'] 60))
  have hf1 := Box.new wa (.bool t1) (.slice B1 m1 d1) (.slice B1' m1' d1') 60
  have szw : w.heap.size + 1 < wa.heap.size := Nat.lt_of_lt_of_le (by obtain ⟨_, _, _, _, _, _, hh⟩ := HR.out; exact hh.lt) ba.size
  have TA : Hid (N1 w (wa.alloc (.cells #[.bool t1, .slice B1 m1 d1, .slice B1' m1' d1'] 60)) (w.heap.size + 1) wa.heap.size t1 B1 m1 d1 B1' m1' d1') :=
    Lib.hid ⟨HR.out.below bb, hf1, HT.out.below bb, below_step BM.out BM.out.size bb, by omega, by omega⟩
  have F1 : Hid (IsF (wa.alloc (.cells #[.bool t1, .slice B1 m1 d1, .slice B1' m1' d1'] 60)) (.agg #[.bool t1, .slice B1 m1 d1, .slice B1' m1' d1']) q) := Lib.hid (by rw [← HQ.out]; exact (f1.out rfl).below (below_alloc _ _))
  obtain ⟨w2, hw2⟩ : ∃ w2, wa.alloc (.cells #[.bool t1, .slice B1 m1 d1, .slice B1' m1' d1'] 60) = w2 := ⟨_, rfl⟩
  obtain ⟨gf, hgf⟩ : ∃ gf, wa.heap.size = gf := ⟨_, rfl⟩
  clear x1 x2 x3 ba bb f1 hf1 szw HR BM HX H1 HT
  go_upto_region 2 with (fail)
  rw [hw2] at TA F1
  try rw [hw2]
  rw [hgf] at TA
  try rw [hgf]
  clear hw2 hgf
  obtain ⟨y1, y2, y3, _⟩ := TA.out.box.cells
  obtain ⟨z1, z2, z3, hy1, hy2, hy3, f1, f2, f3⟩ := TA.out.res.cells
  obtain ⟨q0, q1, q2, hs, hb⟩ := OutIs.stored (o := .err 2) (k := 2) (s := false) (A1 := none) (A2 := none) (n1 := 0) (c1 := 0) (n2 := 0) (c2 := 0) ⟨rfl, rfl, by omega, by omega⟩ TA.out.res TA.out.bel TA.out.n3
  have Q := Lib.hid (And.intro q0 (And.intro q1 q2))
  have HBB := Lib.hid hb
  clear q0 q1 q2 hs hb
  go_wp2_with fail
  obtain ⟨q0, q1, q2⟩ := Q.out
  refine bodyPost_ret (v := .tuple #[noRat, .int .i64 2]) (by simp [results, Tryd.results103, go_sem, q0, q1, q2, noRat]) rfl ?_
  rw [← HO.out]
  exact OutPost.err rfl (by omega) (by omega) HBB.out
set_option maxHeartbeats 2000000 in
set_option maxRecDepth 100000 in
theorem nround_ok (s1 : Bool) (N1' D1' : Nat) (p : Nat) (hp : p ≤ 256) (up : Bool) (r : Rat) (hr : gridQ (ratOf s1 N1' D1') p up = r) (w : World) (v1 : Value) (h1 : RawV w v1 s1 N1' D1') (hT : Tab w) (q : Rat) (hq : ratOf s1 N1' D1' = q) (hL : largeB s1 N1' D1' = false) :
    Calls Tryd.prog 103 #[v1, .int .i64 p, .bool up] w (OutPost w (give r)) := by
  have H1 := Lib.hid h1
  have HT := Lib.hid hT
  obtain ⟨A1, n1, c1, A1', n1', c1', rfl⟩ := h1.shape
  clear h1 hT
  obtain ⟨M, hM, k1, k3, bM⟩ := start1 w (.bool s1) (.slice A1 n1 c1) (.slice A1' n1' c1') (.bool false) (.slice none 0 0) (.slice none 0 0) 24 24
  have HX := Lib.hid k1
  have HR := Lib.hid (show Res M (w.heap.size + 1) 24 from ⟨_, _, _, NI.bool _, NI.slice _ _ _, NI.slice _ _ _, k3⟩)
  have BM := Lib.hid bM
  replace H1 := Lib.hid (H1.out.below bM)
  replace HT := Lib.hid (HT.out.below bM)
  have HQ := Lib.hid hq
  have HL := Lib.hid hL
  have hf := (largeB_false hL).2.2
  rw [hq] at hf
  have HF := Lib.hid hf
  clear hf
  rw [hq] at hr
  have HR2 := Lib.hid hr
  have HP := Lib.hid hp
  have hp1 : decide ((p : Int) < 0) = false := decide_eq_false (by omega)
  have hp2 : decide (256 < (p : Int)) = false := decide_eq_false (by omega)
  have hp3 : decide (256 < p) = false := decide_eq_false (by omega)
  clear hr hp
  obtain ⟨o, ho⟩ : ∃ o, give r = o := ⟨_, rfl⟩
  have HO := Lib.hid ho
  rw [ho]
  clear hq hL k1 k3 bM ho
  go_enter Tryd.func103, Tryd.ntmps103
  go_upto_region 1 with (fail)
  rw [← hM]
  clear hM
  obtain ⟨x1, x2, x3, _, _, _⟩ := HX.out.cells
  go_wp2_with fail
  refine (readV _ s1 N1' D1' _ H1.out HT.out).mono ?_
  rw [HL.out, Bool.not_false]
  rintro e wa ⟨t1, B1, m1, d1, B1', m1', d1', rfl, f1, ba⟩
  have bb := below_step ba ba.size (below_alloc wa (.cells #[.bool t1, .slice B1 m1 d1, .slice B1' m1' d1'] 60))
  have hf1 := Box.new wa (.bool t1) (.slice B1 m1 d1) (.slice B1' m1' d1') 60
  have szw : w.heap.size + 1 < wa.heap.size := Nat.lt_of_lt_of_le (by obtain ⟨_, _, _, _, _, _, hh⟩ := HR.out; exact hh.lt) ba.size
  have TA : Hid (N1 w (wa.alloc (.cells #[.bool t1, .slice B1 m1 d1, .slice B1' m1' d1'] 60)) (w.heap.size + 1) wa.heap.size t1 B1 m1 d1 B1' m1' d1') :=
    Lib.hid ⟨HR.out.below bb, hf1, HT.out.below bb, below_step BM.out BM.out.size bb, by omega, by omega⟩
  have F1 : Hid (IsF (wa.alloc (.cells #[.bool t1, .slice B1 m1 d1, .slice B1' m1' d1'] 60)) (.agg #[.bool t1, .slice B1 m1 d1, .slice B1' m1' d1']) q) := Lib.hid (by rw [← HQ.out]; exact (f1.out rfl).below (below_alloc _ _))
  obtain ⟨w2, hw2⟩ : ∃ w2, wa.alloc (.cells #[.bool t1, .slice B1 m1 d1, .slice B1' m1' d1'] 60) = w2 := ⟨_, rfl⟩
  obtain ⟨gf, hgf⟩ : ∃ gf, wa.heap.size = gf := ⟨_, rfl⟩
  clear x1 x2 x3 ba bb f1 hf1 szw HR BM HX H1 HT
  go_upto_region 2 with (fail)
  rw [hw2] at TA F1
  try rw [hw2]
  rw [hgf] at TA
  try rw [hgf]
  clear hw2 hgf
  obtain ⟨y1, y2, y3, _⟩ := TA.out.box.cells
  go_wp2_with fail
  refine (Calls.partsF (fGrid q p up (Nat.le_trans HP.out (by omega)) _ _ F1.out (fit_Wq HF.out (by omega)) TA.out.tab)).mono ?_
  rw [HR2.out]
  rintro e wb ⟨t2, B2, m2, d2, B2', m2', d2', rfl, i1, bb⟩
  replace TA := Lib.hid (TA.out.below bb)
  clear bb
  go_wp2_with fail
  refine (giveF _ _ _ i1.out).mono ?_
  rintro e we ⟨s9, A9, n9, c9, A9', n9', c9', k9, rfl, h9, b9⟩
  replace TA := Lib.hid (TA.out.below b9)
  obtain ⟨z1, z2, z3, hz1, hz2, hz3, k1, k2, k3⟩ := TA.out.res.cells
  obtain ⟨q0, q1, q2, hs, hb⟩ := OutIs.stored h9 TA.out.res TA.out.bel TA.out.n3
  have Q := Lib.hid (And.intro q0 (And.intro q1 q2))
  have HS := Lib.hid hs
  have HBB := Lib.hid hb
  clear q0 q1 q2 hs hb h9 b9
  go_wp2
  obtain ⟨q0, q1, q2⟩ := Q.out
  refine bodyPost_ret (v := .tuple #[.agg #[.bool s9, .slice A9 n9 c9, .slice A9' n9' c9'], .int .i64 k9]) (by simp [results, Tryd.results103, go_sem, q0, q1, q2]) rfl ?_
  rw [← HO.out]
  exact ⟨_, _, _, _, _, _, _, _, rfl, HS.out, HBB.out⟩
theorem nround (s1 : Bool) (N1' D1' : Nat) (p : Int) (up : Bool) (w : World) (v1 : Value) (h1 : RawV w v1 s1 N1' D1') (hT : Tab w) :
    Calls Tryd.prog 103 #[v1, .int .i64 p, .bool up] w (OutPost w (gridOut (largeB s1 N1' D1') p up (ratOf s1 N1' D1'))) := by
  unfold gridOut
  by_cases h : largeB s1 N1' D1' = true
  · rw [if_pos h]; exact nround_large s1 N1' D1' p up w v1 h1 hT _ rfl h
  · rw [if_neg h]
    have h' : largeB s1 N1' D1' = false := by simpa using h
    by_cases hn : p < 0
    · rw [if_pos (Or.inl hn)]; exact nround_neg s1 N1' D1' p hn up w v1 h1 hT _ rfl h'
    · by_cases hb : 256 < p
      · rw [if_pos (Or.inr hb)]; exact nround_big s1 N1' D1' p hb up w v1 h1 hT _ rfl h'
      · rw [if_neg (by omega)]
        obtain ⟨k, rfl⟩ : ∃ k : Nat, p = (k : Int) := ⟨p.toNat, by omega⟩
        rw [Int.toNat_natCast]
        exact nround_ok s1 N1' D1' k (by omega) up _ rfl w v1 h1 hT _ rfl h'
set_option maxHeartbeats 1000000 in
set_option maxRecDepth 100000 in
theorem nDown (s1 : Bool) (N1 D1 : Nat) (p : Int) (w : World) (v1 : Value) (h1 : RawV w v1 s1 N1 D1) (hT : Tab w) :
    Calls Tryd.prog 51 #[v1, .int .i64 p] w (OutPost w (gridOut (largeB s1 N1 D1) p false (ratOf s1 N1 D1))) := by
  have H1 := Lib.hid h1
  have HT := Lib.hid hT
  obtain ⟨A1, n1, c1, A1', n1', c1', rfl⟩ := h1.shape
  clear h1 hT
  obtain ⟨M, hM, k1, k3, bM⟩ := start1 w (.bool s1) (.slice A1 n1 c1) (.slice A1' n1' c1') (.bool false) (.slice none 0 0) (.slice none 0 0) 24 24
  have HX := Lib.hid k1
  have HR := Lib.hid (show Res M (w.heap.size + 1) 24 from ⟨_, _, _, NI.bool _, NI.slice _ _ _, NI.slice _ _ _, k3⟩)
  have BM := Lib.hid bM
  replace H1 := Lib.hid (H1.out.below bM)
  replace HT := Lib.hid (HT.out.below bM)
  have C := Lib.hid (nround s1 N1 D1 p false M _ H1.out HT.out)
  obtain ⟨o, ho⟩ : ∃ o, gridOut (largeB s1 N1 D1) p false (ratOf s1 N1 D1) = o := ⟨_, rfl⟩
  rw [ho] at C
  rw [ho]
  clear k1 k3 bM ho
  go_enter Tryd.func51, Tryd.ntmps51
  go_upto_region 1 with (fail)
  rw [← hM]
  clear hM
  obtain ⟨x1, x2, x3, _, _, _⟩ := HX.out.cells
  go_wp2_with fail
  refine C.out.mono ?_
  rintro e we ⟨s9, A9, n9, c9, A9', n9', c9', k9, rfl, h9, b9⟩
  replace HR := Lib.hid (HR.out.below b9)
  have BE := Lib.hid (below_step BM.out BM.out.size b9)
  obtain ⟨q0, q1, q2, hs, hb⟩ := OutIs.stored h9 HR.out BE.out (by omega)
  have Q := Lib.hid (And.intro q0 (And.intro q1 q2))
  have HS := Lib.hid hs
  have HB := Lib.hid hb
  clear b9 h9 q0 q1 q2 hs hb x1 x2 x3
  obtain ⟨r1, r2, r3, hr1, hr2, hr3, _, _, _⟩ := HR.out.cells
  go_wp2_with fail
  obtain ⟨q0, q1, q2⟩ := Q.out
  refine bodyPost_ret (v := .tuple #[.agg #[.bool s9, .slice A9 n9 c9, .slice A9' n9' c9'], .int .i64 k9]) (by simp [results, Tryd.results51, go_sem, q0, q1, q2]) rfl ?_
  exact ⟨_, _, _, _, _, _, _, _, rfl, HS.out, HB.out⟩
set_option maxHeartbeats 1000000 in
set_option maxRecDepth 100000 in
theorem nUp (s1 : Bool) (N1 D1 : Nat) (p : Int) (w : World) (v1 : Value) (h1 : RawV w v1 s1 N1 D1) (hT : Tab w) :
    Calls Tryd.prog 52 #[v1, .int .i64 p] w (OutPost w (gridOut (largeB s1 N1 D1) p true (ratOf s1 N1 D1))) := by
  have H1 := Lib.hid h1
  have HT := Lib.hid hT
  obtain ⟨A1, n1, c1, A1', n1', c1', rfl⟩ := h1.shape
  clear h1 hT
  obtain ⟨M, hM, k1, k3, bM⟩ := start1 w (.bool s1) (.slice A1 n1 c1) (.slice A1' n1' c1') (.bool false) (.slice none 0 0) (.slice none 0 0) 24 24
  have HX := Lib.hid k1
  have HR := Lib.hid (show Res M (w.heap.size + 1) 24 from ⟨_, _, _, NI.bool _, NI.slice _ _ _, NI.slice _ _ _, k3⟩)
  have BM := Lib.hid bM
  replace H1 := Lib.hid (H1.out.below bM)
  replace HT := Lib.hid (HT.out.below bM)
  have C := Lib.hid (nround s1 N1 D1 p true M _ H1.out HT.out)
  obtain ⟨o, ho⟩ : ∃ o, gridOut (largeB s1 N1 D1) p true (ratOf s1 N1 D1) = o := ⟨_, rfl⟩
  rw [ho] at C
  rw [ho]
  clear k1 k3 bM ho
  go_enter Tryd.func52, Tryd.ntmps52
  go_upto_region 1 with (fail)
  rw [← hM]
  clear hM
  obtain ⟨x1, x2, x3, _, _, _⟩ := HX.out.cells
  go_wp2_with fail
  refine C.out.mono ?_
  rintro e we ⟨s9, A9, n9, c9, A9', n9', c9', k9, rfl, h9, b9⟩
  replace HR := Lib.hid (HR.out.below b9)
  have BE := Lib.hid (below_step BM.out BM.out.size b9)
  obtain ⟨q0, q1, q2, hs, hb⟩ := OutIs.stored h9 HR.out BE.out (by omega)
  have Q := Lib.hid (And.intro q0 (And.intro q1 q2))
  have HS := Lib.hid hs
  have HB := Lib.hid hb
  clear b9 h9 q0 q1 q2 hs hb x1 x2 x3
  obtain ⟨r1, r2, r3, hr1, hr2, hr3, _, _, _⟩ := HR.out.cells
  go_wp2_with fail
  obtain ⟨q0, q1, q2⟩ := Q.out
  refine bodyPost_ret (v := .tuple #[.agg #[.bool s9, .slice A9 n9 c9, .slice A9' n9' c9'], .int .i64 k9]) (by simp [results, Tryd.results52, go_sem, q0, q1, q2]) rfl ?_
  exact ⟨_, _, _, _, _, _, _, _, rfl, HS.out, HB.out⟩
end Go.Proofs.YtfmhplcpejmkhaaDoor

namespace Go.Proofs.YtfmhplcpejmkhaaDoor
open Go.RowKit Dig
set_option linter.unusedVariables false
set_option linter.unusedSimpArgs false
/-- two values that have been read, and a variable for a result -/
structure N2 (w M : World) (g3 gf gg : Nat) (s1 : Bool) (A1 : Option Addr) (n1 c1 : Nat) (B1 : Option Addr) (m1 d1 : Nat) (a : Rat) (s2 : Bool) (A2 : Option Addr) (n2 c2 : Nat) (B2 : Option Addr) (m2 d2 : Nat) (b : Rat) : Prop where
  res : Res M g3 24
  f : Box M gf (.bool s1) (.slice A1 n1 c1) (.slice B1 m1 d1) 60
  g : Box M gg (.bool s2) (.slice A2 n2 c2) (.slice B2 m2 d2) 60
  fa : IsF M (.agg #[.bool s1, .slice A1 n1 c1, .slice B1 m1 d1]) a
  fb : IsF M (.agg #[.bool s2, .slice A2 n2 c2, .slice B2 m2 d2]) b
  tab : Tab M
  bel : Below w.heap.size w M
  n3 : w.heap.size ≤ g3
  n1 : gf ≠ g3
  n2 : gg ≠ g3
  n4 : g3 ≠ 0
theorem IsF.grown {w w' : World} {v : Value} {q : Rat} {g : Nat} {x y z : Value} {t : TypeId} (h : IsF w v q) (hb : Box w g x y z t) (hx : NI x) (hy : NI y) (hz : NI z) (hg : w.grownBy w' (some g)) : IsF w' v q := by
  obtain ⟨A1, c1, A2, c2, e, r1, r2⟩ := h
  exact ⟨A1, c1, A2, c2, e, r1.grown_box hb hx hy hz hg, r2.grown_box hb hx hy hz hg⟩
section
variable {w M M' : World} {g3 gf gg : Nat} {s1 : Bool} {A1 : Option Addr} {n1 c1 : Nat} {B1 : Option Addr} {m1 d1 : Nat} {a : Rat} {s2 : Bool} {A2 : Option Addr} {n2 c2 : Nat} {B2 : Option Addr} {m2 d2 : Nat} {b : Rat}
theorem N2.below (h : N2 w M g3 gf gg s1 A1 n1 c1 B1 m1 d1 a s2 A2 n2 c2 B2 m2 d2 b) (hb : Below M.heap.size M M') : N2 w M' g3 gf gg s1 A1 n1 c1 B1 m1 d1 a s2 A2 n2 c2 B2 m2 d2 b :=
  ⟨h.res.below hb, h.f.below hb, h.g.below hb, h.fa.below hb, h.fb.below hb, h.tab.below hb, below_step h.bel h.bel.size hb, h.n3, h.n1, h.n2, h.n4⟩
theorem N2.drew (h : N2 w M g3 gf gg s1 A1 n1 c1 B1 m1 d1 a s2 A2 n2 c2 B2 m2 d2 b) : N2 w M.drew g3 gf gg s1 A1 n1 c1 B1 m1 d1 a s2 A2 n2 c2 B2 m2 d2 b := h.below (Below.refl _ _).drew
theorem N2.grown (h : N2 w M g3 gf gg s1 A1 n1 c1 B1 m1 d1 a s2 A2 n2 c2 B2 m2 d2 b) {x y z : Value} (hx : NI x) (hy : NI y) (hz : NI z) : N2 w (((M.setCell ⟨g3, 0, none⟩ x).setCell ⟨g3, 1, none⟩ y).setCell ⟨g3, 2, none⟩ z) g3 gf gg s1 A1 n1 c1 B1 m1 d1 a s2 A2 n2 c2 B2 m2 d2 b := by
  have hg := grown_set3 M g3 x y z
  obtain ⟨x', y', z', hx', hy', hz', h4⟩ := h.res
  exact ⟨h.res.set3 hx hy hz, (hg.block gf h.f.lt (fun e => h.n1 (Option.some.inj e))).trans h.f, (hg.block gg h.g.lt (fun e => h.n2 (Option.some.inj e))).trans h.g, h.fa.grown h4 hx' hy' hz' hg, h.fb.grown h4 hx' hy' hz' hg, h.tab.grown hg h.n4, below_set3 h.bel h.n3 _ _ _, h.n3, h.n1, h.n2, h.n4⟩
theorem N2.cells (h : N2 w M g3 gf gg s1 A1 n1 c1 B1 m1 d1 a s2 A2 n2 c2 B2 m2 d2 b) : (World.cell? M ⟨gf, 0, none⟩ = some (.bool s1) ∧ World.cell? M ⟨gf, 1, none⟩ = some (.slice A1 n1 c1) ∧ World.cell? M ⟨gf, 2, none⟩ = some (.slice B1 m1 d1) ∧ World.cell? M ⟨gg, 0, none⟩ = some (.bool s2) ∧ World.cell? M ⟨gg, 1, none⟩ = some (.slice A2 n2 c2) ∧ World.cell? M ⟨gg, 2, none⟩ = some (.slice B2 m2 d2) ∧ Hid (N2 w M g3 gf gg s1 A1 n1 c1 B1 m1 d1 a s2 A2 n2 c2 B2 m2 d2 b)) := by
  obtain ⟨a1, a2, a3, _, _, _⟩ := h.f.cells
  obtain ⟨b1, b2, b3, _, _, _⟩ := h.g.cells
  exact ⟨a1, a2, a3, b1, b2, b3, h⟩
theorem N2.of (h : (World.cell? M ⟨gf, 0, none⟩ = some (.bool s1) ∧ World.cell? M ⟨gf, 1, none⟩ = some (.slice A1 n1 c1) ∧ World.cell? M ⟨gf, 2, none⟩ = some (.slice B1 m1 d1) ∧ World.cell? M ⟨gg, 0, none⟩ = some (.bool s2) ∧ World.cell? M ⟨gg, 1, none⟩ = some (.slice A2 n2 c2) ∧ World.cell? M ⟨gg, 2, none⟩ = some (.slice B2 m2 d2) ∧ Hid (N2 w M g3 gf gg s1 A1 n1 c1 B1 m1 d1 a s2 A2 n2 c2 B2 m2 d2 b))) : N2 w M g3 gf gg s1 A1 n1 c1 B1 m1 d1 a s2 A2 n2 c2 B2 m2 d2 b := h.2.2.2.2.2.2.out
theorem N2.next (h : (World.cell? M ⟨gf, 0, none⟩ = some (.bool s1) ∧ World.cell? M ⟨gf, 1, none⟩ = some (.slice A1 n1 c1) ∧ World.cell? M ⟨gf, 2, none⟩ = some (.slice B1 m1 d1) ∧ World.cell? M ⟨gg, 0, none⟩ = some (.bool s2) ∧ World.cell? M ⟨gg, 1, none⟩ = some (.slice A2 n2 c2) ∧ World.cell? M ⟨gg, 2, none⟩ = some (.slice B2 m2 d2) ∧ Hid (N2 w M g3 gf gg s1 A1 n1 c1 B1 m1 d1 a s2 A2 n2 c2 B2 m2 d2 b))) (hb : Below M.heap.size M M') : (World.cell? M' ⟨gf, 0, none⟩ = some (.bool s1) ∧ World.cell? M' ⟨gf, 1, none⟩ = some (.slice A1 n1 c1) ∧ World.cell? M' ⟨gf, 2, none⟩ = some (.slice B1 m1 d1) ∧ World.cell? M' ⟨gg, 0, none⟩ = some (.bool s2) ∧ World.cell? M' ⟨gg, 1, none⟩ = some (.slice A2 n2 c2) ∧ World.cell? M' ⟨gg, 2, none⟩ = some (.slice B2 m2 d2) ∧ Hid (N2 w M' g3 gf gg s1 A1 n1 c1 B1 m1 d1 a s2 A2 n2 c2 B2 m2 d2 b)) := ((N2.of h).below hb).cells
theorem N2.nextS (h : (World.cell? M ⟨gf, 0, none⟩ = some (.bool s1) ∧ World.cell? M ⟨gf, 1, none⟩ = some (.slice A1 n1 c1) ∧ World.cell? M ⟨gf, 2, none⟩ = some (.slice B1 m1 d1) ∧ World.cell? M ⟨gg, 0, none⟩ = some (.bool s2) ∧ World.cell? M ⟨gg, 1, none⟩ = some (.slice A2 n2 c2) ∧ World.cell? M ⟨gg, 2, none⟩ = some (.slice B2 m2 d2) ∧ Hid (N2 w M g3 gf gg s1 A1 n1 c1 B1 m1 d1 a s2 A2 n2 c2 B2 m2 d2 b))) {x : Bool} {B C : Option Addr} {k k' c c' : Nat} : (World.cell? (((M.setCell ⟨g3, 0, none⟩ (.bool x)).setCell ⟨g3, 1, none⟩ (.slice B k k')).setCell ⟨g3, 2, none⟩ (.slice C c c')) ⟨gf, 0, none⟩ = some (.bool s1) ∧ World.cell? (((M.setCell ⟨g3, 0, none⟩ (.bool x)).setCell ⟨g3, 1, none⟩ (.slice B k k')).setCell ⟨g3, 2, none⟩ (.slice C c c')) ⟨gf, 1, none⟩ = some (.slice A1 n1 c1) ∧ World.cell? (((M.setCell ⟨g3, 0, none⟩ (.bool x)).setCell ⟨g3, 1, none⟩ (.slice B k k')).setCell ⟨g3, 2, none⟩ (.slice C c c')) ⟨gf, 2, none⟩ = some (.slice B1 m1 d1) ∧ World.cell? (((M.setCell ⟨g3, 0, none⟩ (.bool x)).setCell ⟨g3, 1, none⟩ (.slice B k k')).setCell ⟨g3, 2, none⟩ (.slice C c c')) ⟨gg, 0, none⟩ = some (.bool s2) ∧ World.cell? (((M.setCell ⟨g3, 0, none⟩ (.bool x)).setCell ⟨g3, 1, none⟩ (.slice B k k')).setCell ⟨g3, 2, none⟩ (.slice C c c')) ⟨gg, 1, none⟩ = some (.slice A2 n2 c2) ∧ World.cell? (((M.setCell ⟨g3, 0, none⟩ (.bool x)).setCell ⟨g3, 1, none⟩ (.slice B k k')).setCell ⟨g3, 2, none⟩ (.slice C c c')) ⟨gg, 2, none⟩ = some (.slice B2 m2 d2) ∧ Hid (N2 w (((M.setCell ⟨g3, 0, none⟩ (.bool x)).setCell ⟨g3, 1, none⟩ (.slice B k k')).setCell ⟨g3, 2, none⟩ (.slice C c c')) g3 gf gg s1 A1 n1 c1 B1 m1 d1 a s2 A2 n2 c2 B2 m2 d2 b)) :=
  ((N2.of h).grown (NI.bool _) (NI.slice _ _ _) (NI.slice _ _ _)).cells
end
/-- how two rational numbers compare -/
def cmpQ (a b : Rat) : Int := sgnI (ng (a - b)) (a - b).num.natAbs
theorem sgnI_mk (n : Int) (d : Nat) (hd : d ≠ 0) : sgnI (ng (mkRat n d)) (mkRat n d).num.natAbs = cmpZ n 0 := by
  obtain ⟨s, k, rfl, hs⟩ : ∃ s k, n = sg s k ∧ (s = true → k ≠ 0) := ⟨decide (n < 0), n.natAbs, by unfold sg; by_cases h : n < 0 <;> simp [h] <;> omega, by intro h; simp at h; omega⟩
  by_cases hk : k = 0
  · subst hk
    rw [mk_zero, sg_zero]
    decide
  · rw [mk_sign s hd hk, mk_abs s k hd]
    have := div_gcd_pos (d := d) hk
    unfold sgnI cmpZ sg
    rw [if_neg (by omega)]
    cases s
    · have h1 : ¬ ((k : Int) < 0) := by omega
      have h2 : ¬ ((k : Int) = 0) := by omega
      simp [h1, hk]
    · rw [if_pos rfl, if_pos]
      simp
      omega
theorem cmpZ_Q (a b : Rat) : cmpZ (sg (ng a) a.num.natAbs * b.den) (sg (ng b) b.num.natAbs * a.den) = cmpQ a b := by
  unfold cmpQ
  have e : a - b = mkRat (a.num * b.den - b.num * a.den) (a.den * b.den) := by
    rw [Rat.sub_eq_add_neg, Rat.add_def', Rat.neg_num, Rat.neg_den]
    congr 1
    grind
  rw [e, sgnI_mk _ _ (Nat.mul_ne_zero a.den_nz b.den_nz), sg_ng, sg_ng]
  unfold cmpZ
  split <;> split <;> (try split) <;> (try split) <;> omega
theorem inv_facts {b : Rat} (h : b ≠ 0) : ng b⁻¹ = ng b ∧ b⁻¹.num.natAbs = b.den ∧ b⁻¹.den = b.num.natAbs := by
  have hn : b.num.natAbs ≠ 0 := by
    have : b.num ≠ 0 := fun h0 => h (Rat.num_eq_zero.1 h0)
    omega
  have e := rat_div 1 b h
  rw [Rat.div_def, Rat.one_mul] at e
  have e1 : mkRat (sg (ng b) b.den) b.num.natAbs = b⁻¹ := by
    rw [← e]
    have h1 : ng (1 : Rat) = false := by decide
    have h2 : (1 : Rat).num.natAbs = 1 := by decide
    have h3 : (1 : Rat).den = 1 := by decide
    rw [h1, h2, h3, Nat.one_mul, Nat.one_mul]
    cases ng b <;> rfl
  have hc : Nat.gcd b.den b.num.natAbs = 1 := by rw [Nat.gcd_comm]; exact b.reduced
  rw [← e1, mk_sign _ hn b.den_nz, mk_abs _ _ hn, mk_den _ _ hn, hc, Nat.div_one, Nat.div_one]
  exact ⟨rfl, rfl, rfl⟩
theorem fCmp (a b : Rat) (w : World) (v1 v2 : Value) (h1 : IsF w v1 a) (h2 : IsF w v2 b) (k1 : Wq 400000 a) (k2 : Wq 400000 b) :
    Calls Tryd.prog 97 #[v1, v2] w fun e w' => e = .returned (.int .i64 (cmpQ a b)) ∧ Below w.heap.size w w' := by
  obtain ⟨A1, c1, A2, c2, rfl, r1, r2⟩ := h1
  obtain ⟨A3, c3, A4, c4, rfl, r3, r4⟩ := h2
  have := fracCmp (ng a) a.num.natAbs a.den (ng b) b.num.natAbs b.den w _ _ _ _ _ _ _ _ r1 r2 r3 r4 k1.1 k1.2 k2.1 k2.2 a.den_nz b.den_nz
  rwa [cmpZ_Q] at this
theorem fInv (b : Rat) (w : World) (v : Value) (h : IsF w v b) (hb : b ≠ 0) :
    Calls Tryd.prog 88 #[v] w fun e w' => ∃ u, e = .returned u ∧ IsF w' u b⁻¹ ∧ Below w.heap.size w w' := by
  obtain ⟨A1, c1, A2, c2, rfl, r1, r2⟩ := h
  obtain ⟨e1, e2, e3⟩ := inv_facts hb
  refine (fracInverse _ _ _ w _ _ _ _).mono ?_
  rintro e w' ⟨rfl, hl⟩
  exact ⟨_, rfl, by unfold IsF; rw [e1, e2, e3]; exact ⟨_, _, _, _, rfl, r2.below hl, r1.below hl⟩, hl⟩
theorem inv_Wq {b : Rat} {k : Nat} (h : b ≠ 0) (hk : Wq k b) : Wq k b⁻¹ := by
  obtain ⟨_, e2, e3⟩ := inv_facts h
  unfold Wq
  rw [e2, e3]
  exact ⟨hk.2, hk.1⟩
end Go.Proofs.YtfmhplcpejmkhaaDoor

namespace Go.Proofs.YtfmhplcpejmkhaaDoor
open Go.RowKit Dig
set_option linter.unusedVariables false
set_option linter.unusedSimpArgs false
structure X2 (w M : World) (g1 g2 : Nat) (s1 : Bool) (A1 : Option Addr) (n1 c1 : Nat) (B1 : Option Addr) (m1 d1 N1 D1 : Nat) (s2 : Bool) (A2 : Option Addr) (n2 c2 : Nat) (B2 : Option Addr) (m2 d2 N2 D2 : Nat) : Prop where
  f : Box M g1 (.bool s1) (.slice A1 n1 c1) (.slice B1 m1 d1) 24
  g : Box M g2 (.bool s2) (.slice A2 n2 c2) (.slice B2 m2 d2) 24
  r1 : RawV M (.agg #[.bool s1, .slice A1 n1 c1, .slice B1 m1 d1]) s1 N1 D1
  r2 : RawV M (.agg #[.bool s2, .slice A2 n2 c2, .slice B2 m2 d2]) s2 N2 D2
  tab : Tab M
  bel : Below w.heap.size w M
structure X1 (w M : World) (g1 : Nat) (s1 : Bool) (A1 : Option Addr) (n1 c1 : Nat) (B1 : Option Addr) (m1 d1 N1 D1 : Nat) : Prop where
  f : Box M g1 (.bool s1) (.slice A1 n1 c1) (.slice B1 m1 d1) 24
  r1 : RawV M (.agg #[.bool s1, .slice A1 n1 c1, .slice B1 m1 d1]) s1 N1 D1
  tab : Tab M
  bel : Below w.heap.size w M
section
variable {w M M' : World} {g1 g2 : Nat} {s1 : Bool} {A1 : Option Addr} {n1 c1 : Nat} {B1 : Option Addr} {m1 d1 N1 D1 : Nat} {s2 : Bool} {A2 : Option Addr} {n2 c2 : Nat} {B2 : Option Addr} {m2 d2 N2 D2 : Nat}
theorem X2.below (h : X2 w M g1 g2 s1 A1 n1 c1 B1 m1 d1 N1 D1 s2 A2 n2 c2 B2 m2 d2 N2 D2) (hb : Below M.heap.size M M') : X2 w M' g1 g2 s1 A1 n1 c1 B1 m1 d1 N1 D1 s2 A2 n2 c2 B2 m2 d2 N2 D2 :=
  ⟨h.f.below hb, h.g.below hb, h.r1.below hb, h.r2.below hb, h.tab.below hb, below_step h.bel h.bel.size hb⟩
theorem X2.drew (h : X2 w M g1 g2 s1 A1 n1 c1 B1 m1 d1 N1 D1 s2 A2 n2 c2 B2 m2 d2 N2 D2) : X2 w M.drew g1 g2 s1 A1 n1 c1 B1 m1 d1 N1 D1 s2 A2 n2 c2 B2 m2 d2 N2 D2 := h.below (Below.refl _ _).drew
theorem X2.cells (h : X2 w M g1 g2 s1 A1 n1 c1 B1 m1 d1 N1 D1 s2 A2 n2 c2 B2 m2 d2 N2 D2) : (World.cell? M ⟨g1, 0, none⟩ = some (.bool s1) ∧ World.cell? M ⟨g1, 1, none⟩ = some (.slice A1 n1 c1) ∧ World.cell? M ⟨g1, 2, none⟩ = some (.slice B1 m1 d1) ∧ World.cell? M ⟨g2, 0, none⟩ = some (.bool s2) ∧ World.cell? M ⟨g2, 1, none⟩ = some (.slice A2 n2 c2) ∧ World.cell? M ⟨g2, 2, none⟩ = some (.slice B2 m2 d2) ∧ Hid (X2 w M g1 g2 s1 A1 n1 c1 B1 m1 d1 N1 D1 s2 A2 n2 c2 B2 m2 d2 N2 D2)) := by
  obtain ⟨a1, a2, a3, _, _, _⟩ := h.f.cells
  obtain ⟨b1, b2, b3, _, _, _⟩ := h.g.cells
  exact ⟨a1, a2, a3, b1, b2, b3, h⟩
theorem X2.of (h : (World.cell? M ⟨g1, 0, none⟩ = some (.bool s1) ∧ World.cell? M ⟨g1, 1, none⟩ = some (.slice A1 n1 c1) ∧ World.cell? M ⟨g1, 2, none⟩ = some (.slice B1 m1 d1) ∧ World.cell? M ⟨g2, 0, none⟩ = some (.bool s2) ∧ World.cell? M ⟨g2, 1, none⟩ = some (.slice A2 n2 c2) ∧ World.cell? M ⟨g2, 2, none⟩ = some (.slice B2 m2 d2) ∧ Hid (X2 w M g1 g2 s1 A1 n1 c1 B1 m1 d1 N1 D1 s2 A2 n2 c2 B2 m2 d2 N2 D2))) : X2 w M g1 g2 s1 A1 n1 c1 B1 m1 d1 N1 D1 s2 A2 n2 c2 B2 m2 d2 N2 D2 := h.2.2.2.2.2.2.out
theorem X2.next (h : (World.cell? M ⟨g1, 0, none⟩ = some (.bool s1) ∧ World.cell? M ⟨g1, 1, none⟩ = some (.slice A1 n1 c1) ∧ World.cell? M ⟨g1, 2, none⟩ = some (.slice B1 m1 d1) ∧ World.cell? M ⟨g2, 0, none⟩ = some (.bool s2) ∧ World.cell? M ⟨g2, 1, none⟩ = some (.slice A2 n2 c2) ∧ World.cell? M ⟨g2, 2, none⟩ = some (.slice B2 m2 d2) ∧ Hid (X2 w M g1 g2 s1 A1 n1 c1 B1 m1 d1 N1 D1 s2 A2 n2 c2 B2 m2 d2 N2 D2))) (hb : Below M.heap.size M M') : (World.cell? M' ⟨g1, 0, none⟩ = some (.bool s1) ∧ World.cell? M' ⟨g1, 1, none⟩ = some (.slice A1 n1 c1) ∧ World.cell? M' ⟨g1, 2, none⟩ = some (.slice B1 m1 d1) ∧ World.cell? M' ⟨g2, 0, none⟩ = some (.bool s2) ∧ World.cell? M' ⟨g2, 1, none⟩ = some (.slice A2 n2 c2) ∧ World.cell? M' ⟨g2, 2, none⟩ = some (.slice B2 m2 d2) ∧ Hid (X2 w M' g1 g2 s1 A1 n1 c1 B1 m1 d1 N1 D1 s2 A2 n2 c2 B2 m2 d2 N2 D2)) := ((X2.of h).below hb).cells
theorem X1.below (h : X1 w M g1 s1 A1 n1 c1 B1 m1 d1 N1 D1) (hb : Below M.heap.size M M') : X1 w M' g1 s1 A1 n1 c1 B1 m1 d1 N1 D1 :=
  ⟨h.f.below hb, h.r1.below hb, h.tab.below hb, below_step h.bel h.bel.size hb⟩
theorem X1.drew (h : X1 w M g1 s1 A1 n1 c1 B1 m1 d1 N1 D1) : X1 w M.drew g1 s1 A1 n1 c1 B1 m1 d1 N1 D1 := h.below (Below.refl _ _).drew
theorem X1.cells (h : X1 w M g1 s1 A1 n1 c1 B1 m1 d1 N1 D1) : (World.cell? M ⟨g1, 0, none⟩ = some (.bool s1) ∧ World.cell? M ⟨g1, 1, none⟩ = some (.slice A1 n1 c1) ∧ World.cell? M ⟨g1, 2, none⟩ = some (.slice B1 m1 d1) ∧ Hid (X1 w M g1 s1 A1 n1 c1 B1 m1 d1 N1 D1)) := by
  obtain ⟨a1, a2, a3, _, _, _⟩ := h.f.cells
  exact ⟨a1, a2, a3, h⟩
theorem X1.of (h : (World.cell? M ⟨g1, 0, none⟩ = some (.bool s1) ∧ World.cell? M ⟨g1, 1, none⟩ = some (.slice A1 n1 c1) ∧ World.cell? M ⟨g1, 2, none⟩ = some (.slice B1 m1 d1) ∧ Hid (X1 w M g1 s1 A1 n1 c1 B1 m1 d1 N1 D1))) : X1 w M g1 s1 A1 n1 c1 B1 m1 d1 N1 D1 := h.2.2.2.out
theorem X1.next (h : (World.cell? M ⟨g1, 0, none⟩ = some (.bool s1) ∧ World.cell? M ⟨g1, 1, none⟩ = some (.slice A1 n1 c1) ∧ World.cell? M ⟨g1, 2, none⟩ = some (.slice B1 m1 d1) ∧ Hid (X1 w M g1 s1 A1 n1 c1 B1 m1 d1 N1 D1))) (hb : Below M.heap.size M M') : (World.cell? M' ⟨g1, 0, none⟩ = some (.bool s1) ∧ World.cell? M' ⟨g1, 1, none⟩ = some (.slice A1 n1 c1) ∧ World.cell? M' ⟨g1, 2, none⟩ = some (.slice B1 m1 d1) ∧ Hid (X1 w M' g1 s1 A1 n1 c1 B1 m1 d1 N1 D1)) := ((X1.of h).below hb).cells
end
end Go.Proofs.YtfmhplcpejmkhaaDoor

namespace Go.Proofs.YtfmhplcpejmkhaaDoor
open Go.RowKit Dig
set_option linter.unusedVariables false
set_option linter.unusedSimpArgs false
/-- a canonical value in a variable -/
structure XG (w M : World) (g1 : Nat) (s1 : Bool) (A1 : Option Addr) (n1 c1 : Nat) (B1 : Option Addr) (m1 d1 : Nat) (q : Rat) : Prop where
  f : Box M g1 (.bool s1) (.slice A1 n1 c1) (.slice B1 m1 d1) 24
  r1 : GrQ M (.agg #[.bool s1, .slice A1 n1 c1, .slice B1 m1 d1]) q
  tab : Tab M
  bel : Below w.heap.size w M
section
variable {w M M' : World} {g1 : Nat} {s1 : Bool} {A1 : Option Addr} {n1 c1 : Nat} {B1 : Option Addr} {m1 d1 : Nat} {q : Rat}
theorem XG.below (h : XG w M g1 s1 A1 n1 c1 B1 m1 d1 q) (hb : Below M.heap.size M M') : XG w M' g1 s1 A1 n1 c1 B1 m1 d1 q :=
  ⟨h.f.below hb, h.r1.below hb, h.tab.below hb, below_step h.bel h.bel.size hb⟩
theorem XG.drew (h : XG w M g1 s1 A1 n1 c1 B1 m1 d1 q) : XG w M.drew g1 s1 A1 n1 c1 B1 m1 d1 q := h.below (Below.refl _ _).drew
theorem XG.cells (h : XG w M g1 s1 A1 n1 c1 B1 m1 d1 q) : (World.cell? M ⟨g1, 0, none⟩ = some (.bool s1) ∧ World.cell? M ⟨g1, 1, none⟩ = some (.slice A1 n1 c1) ∧ World.cell? M ⟨g1, 2, none⟩ = some (.slice B1 m1 d1) ∧ Hid (XG w M g1 s1 A1 n1 c1 B1 m1 d1 q)) := by
  obtain ⟨a1, a2, a3, _, _, _⟩ := h.f.cells
  exact ⟨a1, a2, a3, h⟩
theorem XG.of (h : (World.cell? M ⟨g1, 0, none⟩ = some (.bool s1) ∧ World.cell? M ⟨g1, 1, none⟩ = some (.slice A1 n1 c1) ∧ World.cell? M ⟨g1, 2, none⟩ = some (.slice B1 m1 d1) ∧ Hid (XG w M g1 s1 A1 n1 c1 B1 m1 d1 q))) : XG w M g1 s1 A1 n1 c1 B1 m1 d1 q := h.2.2.2.out
theorem XG.next (h : (World.cell? M ⟨g1, 0, none⟩ = some (.bool s1) ∧ World.cell? M ⟨g1, 1, none⟩ = some (.slice A1 n1 c1) ∧ World.cell? M ⟨g1, 2, none⟩ = some (.slice B1 m1 d1) ∧ Hid (XG w M g1 s1 A1 n1 c1 B1 m1 d1 q))) (hb : Below M.heap.size M M') : (World.cell? M' ⟨g1, 0, none⟩ = some (.bool s1) ∧ World.cell? M' ⟨g1, 1, none⟩ = some (.slice A1 n1 c1) ∧ World.cell? M' ⟨g1, 2, none⟩ = some (.slice B1 m1 d1) ∧ Hid (XG w M' g1 s1 A1 n1 c1 B1 m1 d1 q)) := ((XG.of h).below hb).cells
theorem XG.newer (h : XG w M g1 s1 A1 n1 c1 B1 m1 d1 q) : g1 ≠ M.heap.size ∧ w.heap.size ≤ M.heap.size ∧ M.heap.size ≠ 0 := by
  have h1 := h.f.lt
  exact ⟨by omega, h.bel.size, by omega⟩
theorem GrQ.grown {v : Value} {x y z : Value} {t : TypeId} {g5 : Nat} (h : GrQ M v q) (hb : Box M g5 x y z t) (hx : NI x) (hy : NI y) (hz : NI z) (hg : M.grownBy M' (some g5)) : GrQ M' v q := by
  obtain ⟨A1, c1, A2, c2, e, r1, r2⟩ := h
  exact ⟨A1, c1, A2, c2, e, r1.grown_box hb hx hy hz hg, r2.grown_box hb hx hy hz hg⟩
theorem XG.boxed {g5 : Nat} {a b c : Value} {t' : TypeId} (h : (World.cell? M ⟨g1, 0, none⟩ = some (.bool s1) ∧ World.cell? M ⟨g1, 1, none⟩ = some (.slice A1 n1 c1) ∧ World.cell? M ⟨g1, 2, none⟩ = some (.slice B1 m1 d1) ∧ Hid (XG w M g1 s1 A1 n1 c1 B1 m1 d1 q))) (h5 : Box M g5 (.bool false) (.slice none 0 0) (.slice none 0 0) t') (hn : g1 ≠ g5 ∧ w.heap.size ≤ g5 ∧ g5 ≠ 0) (ha : NI a) (hb : NI b) (hc : NI c) :
    (World.cell? (((M.setCell ⟨g5, 0, none⟩ a).setCell ⟨g5, 1, none⟩ b).setCell ⟨g5, 2, none⟩ c) ⟨g1, 0, none⟩ = some (.bool s1) ∧ World.cell? (((M.setCell ⟨g5, 0, none⟩ a).setCell ⟨g5, 1, none⟩ b).setCell ⟨g5, 2, none⟩ c) ⟨g1, 1, none⟩ = some (.slice A1 n1 c1) ∧ World.cell? (((M.setCell ⟨g5, 0, none⟩ a).setCell ⟨g5, 1, none⟩ b).setCell ⟨g5, 2, none⟩ c) ⟨g1, 2, none⟩ = some (.slice B1 m1 d1) ∧ Hid (XG w (((M.setCell ⟨g5, 0, none⟩ a).setCell ⟨g5, 1, none⟩ b).setCell ⟨g5, 2, none⟩ c) g1 s1 A1 n1 c1 B1 m1 d1 q)) := by
  have hg := grown_set3 M g5 a b c
  have h := XG.of h
  exact XG.cells ⟨(hg.block g1 h.f.lt (fun e => hn.1 (Option.some.inj e))).trans h.f, h.r1.grown h5 (NI.bool _) (NI.slice _ _ _) (NI.slice _ _ _) hg, h.tab.grown hg hn.2.2, below_set3 h.bel hn.2.1 _ _ _⟩
/-- a result that is stored in a new variable, which was made last -/
theorem XG.last {s2 : Bool} {A2 : Option Addr} {n2 c2 : Nat} {B2 : Option Addr} {m2 d2 : Nat} {q2 : Rat} (h : XG w M g1 s1 A1 n1 c1 B1 m1 d1 q) (h2 : GrQ M (.agg #[.bool s2, .slice A2 n2 c2, .slice B2 m2 d2]) q2) :
    XG w (M.alloc (.cells #[.bool s2, .slice A2 n2 c2, .slice B2 m2 d2] 24)) M.heap.size s2 A2 n2 c2 B2 m2 d2 q2 :=
  ⟨Box.new _ _ _ _ _, h2.below (below_alloc _ _), h.tab.below (below_alloc _ _), below_step h.bel h.bel.size (below_alloc _ _)⟩
/-- .. which was made before -/
theorem XG.first {s2 : Bool} {A2 : Option Addr} {n2 c2 : Nat} {B2 : Option Addr} {m2 d2 : Nat} {q2 : Rat} {g5 : Nat} (h : XG w M g1 s1 A1 n1 c1 B1 m1 d1 q) (h2 : GrQ M (.agg #[.bool s2, .slice A2 n2 c2, .slice B2 m2 d2]) q2) (h5 : Box M g5 (.bool false) (.slice none 0 0) (.slice none 0 0) 24) (hn : g1 ≠ g5 ∧ w.heap.size ≤ g5 ∧ g5 ≠ 0) :
    XG w (((M.setCell ⟨g5, 0, none⟩ (.bool s2)).setCell ⟨g5, 1, none⟩ (.slice A2 n2 c2)).setCell ⟨g5, 2, none⟩ (.slice B2 m2 d2)) g5 s2 A2 n2 c2 B2 m2 d2 q2 := by
  have hg := grown_set3 M g5 (.bool s2) (.slice A2 n2 c2) (.slice B2 m2 d2)
  exact ⟨h5.set3 _ _ _, h2.grown h5 (NI.bool _) (NI.slice _ _ _) (NI.slice _ _ _) hg, h.tab.grown hg hn.2.2, below_set3 h.bel hn.2.1 _ _ _⟩
end
theorem ng_int (n : Int) : ng (n : Rat) = decide (n < 0) := rfl
theorem int_abs (n : Int) : ((n : Rat)).num.natAbs = n.natAbs := rfl
theorem int_den (n : Int) : ((n : Rat)).den = 1 := rfl
theorem int_fit {n : Int} (h0 : -9223372036854775808 ≤ n) (h1 : n ≤ 9223372036854775807) : fitQ (n : Rat) := by
  refine ⟨?_, ?_⟩
  · rw [int_abs]
    exact Nat.le_trans ((dig_length_le B32_two _ 2).2 (by unfold B32; omega)) (by omega : 2 ≤ 64)
  · rw [int_den]
    exact Nat.le_trans ((dig_length_le B32_two _ 2).2 (by unfold B32; omega)) (by omega : 2 ≤ 64)
set_option maxHeartbeats 2000000 in
set_option maxRecDepth 100000 in
theorem nFromInt (n : Int) (h0 : -9223372036854775808 ≤ n) (h1 : n ≤ 9223372036854775807) (w : World) :
    Calls Tryd.prog 30 #[.int .i64 n] w fun e w' => ∃ s A1 n1 c1 A2 n2 c2, e = .returned (.agg #[.bool s, .slice A1 n1 c1, .slice A2 n2 c2]) ∧ Hid (GrQ w' (.agg #[.bool s, .slice A1 n1 c1, .slice A2 n2 c2]) (n : Rat)) ∧ Below w.heap.size w w' := by
  have HR := Lib.hid (Res.new (w := w) 24)
  have BM := Lib.hid (below_alloc w (.cells #[.bool false, .slice none 0 0, .slice none 0 0] 24))
  have FQ := Lib.hid (int_fit h0 h1)
  have C := Lib.hid (fun w => (fracInt n h0 h1 w).mono (R' := fun e w' => ∃ u, e = .returned u ∧ IsF w' u (n : Rat) ∧ Below w.heap.size w w') (fun e w' ⟨u, he, hu, hb⟩ => ⟨u, he, hu, hb⟩))
  generalize ((n : Int) : Rat) = q at *
  clear h0 h1
  go_enter Tryd.func30, Tryd.ntmps30
  go_upto_region 1 with (fail)
  obtain ⟨M, hM⟩ : ∃ M, w.alloc (.cells #[.bool false, .slice none 0 0, .slice none 0 0] 24) = M := ⟨_, rfl⟩
  rw [hM] at HR BM ⊢
  clear hM
  go_wp2_with fail
  refine (Calls.partsF (C.out _)).mono ?_
  rintro e wa ⟨t3, B3, m3, d3, B3', m3', d3', rfl, i3, ba⟩
  replace HR := Lib.hid (HR.out.below ba)
  replace BM := Lib.hid (below_step BM.out BM.out.size ba)
  clear ba
  go_wp2_with fail
  refine (giveF _ _ _ i3.out).mono ?_
  rintro e wb ⟨s9, A9, n9, c9, A9', n9', c9', k9, rfl, h9, b9⟩
  have e0 : give q = .ok q := by unfold give; rw [if_pos FQ.out]
  rw [e0] at h9
  have bb := below_step b9 b9.size (below_alloc wb (.cells #[.bool s9, .slice A9 n9 c9, .slice A9' n9' c9'] 24))
  have hg := h9.2.1.below (below_alloc wb (.cells #[.bool s9, .slice A9 n9 c9, .slice A9' n9' c9'] 24))
  have HZ := Lib.hid (Box.new wb (.bool s9) (.slice A9 n9 c9) (.slice A9' n9' c9') 24)
  have HG := Lib.hid hg
  replace HR := Lib.hid (HR.out.below bb)
  replace BM := Lib.hid (below_step BM.out BM.out.size bb)
  obtain ⟨w1, hw1⟩ : ∃ v, wb.alloc (.cells #[.bool s9, .slice A9 n9 c9, .slice A9' n9' c9'] 24) = v := ⟨_, rfl⟩
  clear bb b9 h9 hg e0
  go_upto_region 2 with (fail)
  rw [hw1] at HR BM HZ HG
  try rw [hw1]
  clear hw1
  obtain ⟨x1, y1, z1, _, _, _⟩ := HZ.out.cells
  obtain ⟨u1, u2, u3, hu1, hu2, hu3, k1, k2, k3⟩ := HR.out.cells
  obtain ⟨q0, q1, q2, hs, hb⟩ := OutIs.stored (o := .ok q) ⟨rfl, HG.out, FQ.out⟩ HR.out BM.out (Nat.le_refl _)
  have Q := Lib.hid (And.intro q0 (And.intro q1 q2))
  have HS := Lib.hid hs.2.1
  have HBB := Lib.hid hb
  clear q0 q1 q2 hs hb
  go_wp2_with fail
  obtain ⟨q0, q1, q2⟩ := Q.out
  refine bodyPost_ret (v := .agg #[.bool s9, .slice A9 n9 c9, .slice A9' n9' c9']) (by simp [results, Tryd.results30, go_sem, q0, q1, q2]) rfl ?_
  exact ⟨_, _, _, _, _, _, _, rfl, HS, HBB.out⟩
end Go.Proofs.YtfmhplcpejmkhaaDoor

namespace Go.Proofs.YtfmhplcpejmkhaaDoor
open Go.RowKit Dig
set_option linter.unusedVariables false
set_option linter.unusedSimpArgs false
theorem W_single {n : Nat} (h0 : n ≠ 0) (h : n < 4294967296) : W n = [(n : Int)] := by
  unfold W
  rw [dig_pos B32_two h0]
  have h1 : n < B32 := by unfold B32; exact h
  rw [Nat.div_eq_of_lt h1, dig_zero, Nat.mod_eq_of_lt h1]
theorem half_third : ratOf false 1 2 + ratOf false 1 3 = mkRat 5 6 := by
  show mkRat 1 2 + mkRat 1 3 = mkRat 5 6
  rw [Rat.mkRat_add_mkRat _ _ (by omega) (by omega)]
  rfl
theorem five_sixths : ng (mkRat 5 6) = false ∧ (mkRat 5 6).num.natAbs = 5 ∧ (mkRat 5 6).den = 6 := by
  have h1 : (mkRat 5 6).num = 5 := by rw [Rat.num_mkRat, if_neg (by omega)]; rfl
  have h2 : (mkRat 5 6).den = 6 := by rw [Rat.den_mkRat, if_neg (by omega)]; rfl
  refine ⟨?_, ?_, h2⟩
  · unfold ng; rw [h1]; rfl
  · rw [h1]; rfl
theorem fit_half (d : Nat) (h0 : d ≠ 0) (h : d < 4294967296) : fitQ (ratOf false 1 d) := by
  have e : ratOf false 1 d = mkRat 1 d := by unfold ratOf sg; rw [if_neg h0]; rfl
  rw [e]
  have h1 : (mkRat 1 d).num.natAbs ≤ 1 := by
    rw [Rat.num_mkRat, if_neg h0]; simp
  have h2 : (mkRat 1 d).den ≤ d := by
    rw [Rat.den_mkRat, if_neg h0]; exact Nat.div_le_self _ _
  exact ⟨Nat.le_trans (W_le_one (by omega)) (by omega), Nat.le_trans (W_le_one (by omega)) (by omega)⟩
theorem small_large (d : Nat) (h0 : d ≠ 0) (h : d < 4294967296) : largeB false 1 d = false := by
  unfold largeB
  rw [decide_eq_true ⟨Nat.le_trans (W_le_one (by omega)) (by omega), Nat.le_trans (W_le_one (by omega)) (by omega), fit_half d h0 h⟩]
  rfl
theorem rd_one (w : World) (g : Nat) (x : Int) (h : w.cell? ⟨g, 0, none⟩ = some (.int .u32 x)) : Rd w (some ⟨g, 0, none⟩) 1 [x] :=
  ⟨by simp, by omega, fun j hj => by
    have : j = 0 := by simpa using hj
    subst this
    exact ⟨_, rfl, by simpa [Addr.add, rd] using h⟩⟩
theorem raw_one {w : World} {g g' : Nat} {d : Nat} (h1 : w.cell? ⟨g, 0, none⟩ = some (.int .u32 1)) (h2 : w.cell? ⟨g', 0, none⟩ = some (.int .u32 d)) (h : d < 4294967296) :
    RawV w (.agg #[.bool false, .slice (some ⟨g, 0, none⟩) 1 1, .slice (some ⟨g', 0, none⟩) 1 1]) false 1 d := by
  refine ⟨_, _, [1], _, _, [(d : Int)], rfl, rd_one _ _ _ h1, rd_one _ _ _ h2, ?_, ?_, by simp [val], by simp [val], by simp, by simp⟩
  · exact Ok.cons (by omega) (by rw [B32_cast]; omega) (Ok.nil _)
  · exact Ok.cons (by omega) (by rw [B32_cast]; omega) (Ok.nil _)
theorem four_new (w : World) (a b c d : Value) (t : TypeId) : ∃ M, M = ((((w.alloc (.cells #[a] t)).alloc (.cells #[b] t)).alloc (.cells #[c] t)).alloc (.cells #[d] t)) ∧
    M.cell? ⟨w.heap.size, 0, none⟩ = some a ∧ M.cell? ⟨w.heap.size + 1, 0, none⟩ = some b ∧ M.cell? ⟨w.heap.size + 1 + 1, 0, none⟩ = some c ∧ M.cell? ⟨w.heap.size + 1 + 1 + 1, 0, none⟩ = some d ∧ Below w.heap.size w M := by
  refine ⟨_, rfl, ?_⟩
  have key : ∀ (w : World) (x : Value), (w.alloc (.cells #[x] t)).cell? ⟨w.heap.size, 0, none⟩ = some x ∧ Below w.heap.size w (w.alloc (.cells #[x] t)) ∧ (w.alloc (.cells #[x] t)).heap.size = w.heap.size + 1 := by
    intro w x
    refine ⟨?_, below_alloc _ _, by simp⟩
    exact (cell_of_row _ _ 0 _ _ (0, 0) (heap_alloc_new w (.cells #[x] t))).trans rfl
  obtain ⟨a1, b1, s1⟩ := key w a
  generalize w.alloc (.cells #[a] t) = w1 at *
  obtain ⟨a2, b2, s2⟩ := key w1 b
  generalize w1.alloc (.cells #[b] t) = w2 at *
  obtain ⟨a3, b3, s3⟩ := key w2 c
  generalize w2.alloc (.cells #[c] t) = w3 at *
  obtain ⟨a4, b4, s4⟩ := key w3 d
  generalize w3.alloc (.cells #[d] t) = w4 at *
  rw [s1] at a2 s2
  rw [s2] at a3 s3
  rw [s3] at a4
  exact ⟨cell_later b4 (cell_later b3 (cell_later b2 a1)), cell_later b4 (cell_later b3 a2), cell_later b4 a3, a4, below_step b1 b1.size (below_step b2 b2.size (below_step b3 b3.size b4))⟩
set_option maxHeartbeats 1000000 in
set_option maxRecDepth 100000 in
theorem lAwake (w : World) (hT : Tab w) : Calls Tryd.prog 18 #[] w fun e w' => e = .returned (.bool true) ∧ Below w.heap.size w w' := by
  obtain ⟨M, hM, k1, k2, k3, k4, bM⟩ := four_new w (.int .u32 1) (.int .u32 2) (.int .u32 1) (.int .u32 3) 68
  have C := Lib.hid (nAdd false 1 2 false 1 3 M _ _ (raw_one k1 k2 (by omega)) (raw_one k3 k4 (by omega)) (hT.below bM))
  rw [small_large 2 (by omega) (by omega), small_large 3 (by omega) (by omega), half_third] at C
  have BM := Lib.hid bM
  clear k1 k2 k3 k4 bM hT
  go_enter Tryd.func18, Tryd.ntmps18
  go_wp2_with fail
  rw [← hM]
  clear hM
  refine C.out.mono ?_
  rintro e wa ⟨s9, A9, n9, c9, A9', n9', c9', k9, rfl, h9, b9⟩
  have BA := Lib.hid (below_step BM.out BM.out.size b9)
  have hf : fitQ (mkRat 5 6) := by
    obtain ⟨_, h2, h3⟩ := five_sixths
    unfold fitQ
    rw [h2, h3]
    exact ⟨Nat.le_trans (W_le_one (by omega)) (by omega), Nat.le_trans (W_le_one (by omega)) (by omega)⟩
  have hg : (if (false || false) = true then Out.err 1 else give (mkRat 5 6)) = .ok (mkRat 5 6) := by
    show give (mkRat 5 6) = _
    unfold give
    rw [if_pos hf]
  rw [hg] at h9
  obtain ⟨rfl, ⟨B1, b1, B2, b2, e, r1, r2⟩, _⟩ := h9
  obtain ⟨h1, h2, h3⟩ := five_sixths
  rw [h1, h2, h3] at e
  rw [h2, W_single (by omega) (by omega)] at r1
  rw [h3, DW, if_neg (by omega), W_single (by omega) (by omega)] at r2
  rw [W_single (by omega) (by omega), DW, if_neg (by omega), W_single (by omega) (by omega)] at e
  obtain ⟨p1, rfl⟩ := r1.some_ (by simp)
  obtain ⟨p2, rfl⟩ := r2.some_ (by simp)
  simp only [Value.agg.injEq, Array.mk.injEq, List.cons.injEq, Value.bool.injEq, Value.slice.injEq, and_true, List.length_cons, List.length_nil] at e
  obtain ⟨rfl, ⟨rfl, rfl, rfl⟩, rfl, rfl, rfl⟩ := e
  have q1 := r1.cell 0 (by simp)
  have q2 := r2.cell 0 (by simp)
  have e1 := r1.le
  have e2 := r2.le
  have e3 := r1.max
  have e4 := r2.max
  replace q1 : wa.cell? p1 = some (.int .u32 5) := by simpa [Addr.add, rd] using q1
  replace q2 : wa.cell? p2 = some (.int .u32 6) := by simpa [Addr.add, rd] using q2
  simp only [List.length_cons, List.length_nil] at e1 e2
  have ba := below_alloc wa (.cells #[.bool false, .slice (some p1) 1 c9, .slice (some p2) 1 c9'] 24)
  have q3 := cell_later ba q1
  have q4 := cell_later ba q2
  have BB := Lib.hid (below_step BA.out BA.out.size ba)
  clear r1 r2 ba C
  go_wp2
  go_ret
  exact ⟨rfl, BB.out⟩
end Go.Proofs.YtfmhplcpejmkhaaDoor

namespace Go.Proofs.YtfmhplcpejmkhaaDoor
open Go.RowKit Dig
set_option linter.unusedVariables false
set_option linter.unusedSimpArgs false
/-- a value and a result in variables -/
structure XO (w M : World) (g1 : Nat) (s1 : Bool) (A1 : Option Addr) (n1 c1 : Nat) (B1 : Option Addr) (m1 d1 N1 D1 : Nat) (g2 : Nat) (s2 : Bool) (A2 : Option Addr) (n2 c2 : Nat) (B2 : Option Addr) (m2 d2 : Nat) (k : Int) (o : Out) : Prop where
  f : Box M g1 (.bool s1) (.slice A1 n1 c1) (.slice B1 m1 d1) 24
  g : Box M g2 (.bool s2) (.slice A2 n2 c2) (.slice B2 m2 d2) 24
  r1 : RawV M (.agg #[.bool s1, .slice A1 n1 c1, .slice B1 m1 d1]) s1 N1 D1
  r2 : OutIs M o (.agg #[.bool s2, .slice A2 n2 c2, .slice B2 m2 d2]) k
  tab : Tab M
  bel : Below w.heap.size w M
section
variable {w M M' : World} {g1 g2 : Nat} {s1 : Bool} {A1 : Option Addr} {n1 c1 : Nat} {B1 : Option Addr} {m1 d1 N1 D1 : Nat} {s2 : Bool} {A2 : Option Addr} {n2 c2 : Nat} {B2 : Option Addr} {m2 d2 : Nat} {k : Int} {o : Out}
theorem XO.below (h : XO w M g1 s1 A1 n1 c1 B1 m1 d1 N1 D1 g2 s2 A2 n2 c2 B2 m2 d2 k o) (hb : Below M.heap.size M M') : XO w M' g1 s1 A1 n1 c1 B1 m1 d1 N1 D1 g2 s2 A2 n2 c2 B2 m2 d2 k o :=
  ⟨h.f.below hb, h.g.below hb, h.r1.below hb, h.r2.below hb, h.tab.below hb, below_step h.bel h.bel.size hb⟩
theorem XO.drew (h : XO w M g1 s1 A1 n1 c1 B1 m1 d1 N1 D1 g2 s2 A2 n2 c2 B2 m2 d2 k o) : XO w M.drew g1 s1 A1 n1 c1 B1 m1 d1 N1 D1 g2 s2 A2 n2 c2 B2 m2 d2 k o := h.below (Below.refl _ _).drew
theorem XO.cells (h : XO w M g1 s1 A1 n1 c1 B1 m1 d1 N1 D1 g2 s2 A2 n2 c2 B2 m2 d2 k o) : (World.cell? M ⟨g1, 0, none⟩ = some (.bool s1) ∧ World.cell? M ⟨g1, 1, none⟩ = some (.slice A1 n1 c1) ∧ World.cell? M ⟨g1, 2, none⟩ = some (.slice B1 m1 d1) ∧ World.cell? M ⟨g2, 0, none⟩ = some (.bool s2) ∧ World.cell? M ⟨g2, 1, none⟩ = some (.slice A2 n2 c2) ∧ World.cell? M ⟨g2, 2, none⟩ = some (.slice B2 m2 d2) ∧ Hid (XO w M g1 s1 A1 n1 c1 B1 m1 d1 N1 D1 g2 s2 A2 n2 c2 B2 m2 d2 k o)) := by
  obtain ⟨a1, a2, a3, _, _, _⟩ := h.f.cells
  obtain ⟨b1, b2, b3, _, _, _⟩ := h.g.cells
  exact ⟨a1, a2, a3, b1, b2, b3, h⟩
theorem XO.of (h : (World.cell? M ⟨g1, 0, none⟩ = some (.bool s1) ∧ World.cell? M ⟨g1, 1, none⟩ = some (.slice A1 n1 c1) ∧ World.cell? M ⟨g1, 2, none⟩ = some (.slice B1 m1 d1) ∧ World.cell? M ⟨g2, 0, none⟩ = some (.bool s2) ∧ World.cell? M ⟨g2, 1, none⟩ = some (.slice A2 n2 c2) ∧ World.cell? M ⟨g2, 2, none⟩ = some (.slice B2 m2 d2) ∧ Hid (XO w M g1 s1 A1 n1 c1 B1 m1 d1 N1 D1 g2 s2 A2 n2 c2 B2 m2 d2 k o))) : XO w M g1 s1 A1 n1 c1 B1 m1 d1 N1 D1 g2 s2 A2 n2 c2 B2 m2 d2 k o := h.2.2.2.2.2.2.out
theorem XO.next (h : (World.cell? M ⟨g1, 0, none⟩ = some (.bool s1) ∧ World.cell? M ⟨g1, 1, none⟩ = some (.slice A1 n1 c1) ∧ World.cell? M ⟨g1, 2, none⟩ = some (.slice B1 m1 d1) ∧ World.cell? M ⟨g2, 0, none⟩ = some (.bool s2) ∧ World.cell? M ⟨g2, 1, none⟩ = some (.slice A2 n2 c2) ∧ World.cell? M ⟨g2, 2, none⟩ = some (.slice B2 m2 d2) ∧ Hid (XO w M g1 s1 A1 n1 c1 B1 m1 d1 N1 D1 g2 s2 A2 n2 c2 B2 m2 d2 k o))) (hb : Below M.heap.size M M') : (World.cell? M' ⟨g1, 0, none⟩ = some (.bool s1) ∧ World.cell? M' ⟨g1, 1, none⟩ = some (.slice A1 n1 c1) ∧ World.cell? M' ⟨g1, 2, none⟩ = some (.slice B1 m1 d1) ∧ World.cell? M' ⟨g2, 0, none⟩ = some (.bool s2) ∧ World.cell? M' ⟨g2, 1, none⟩ = some (.slice A2 n2 c2) ∧ World.cell? M' ⟨g2, 2, none⟩ = some (.slice B2 m2 d2) ∧ Hid (XO w M' g1 s1 A1 n1 c1 B1 m1 d1 N1 D1 g2 s2 A2 n2 c2 B2 m2 d2 k o)) := ((XO.of h).below hb).cells
end
theorem qRat (q : Rat) (w : World) (v : Value) (h : IsQ w v q) (k : Rq 2000000 q) :
    Calls Tryd.prog 29 #[v] w fun e w' => ∃ t B1 m1 e1 B2 m2 e2, e = .returned (.agg #[.bool t, .slice B1 m1 e1, .slice B2 m2 e2]) ∧ Hid (GrQ w' (.agg #[.bool t, .slice B1 m1 e1, .slice B2 m2 e2]) q) ∧ Below w.heap.size w w' := by
  obtain ⟨A1, c1, A2, c2, rfl, r1, r2⟩ := h
  refine (rRat _ _ _ w _ _ _ _ r1 r2 (fun h => ng_nz h) q.den_nz k.1 k.2).mono ?_
  rintro e w' ⟨u, rfl, hu, hb⟩
  have h2 := hu
  obtain ⟨A1, c1, A2, c2, rfl, r1, r2⟩ := hu
  exact ⟨_, _, _, _, _, _, _, rfl, h2, hb⟩
set_option maxHeartbeats 4000000 in
set_option maxRecDepth 100000 in
theorem wNumberCanons (s1 : Bool) (N1 D1 : Nat) (w : World) (v1 : Value) (h1 : RawV w v1 s1 N1 D1) (hT : Tab w) :
    Calls Tryd.prog 6 #[v1] w fun e w' => e = .returned (.bool true) ∧ Below w.heap.size w w' := by
  have H1 := Lib.hid h1
  have HT := Lib.hid hT
  obtain ⟨A1, n1, c1, A1', n1', c1', rfl⟩ := h1.shape
  clear hT h1
  obtain ⟨M, hM, k1, bM⟩ : ∃ M, M = w.alloc (.cells #[.bool s1, .slice A1 n1 c1, .slice A1' n1' c1'] 24) ∧ Box M w.heap.size (.bool s1) (.slice A1 n1 c1) (.slice A1' n1' c1') 24 ∧ Below w.heap.size w M := ⟨_, rfl, Box.new _ _ _ _ _, below_alloc _ _⟩
  have HX1 := Lib.hid k1
  have BM := Lib.hid bM
  replace HT := Lib.hid (HT.out.below bM)
  replace H1 := Lib.hid (H1.out.below bM)
  obtain ⟨q, hq⟩ : ∃ q, ratOf s1 N1 D1 = q := ⟨_, rfl⟩
  obtain ⟨L1, hL1⟩ : ∃ L, largeB s1 N1 D1 = L := ⟨_, rfl⟩
  obtain ⟨o, ho⟩ : ∃ o, (if L1 = true then Out.err 1 else give q) = o := ⟨_, rfl⟩
  have C := Lib.hid (fun (w : World) (h1 : RawV w (.agg #[.bool s1, .slice A1 n1 c1, .slice A1' n1' c1']) s1 N1 D1) (t : Tab w) => nCanon s1 N1 D1 w _ h1 t)
  rw [hL1, hq, ho] at C
  have HQ := Lib.hid hq
  have HL1 := Lib.hid hL1
  have HO := Lib.hid ho
  clear bM k1 hq hL1 ho
  go_enter Tryd.func6, Tryd.ntmps6
  go_upto_region 1 with (fail)
  rw [← hM]
  clear hM
  obtain ⟨x1, y1, z1, _, _, _⟩ := HX1.out.cells
  go_wp2_with fail
  refine (C.out _ H1.out HT.out).mono ?_
  rintro e w1 ⟨p1, P1, m1, d1, P1', m1', d1', k1, rfl, h1, b1⟩
  have bb := below_step b1 b1.size (below_alloc w1 (.cells #[.bool p1, .slice P1 m1 d1, .slice P1' m1' d1'] 24))
  have HO1 := Lib.hid (h1.below (below_alloc w1 (.cells #[.bool p1, .slice P1 m1 d1, .slice P1' m1' d1'] 24)))
  have HZ1 := Lib.hid (Box.new w1 (.bool p1) (.slice P1 m1 d1) (.slice P1' m1' d1') 24)
  replace HT := Lib.hid (HT.out.below bb)
  replace H1 := Lib.hid (H1.out.below bb)
  replace HX1 := Lib.hid (HX1.out.below bb)
  have BM := Lib.hid (below_step BM.out BM.out.size bb)
  obtain ⟨v1, hv⟩ : ∃ v, w1.alloc (.cells #[.bool p1, .slice P1 m1 d1, .slice P1' m1' d1'] 24) = v := ⟨_, rfl⟩
  obtain ⟨gz, hgz⟩ : ∃ g, w1.heap.size = g := ⟨_, rfl⟩
  clear bb b1 h1 x1 y1 z1
  go_upto_region 2 with (fail)
  rw [hv] at BM HT H1 HX1 HO1 HZ1
  try rw [hv]
  rw [hgz] at HZ1
  try rw [hgz]
  clear hv hgz
  have TX := Lib.hid (XO.mk HX1.out HZ1.out H1.out HO1.out HT.out BM.out)
  clear HX1 HZ1 H1 HO1 HT BM
  obtain ⟨x1, y1, z1, x2, y2, z2, _⟩ := TX.out.cells
  go_wp2_with fail
  refine (largeV _ s1 N1 D1 _ TX.out.r1).mono ?_
  rw [HL1.out]
  rintro e w2 ⟨rfl, b2⟩
  replace TX := Lib.hid (TX.out.below b2)
  clear b2 x1 y1 z1 x2 y2 z2
  obtain ⟨x1, y1, z1, x2, y2, z2, _⟩ := TX.out.cells
  rcases L1 with _ | _
  · obtain rfl : give q = o := by have := HO.out; simpa using this
    have fq := (largeB_false HL1.out).2.2
    rw [HQ.out] at fq
    have FQ := Lib.hid fq
    have e0 : give q = .ok q := by unfold give; rw [if_pos fq]
    rw [e0] at TX
    clear e0 fq
    obtain rfl : k1 = 0 := TX.out.r2.1
    go_wp2_with fail
    go_region_held3 (fun W' => (World.cell? W' ⟨(w.heap.size), 0, none⟩ = some (.bool s1) ∧ World.cell? W' ⟨(w.heap.size), 1, none⟩ = some (.slice A1 n1 c1) ∧ World.cell? W' ⟨(w.heap.size), 2, none⟩ = some (.slice A1' n1' c1') ∧ World.cell? W' ⟨gz, 0, none⟩ = some (.bool p1) ∧ World.cell? W' ⟨gz, 1, none⟩ = some (.slice P1 m1 d1) ∧ World.cell? W' ⟨gz, 2, none⟩ = some (.slice P1' m1' d1') ∧ Hid (XO w W' (w.heap.size) s1 A1 n1 c1 A1' n1' c1' N1 D1 gz p1 P1 m1 d1 P1' m1' d1' 0 (Out.ok q))))
      (with_reducible (first | assumption | exact TX.out.drew.cells | exact XO.next (by assumption) (by assumption)))
      (first
       | (go_at_call 26
          refine (ofQ _ _ _ _ _ _ (XO.of (by assumption)).r1 HL1.out HQ.out).mono ?_
          rintro e wb ⟨t2, B2, m2, e2, B2', m2', e2', rfl, i2, bb⟩)
       | (go_at_call 29
          refine (qRat q _ _ i2.out (fit_Rq FQ.out (by omega))).mono ?_
          rintro e wc ⟨t3, B3, m3, e3, B3', m3', e3', rfl, i3, bc⟩)
       | (go_at_call 17
          refine (lIs_out (Out.ok q) _ _ _ _ _ _ _ _ _ _ _ _ _ _ _ _ _ (XO.of (by assumption)).r2 ⟨rfl, i3.out, FQ.out⟩).mono ?_
          rintro e wd ⟨rfl, bd⟩)
       | (go_at_call 18
          refine (lAwake _ (XO.of (by assumption)).tab).mono ?_
          rintro e w9 ⟨rfl, b9⟩
          have hh := (XO.of (by assumption)).below b9))
    go_wp2
    go_ret
    exact ⟨rfl, hh.bel⟩
  · obtain rfl : Out.err 1 = o := by have := HO.out; simpa using this
    obtain ⟨rfl, e1, _, _⟩ := TX.out.r2
    unfold noRat at e1
    simp only [Value.agg.injEq, Array.mk.injEq, List.cons.injEq, Value.bool.injEq, Value.slice.injEq, and_true] at e1
    obtain ⟨rfl, ⟨rfl, rfl, rfl⟩, rfl, rfl, rfl⟩ := e1
    go_wp2_with fail
    refine (lNone _).mono ?_
    rintro e w3 ⟨rfl, b3⟩
    replace TX := Lib.hid (TX.out.below b3)
    clear b3
    go_wp2_with fail
    refine (lAwake _ TX.out.tab).mono ?_
    rintro e w9 ⟨rfl, b9⟩
    replace TX := Lib.hid (TX.out.below b9)
    clear b9
    go_wp2
    go_ret
    exact ⟨rfl, TX.out.bel⟩
end Go.Proofs.YtfmhplcpejmkhaaDoor

namespace Go.Proofs.YtfmhplcpejmkhaaDoor
open Go.RowKit Dig
set_option linter.unusedVariables false
set_option linter.unusedSimpArgs false
theorem qCanonical (q : Rat) (w : World) (v : Value) (h : GrQ w v q) (hf : fitQ q) : Calls Tryd.prog 31 #[v] w fun e w' => e = .returned (.bool true) ∧ Below w.heap.size w w' := by
  obtain ⟨A1, c1, A2, c2, rfl, r1, r2⟩ := h
  exact rCanonical q w _ _ _ _ r1 r2 (Nat.le_trans hf.1 (by omega)) (Nat.le_trans hf.2 (by omega))
theorem qEqual (q : Rat) (w : World) (v1 v2 : Value) (h1 : GrQ w v1 q) (h2 : GrQ w v2 q) (hf : fitQ q) : Calls Tryd.prog 32 #[v1, v2] w fun e w' => e = .returned (.bool true) ∧ Below w.heap.size w w' :=
  rEqualQ q w v1 v2 h1 h2 (Nat.le_trans hf.1 (by omega)) (Nat.le_trans hf.2 (by omega))
theorem wf64 {n : Int} (h : (Lit.int .i64 n).wf = true) : -9223372036854775808 ≤ n ∧ n ≤ 9223372036854775807 := by
  simp only [Lit.wf, Bool.and_eq_true, decide_eq_true_eq] at h
  have e1 : IntKind.min .i64 = -9223372036854775808 := by decide
  have e2 : IntKind.max .i64 = 9223372036854775807 := by decide
  rw [e1, e2] at h
  exact h
set_option maxHeartbeats 4000000 in
set_option maxRecDepth 100000 in
theorem wNumberInts (n : Int) (h0 : -9223372036854775808 ≤ n) (h1 : n ≤ 9223372036854775807) (w : World) (hT : Tab w) :
    Calls Tryd.prog 7 #[.int .i64 n] w fun e w' => e = .returned (.bool true) ∧ Below w.heap.size w w' := by
  have HT := Lib.hid hT
  have FQ := Lib.hid (int_fit h0 h1)
  have C := Lib.hid (fun w => nFromInt n h0 h1 w)
  have CI := Lib.hid (fun w => rInt n h0 h1 w)
  obtain ⟨q, hq⟩ : ∃ q, ((n : Int) : Rat) = q := ⟨_, rfl⟩
  rw [hq] at C CI FQ
  clear hT
  go_enter Tryd.func7, Tryd.ntmps7
  go_upto_region 1 with (fail)
  go_wp2_with fail
  refine (C.out _).mono ?_
  rintro e w1 ⟨p1, P1, m1, d1, P1', m1', d1', rfl, i1, b1⟩
  have bb := below_step b1 b1.size (below_alloc w1 (.cells #[.bool p1, .slice P1 m1 d1, .slice P1' m1' d1'] 24))
  have TX := Lib.hid (XG.mk (Box.new w1 (.bool p1) (.slice P1 m1 d1) (.slice P1' m1' d1') 24) (i1.out.below (below_alloc _ _)) (HT.out.below bb) bb)
  obtain ⟨v1, hv⟩ : ∃ v, w1.alloc (.cells #[.bool p1, .slice P1 m1 d1, .slice P1' m1' d1'] 24) = v := ⟨_, rfl⟩
  obtain ⟨gz, hgz⟩ : ∃ g, w1.heap.size = g := ⟨_, rfl⟩
  clear bb b1 i1 HT
  go_upto_region 2 with (fail)
  rw [hv] at TX
  try rw [hv]
  rw [hgz] at TX
  try rw [hgz]
  clear hv hgz
  go_region_held3 (fun W' => (World.cell? W' ⟨gz, 0, none⟩ = some (.bool p1) ∧ World.cell? W' ⟨gz, 1, none⟩ = some (.slice P1 m1 d1) ∧ World.cell? W' ⟨gz, 2, none⟩ = some (.slice P1' m1' d1') ∧ Hid (XG w W' gz p1 P1 m1 d1 P1' m1' d1' q)))
    (with_reducible (first | assumption | exact TX.out.drew.cells | exact XG.next (by assumption) (by assumption)))
    (first
     | (go_at_call 31
        refine (qCanonical q _ _ (XG.of (by assumption)).r1 FQ.out).mono ?_
        rintro e wb ⟨rfl, bb⟩)
     | (go_at_call 33
        refine (CI.out _).mono ?_
        rintro e wb ⟨t2, B2, m2, e2, B2', m2', e2', rfl, i2, bb⟩)
     | (go_at_call 29
        refine (qRat q _ _ i2.out (fit_Rq FQ.out (by omega))).mono ?_
        rintro e wc ⟨t3, B3, m3, e3, B3', m3', e3', rfl, i3, bc⟩)
     | (go_at_call 32
        refine (qEqual q _ _ _ (XG.of (by assumption)).r1 i3.out FQ.out).mono ?_
        rintro e wd ⟨rfl, bd⟩
        have hh := (XG.of (by assumption)).below bd))
  have TY := Lib.hid hh
  clear hh
  have HN := Lib.hid hq
  clear hq
  by_cases hmax : n = 9223372036854775807
  · have hm1 : (n == 9223372036854775807) = true := by simpa using hmax
    have hm2 : decide (n = 9223372036854775807) = true := decide_eq_true hmax
    clear hmax
    go_wp2_with fail
    refine (lAwake _ TY.out.tab).mono ?_
    rintro e w9 ⟨rfl, b9⟩
    replace TY := Lib.hid (TY.out.below b9)
    clear b9
    go_wp2
    go_ret
    exact ⟨rfl, TY.out.bel⟩
  · have hm1 : (n == 9223372036854775807) = false := by simpa using hmax
    have hm2 : decide (n = 9223372036854775807) = false := decide_eq_false hmax
    have h2 : n + 1 ≤ 9223372036854775807 := by omega
    have h3 : -9223372036854775808 ≤ n + 1 := by omega
    clear hmax
    obtain ⟨q1, hq1⟩ : ∃ q, ((n + 1 : Int) : Rat) = q := ⟨_, rfl⟩
    have FQ1 := Lib.hid (int_fit h3 h2)
    have C1 := Lib.hid (fun w => nFromInt (n + 1) h3 h2 w)
    have I1 := Lib.hid (fun w => nFromInt 1 (by omega) (by omega) w)
    have F1 := Lib.hid (int_fit (n := 1) (by omega) (by omega))
    have CA := Lib.hid (fun (w : World) (v1 v2 : Value) (h1 : RawV w v1 (ng q) q.num.natAbs (dwv q.den)) (h2 : RawV w v2 (ng ((1 : Int) : Rat)) ((1 : Int) : Rat).num.natAbs (dwv ((1 : Int) : Rat).den)) (t : Tab w) => nAdd _ _ _ _ _ _ w _ _ h1 h2 t)
    have hs : q + ((1 : Int) : Rat) = q1 := by rw [← HN.out, ← hq1, Rat.intCast_add]
    rw [large_self FQ.out, large_self F1.out, ratOf_self, ratOf_self, hs] at CA
    rw [hq1] at FQ1 C1
    have e1 : give q1 = .ok q1 := by unfold give; rw [if_pos FQ1.out]
    simp only [Bool.or_self, Bool.false_eq_true, if_false, e1] at CA
    obtain ⟨o1, ho1⟩ : ∃ o, ((1 : Int) : Rat) = o := ⟨_, rfl⟩
    rw [ho1] at CA I1 F1
    have HW := Lib.hid TY.out.newer
    have hwr : IntKind.i64.wrap (n + 1) = n + 1 := wrap_i64 _ h3 h2
    have hwr2 : wrap64 (n + 1) = n + 1 := by unfold wrap64; omega
    clear hs ho1 e1 hq1
    go_upto_region 6 with (fail)
    go_cut [4, 5] (fun v4 v5 wc => ∃ (g4 : Nat) (t5 : Bool) (B5 : Option Addr) (m5 e5 : Nat) (B5' : Option Addr) (m5' e5' : Nat), v4 = .pointer (some ⟨g4, 0, none⟩) ∧ v5 = .int .i64 0 ∧ Hid (XG w wc g4 t5 B5 m5 e5 B5' m5' e5' q1))
    case first =>
      go_region_held3 (fun W' => (World.cell? W' ⟨gz, 0, none⟩ = some (.bool p1) ∧ World.cell? W' ⟨gz, 1, none⟩ = some (.slice P1 m1 d1) ∧ World.cell? W' ⟨gz, 2, none⟩ = some (.slice P1' m1' d1') ∧ Hid (XG w W' gz p1 P1 m1 d1 P1' m1' d1' q)))
        (with_reducible (first | assumption | exact TY.out.drew.cells | exact XG.next (by assumption) (by assumption) | exact XG.next (by assumption) (below_alloc _ _) | exact (TY.out.below (below_alloc _ _).drew).cells | exact (XG.below (by assumption) (below_alloc _ _)).cells | exact XG.boxed (by assumption) (by assumption) (by assumption) (NI.bool _) (NI.slice _ _ _) (NI.slice _ _ _) | exact XG.boxed (by assumption) (by assumption) HW.out (NI.bool _) (NI.slice _ _ _) (NI.slice _ _ _)))
        (first
         | (go_at_call 30
            refine (I1.out _).mono ?_
            rintro e wf ⟨t4, B4, m4, e4, B4', m4', e4', rfl, i4, bf⟩
            have hnew := ((XG.of (by assumption)).below bf).newer
            try (have hbx1 := Box.below (Box.drew (Box.new wd (.bool false) (.slice none 0 0) (.slice none 0 0) 24)) bf))
         | (go_at_call 19
            refine (CA.out _ _ _ ((XG.of (by assumption)).r1.raw FQ.out) (by first | exact i4.out.raw F1.out | exact (i4.out.below (below_alloc _ _)).raw F1.out) (XG.of (by assumption)).tab).mono ?_
            rintro e we ⟨t5, B5, m5, e5, B5', m5', e5', k5, rfl, h5, b5⟩
            obtain rfl : k5 = 0 := h5.1
            have hh := (XG.of (by assumption)).below b5
            first
              | (have hbx2 := Box.below hbx1 b5; obtain ⟨k1, k2, k3, f1, f2, f3⟩ := hbx2.cells)
              | (have hbx2 := Box.below (Box.new wf (.bool false) (.slice none 0 0) (.slice none 0 0) 24) b5; obtain ⟨k1, k2, k3, f1, f2, f3⟩ := hbx2.cells)
              | skip))
      all_goals (go_wp2; go_meet)
      all_goals first
        | exact ⟨_, _, _, _, _, _, _, _, rfl, rfl, Lib.hid (hh.last h5.2.1)⟩
        | exact ⟨_, _, _, _, _, _, _, _, rfl, rfl, Lib.hid (hh.first h5.2.1 hbx2 HW.out)⟩
        | exact ⟨_, _, _, _, _, _, _, _, rfl, rfl, Lib.hid (hh.first h5.2.1 hbx2 hnew)⟩
    case rest =>
      obtain ⟨g4, t5, B5, m5, e5, B5', m5', e5', rfl, rfl, TZ⟩ := hcut
      go_wp2_with fail
      go_region_held3 (fun W' => (World.cell? W' ⟨g4, 0, none⟩ = some (.bool t5) ∧ World.cell? W' ⟨g4, 1, none⟩ = some (.slice B5 m5 e5) ∧ World.cell? W' ⟨g4, 2, none⟩ = some (.slice B5' m5' e5') ∧ Hid (XG w W' g4 t5 B5 m5 e5 B5' m5' e5' q1)))
        (with_reducible (first | assumption | exact TZ.out.drew.cells | exact XG.next (by assumption) (by assumption)))
        (first
         | (go_at_call 30
            try rw [hwr]
            refine (C1.out _).mono ?_
            rintro e wf ⟨t6, B6, m6, e6, B6', m6', e6', rfl, i6, bf⟩)
         | (go_at_call 32
            refine (qEqual q1 _ _ _ (XG.of (by assumption)).r1 i6.out FQ1.out).mono ?_
            rintro e wg ⟨rfl, bg⟩)
         | (go_at_call 18
            refine (lAwake _ (XG.of (by assumption)).tab).mono ?_
            rintro e w9 ⟨rfl, b9⟩
            have hh := (XG.of (by assumption)).below b9))
      go_wp2
      go_ret
      exact ⟨rfl, hh.bel⟩
end Go.Proofs.YtfmhplcpejmkhaaDoor

namespace Go.Proofs.YtfmhplcpejmkhaaDoor
open Go.ChangeShapes Go.WideShapes Go.ChangeAt Go.RowKit Dig
set_option linter.unusedVariables false
set_option linter.unusedSimpArgs false
theorem own : ownKnob Tryd.prog.godebug = none := by kernel_rfl
theorem gTab : Tryd.prog.globalNamed "math/bits.deBruijn32tab" = some 0 := by kernel_rfl
theorem gTabType : (Tryd.prog.globals[0]?).map (·.type) = some 116 := by kernel_rfl
theorem cellsTab : Tryd.prog.cellsOf 116 = 32 := by kernel_rfl
theorem cellsU8 : Tryd.prog.cellsOf 5 = 1 := by kernel_rfl
theorem cellsU32 : Tryd.prog.cellsOf 68 = 1 := by kernel_rfl
theorem cellsRat : Tryd.prog.cellsOf 24 = 3 := by kernel_rfl
theorem laidOut : laidOutB Tryd.prog = true := by kernel_rfl
theorem tab_of {W : World} (h : laidMetH Tryd.prog [("math/bits.deBruijn32tab", Rows.laid_math_bits_deBruijn32tab)] W) : Tab W := by
  have t : Lib.TabIs Tryd.prog W "math/bits.deBruijn32tab" .u8 (Lib.deBruijn32tab.map Int.ofNat) :=
    Lib.tabIs_of_head (rest := []) gTab gTabType Tryd.underlying116 Tryd.underlying5 cellsU8 cellsTab h
  intro j hj
  have hc := t.cell gTab j (by simpa using hj)
  rw [hc]
  congr 2
  simp [List.getD, hj]
set_option maxRecDepth 100000 in
/-- a slice of words that comes in -/
theorem open_rd {H : Type} {enc : TypeId × Value → H} {W : World} {n : Nat} {v : Value} {y : DataW H × List MemPlace} (h : DataW.trod enc Tryd.prog W 0 (fun _ => true) true n 22 [v] = some y) :
    ∃ A c l, v = .slice A l.length c ∧ Rd W A c l ∧ Ok B32 l ∧ l.length < Rows.uptoBulk y.1 := by
  rcases open_ints Tryd.underlying22 Tryd.underlying68 cellsU32 h with ⟨e, rfl⟩ | ⟨a, len, cap, zs, e, _, hl, hm, hz, rfl, hc, hw⟩
  · obtain rfl : v = .slice none 0 0 := by simpa using e
    exact ⟨none, 0, [], rfl, ⟨Nat.le_refl _, Nat.zero_le _, fun j hj => absurd hj (Nat.not_lt_zero _)⟩, (fun x (hx : x ∈ []) => by simp at hx), by simp [Rows.uptoBulk]⟩
  · obtain rfl : v = .slice (some a) len cap := by simpa using e
    rw [if_pos rfl] at hz
    refine ⟨some a, cap, zs.take len, by simp [hz, Nat.min_eq_left hl], ⟨by simp [hz]; omega, by unfold maxLen at hm; omega, ?_⟩, ?_, ?_⟩
    · intro j hj
      have hj' : j < len := by simp [hz] at hj; omega
      refine ⟨a, rfl, ?_⟩
      rw [hc j (by omega)]
      have : j < zs.length := by omega
      simp [rd, List.getD, hj', List.getElem?_take]
    · intro x hx
      have := hw x (List.mem_of_mem_take hx)
      simp only [Lit.wf, Bool.and_eq_true, decide_eq_true_eq] at this
      have e1 : IntKind.min .u32 = 0 := by decide
      have e2 : IntKind.max .u32 = 4294967295 := by decide
      rw [e1, e2] at this
      unfold B32
      omega
    · have : ∀ l : List (DataW H), l.length ≤ Rows.uptoBulkAll l := by
        intro l
        induction l with
        | nil => simp [Rows.uptoBulkAll]
        | cons x r ih =>
          have h1 : 1 ≤ Rows.uptoBulk x := by
            cases x with
            | lit l => cases l <;> simp [Rows.uptoBulk]
            | _ => simp [Rows.uptoBulk]
          simp only [Rows.uptoBulkAll, List.length_cons]
          omega
      have h2 := this (lits (H := H) .u32 (zs.take len))
      have h3 : (lits (H := H) .u32 (zs.take len)).length = (zs.take len).length := by simp [lits]
      simp only [Rows.uptoBulk]
      omega
theorem fin_agg3 {H : Type} (a b c : DataW H) : Rows.uptoBulk b < Rows.uptoBulk (.agg [a, b, c]) ∧ Rows.uptoBulk c < Rows.uptoBulk (.agg [a, b, c]) := by
  have h1 : ∀ x : DataW H, 1 ≤ Rows.uptoBulk x := by
    intro x
    cases x with
    | lit l => cases l <;> simp [Rows.uptoBulk]
    | _ => simp [Rows.uptoBulk]
  have ha := h1 a
  have hb := h1 b
  have hc := h1 c
  simp only [Rows.uptoBulk, Rows.uptoBulkAll]
  omega
set_option maxRecDepth 100000 in
/-- a number that comes in, whatever its length -/
theorem open_rat {H : Type} {enc : TypeId × Value → H} {W : World} {b0 : Nat} {v : Value} {d : DataW H} {p : List MemPlace} (hv : Value.okWide Tryd.prog W .any b0 24 v) (h : DataW.Trod enc Tryd.prog W 0 (fun _ => true) true 24 v d p) :
    ∃ s A1 c1 l1 A2 c2 l2, v = .agg #[.bool s, .slice A1 l1.length c1, .slice A2 l2.length c2] ∧ Rd W A1 c1 l1 ∧ Rd W A2 c2 l2 ∧ Ok B32 l1 ∧ Ok B32 l2 ∧ l1.length + 1 < Rows.uptoBulk d ∧ l2.length + 1 < Rows.uptoBulk d := by
  obtain ⟨v0, v1, v2, y0, y1, y2, n, rfl, rfl, rfl, h0, h1, h2⟩ := Joins.open_agg3 Tryd.underlying24 (by kernel_rfl) cellsRat hv h
  obtain ⟨A1, c1, l1, rfl, r1, o1, k1⟩ := open_rd h1
  obtain ⟨A2, c2, l2, rfl, r2, o2, k2⟩ := open_rd h2
  have hb : ∃ s, v0 = .bool s := by
    obtain ⟨s, h', _⟩ := DataW.trod_bool Tryd.underlying4 h0
    exact ⟨s, by simpa using h'⟩
  obtain ⟨s, rfl⟩ := hb
  obtain ⟨q1, q2⟩ := fin_agg3 y0.1 y1.1 y2.1
  exact ⟨s, A1, c1, l1, A2, c2, l2, rfl, r1, r2, o1, o2, by omega, by omega⟩
set_option maxRecDepth 100000 in
theorem open_raw {H : Type} {enc : TypeId × Value → H} {W : World} {b0 : Nat} {v : Value} {d : DataW H} {p : List MemPlace} (hv : Value.okWide Tryd.prog W .any b0 24 v) (h : DataW.Trod enc Tryd.prog W 0 (fun _ => true) true 24 v d p)
    (hk : Rows.uptoBulk d ≤ 1048576) : ∃ s N D, RawV W v s N D := by
  obtain ⟨s, A1, c1, l1, A2, c2, l2, e, r1, r2, o1, o2, k1, k2⟩ := open_rat hv h
  obtain ⟨N, hN⟩ := Int.eq_ofNat_of_zero_le (val_nonneg o1)
  obtain ⟨D, hD⟩ := Int.eq_ofNat_of_zero_le (val_nonneg o2)
  exact ⟨s, N, D, A1, c1, l1, A2, c2, l2, e, r1, r2, o1, o2, hN, hD, by omega, by omega⟩
set_option maxRecDepth 100000 in
/-- the arguments read behind the call as they did -/
theorem stays {H : Type} {enc : TypeId × Value → H} {W W' : World} (hb : Below W.heap.size W W') {sp : Nat → Bool} :
    ∀ {ts : List TypeId} {vs : List Value} {ds : List (DataW H)} {ps : List MemPlace}, (∀ t ∈ ts, Tryd.prog.readableRec t = true ∧ t < Tryd.prog.types.size) →
      DataW.TrodAll enc Tryd.prog W 0 (fun _ => true) true ts vs ds ps → (∀ p ∈ ps, sp p.block = true) → DataW.TrodAll enc Tryd.prog W' 0 sp true ts vs ds ps
  | [], [], [], _, _, h, _ => h
  | _ :: _, _ :: _, _ :: _, _, hT, h, hs => by
    have hlt := h.lt
    obtain ⟨p, q, h1, h2, e⟩ := h
    refine ⟨p, q, ?_, stays hb (fun t ht => hT t (List.mem_cons.2 (Or.inr ht))) h2 (fun x hx => hs x (by rw [e]; exact List.mem_append_right _ hx)), e⟩
    exact WideElems.Trod_stays laidOut (hT _ (List.mem_cons.2 (Or.inl rfl))).1 (hT _ (List.mem_cons.2 (Or.inl rfl))).2 h1
      (fun x hx => hb.same (hlt x (by rw [e]; exact List.mem_append_left _ hx))) (fun x hx => hs x (by rw [e]; exact List.mem_append_left _ hx))
set_option maxRecDepth 100000 in
/-- what the answer true gives, where nothing old has turned -/
theorem said_true {H : Type} {enc : TypeId × Value → H} {f : Func} {s : ChangeSpec} {W W' : World} {args : Array Value} {ds gs : List (DataW H)} {before : List MemPlace}
    (hW : DataW.Whole enc Tryd.prog f.params.toList s.vars false W args.toList ds gs before) (hv : s.vars = []) (hT : ∀ t ∈ f.params.toList, Tryd.prog.readableRec t = true ∧ t < Tryd.prog.types.size)
    (hr : f.resultTypes = #[4]) (e1 : (s.fn H (ds ++ gs)).results = [.lit (.bool true)]) (e2 : (s.fn H (ds ++ gs)).args = ds) (e3 : (s.fn H (ds ++ gs)).vars = []) (hb : Below W.heap.size W W') :
    s.post enc Tryd.prog f false true false false W args (.bool true) W' := by
  have hW' := hW
  obtain ⟨p, q, hA, hV, rfl, _, _⟩ := hW'
  rw [hv] at hV
  obtain ⟨rfl, rfl⟩ := trodVars_none hV
  have lt := hW.lt
  have ok : ∀ (j : Nat) (t : TypeId) (r : Value), f.resultTypes[j]? = some t → ((Value.bool true).resultList f.resultTypes.size)[j]? = some r → Value.okWide Tryd.prog W' .any 0 t r := ok_one hr rfl (okWide_bool_mk Tryd.underlying4 _)
  have res : ∀ (b : Nat) (sp : Nat → Bool) (hd : Bool), DataW.TrodAll enc Tryd.prog W' b sp hd f.resultTypes.toList ((Value.bool true).resultList f.resultTypes.size) (s.fn H (ds ++ [])).results [] := fun _ _ _ => by
    rw [e1, hr]
    exact trodAll_mk1 (shut_bool Tryd.underlying4 _)
  have arg : ∀ sp : Nat → Bool, (∀ x ∈ p ++ [], sp x.block = true) → DataW.TrodAll enc Tryd.prog W' 0 sp true f.params.toList args.toList (s.fn H (ds ++ [])).args p := fun sp hs => by
    rw [e2]
    exact stays hb hT hA (fun x hx => hs x (by simpa using hx))
  have var : ∀ sp : Nat → Bool, DataW.TrodVars enc Tryd.prog W' sp s.vars (s.fn H (ds ++ [])).vars [] := fun _ => by
    rw [e3, hv]
    rfl
  have hold : ∀ x ∈ p ++ [], (fun b => decide (b < W.heap.size)) x.block = true := fun x hx => by simpa using lt x hx
  refine ⟨ds, [], p ++ [], [], p, [], hW, res _ _ _, arg _ hold, var _, hb.frame _, fun h => by cases h⟩
end Go.Proofs.YtfmhplcpejmkhaaDoor

namespace Go.Proofs.YtfmhplcpejmkhaaDoor.lawNumberInts
open Go.ChangeShapes Go.WideShapes Go.ChangeAt Go.RowKit Dig
set_option linter.unusedVariables false
set_option linter.unusedSimpArgs false
set_option maxRecDepth 100000 in
theorem contract (H : Type) (enc : TypeId × Value → H) (W : World) (base : Nat) (args : Array Value) (ds gs : List (DataW H)) (before : List MemPlace)
    (hval : ∀ (j : Nat) t v, Tryd.f7.params[j]? = some t → args[j]? = some v → Value.okWide Tryd.prog W .any base t v)
    (hW : DataW.Whole enc Tryd.prog Tryd.f7.params.toList Rows.numberIntsSpec.vars false W args.toList ds gs before) (hL : laidMetH Tryd.prog Rows.numberIntsRow.laid W) :
    Calls Tryd.prog 7 args W fun e W' => ∃ v, e = .returned v ∧ Rows.numberIntsSpec.post enc Tryd.prog Tryd.f7 false true false false W args v W' := by
  have hW' := hW
  obtain ⟨p, q, hA0, hV, rfl, hfz, hnd⟩ := hW
  have hA : DataW.TrodAll enc Tryd.prog W 0 (fun _ => true) true Tryd.f7.params.toList args.toList ds p := hA0
  rw [Tryd.params7] at hA hval
  obtain ⟨v0, vs0, d0, ds0, p0, q0, hv0, rfl, rfl, h0, r0⟩ := trodAll_cons hA
  obtain ⟨hn, rfl, rfl⟩ := trodAll_nil r0
  obtain rfl : args = #[v0] := by cases args; simp_all
  obtain ⟨rfl, rfl⟩ := trodVars_none hV
  have hT := tab_of hL
  obtain ⟨n0, rfl, rfl, x0, y0⟩ := open_int Tryd.underlying3 (hval 0 3 v0 rfl rfl) h0
  refine (wNumberInts n0 (wf64 y0).1 (wf64 y0).2 W hT).mono fun e W' ⟨he, hb⟩ => ?_
  subst he
  exact ⟨_, rfl, said_true hW' rfl (by rw [Tryd.params7]; intro t ht; simp at ht; subst ht; exact ⟨by kernel_rfl, of_decide_eq_true (by kernel_rfl)⟩) (by kernel_rfl) rfl rfl rfl hb⟩

noncomputable def laidWorld (os : Os) : World :=
  { World.holding Tryd.prog os ⟨#[], #[], []⟩ with heap := (World.holding Tryd.prog os ⟨#[], #[], []⟩).heap.modify 0 fun
      | .cells _ t frozen => .cells ((Lib.deBruijn32tab.map fun n => Value.int .u8 (Int.ofNat n)).toArray) t frozen
      | o => o }
theorem laid_met (os : Os) : laidMet Tryd.prog Rows.numberIntsRow.laid ((laidWorld os).forCall (fun _ _ => 0) ⟨#[], #[.int .i64 0], []⟩).memory :=
  laidMet_of_run' 64 (by kernel_rfl) (by kernel_rfl)
theorem reads (os : Os) {H : Type} (enc : TypeId × Value → H) : ∃ places, DataW.whole enc Tryd.prog ((laidWorld os).forCall (fun _ _ => 0) ⟨#[], #[.int .i64 0], []⟩).memory Tryd.f7.params.toList Rows.numberIntsSpec.vars false (#[.int .i64 0] : Array Value).toList 64 = some ([.lit (.int .i64 0)], [], places) :=
  ⟨[], by kernel_rfl⟩
set_option maxRecDepth 100000 in
theorem lifted (os : Os) (started : os.Started) (H : Type) (enc : TypeId × Value → H) (F : Stop.Interp) :
    ReturnsInHanded {} Tryd.checked os 7 .any ((OpenSpec.ofChange Rows.numberIntsSpec).preRow enc Tryd.prog Tryd.f7 Rows.numberIntsRow.domain false Rows.numberIntsRow.laid) (((OpenSpec.ofChange Rows.numberIntsSpec).at F).post enc Tryd.prog Tryd.f7 false true false false) := by
  obtain ⟨places, hx⟩ := reads os enc
  refine returnsInHanded_of_row (C := Tryd.checked) (s := OpenSpec.ofChange Rows.numberIntsSpec) own started (by kernel_rfl) Tryd.func7
    (witness_row_at (enc := enc) (C := Tryd.checked) false (laidWorld os) #[.int .i64 0] rfl (by kernel_rfl) (by kernel_rfl) (by kernel_rfl)
      (OpenSpec.preRow_of_cond 64 hx (by kernel_rfl) (fun k hk => by cases hk) (by kernel_rfl) (laid_met os))) ?_
  intro W base args ds gs before hval hW _ hcond hreach hL _ _
  exact contract H enc W base args ds gs before hval hW hL
theorem said : Rows.NumberIntsSaid :=
  OpenClaim.holds_of_cond 7 Tryd.f7 rfl rfl rfl rfl rfl rfl rfl ⟨rfl, rfl, rfl, rfl, rfl⟩ rfl rfl rfl rfl rfl (by kernel_rfl) Tryd.func7 (by kernel_rfl)
    (of_decide_eq_true (by kernel_rfl)) (by unfold Func.isWrapper; first | (rw [if_pos (by decide +kernel)]; kernel_rfl) | (rw [if_neg (by decide +kernel)]; exact ⟨rfl, rfl⟩))
    (fun os started H enc _ F => by rw [OpenClaim.pre_eq_preRow]; exact lifted os started H enc F)
theorem plain (f : FuncId) (fn : Func) (hf : Tryd.pinned.checked.prog.funcNamed "inequality/inequalitylaw01.NumberInts" = some f) (hfn : Tryd.pinned.checked.prog.funcs[f]? = some fn) :
    false = Tryd.pinned.checked.prog.looks [] ∧ ∀ (j : Nat) t, fn.params[j]? = some t → Tryd.pinned.checked.prog.wantsStandIn t = false := by
  obtain rfl : f = 7 := Option.some.inj ((show Tryd.prog.funcNamed "inequality/inequalitylaw01.NumberInts" = some 7 by kernel_rfl).symm.trans hf) |>.symm
  obtain rfl : fn = Tryd.f7 := (Option.some.inj (Tryd.func7.symm.trans hfn)).symm
  refine ⟨by kernel_rfl, fun j t ht => ?_⟩
  rw [Tryd.params7] at ht
  have hm := Array.mem_of_getElem? ht
  simp at hm
  subst hm
  exact (show Tryd.prog.wantsStandIn 3 = false by kernel_rfl)
theorem card : Rows.NumberIntsCardSaid :=
  Claim7.holds_tied_plain_at .later [] _ _ _ _ said (fun _ h => by cases h) (by kernel_rfl) (fun _ h => by cases h) numberInts_row_tie rfl ⟨rfl, rfl⟩ (by kernel_rfl) rfl plain (by kernel_rfl)
end Go.Proofs.YtfmhplcpejmkhaaDoor.lawNumberInts
