/-
  Contracts of the reference's rational numbers: Bottom, Top, Scaled, GridDown, GridUp.
  The reference's Bottom, Top, Scaled, GridDown, GridUp over rational numbers, and what they are in the program's words.
  Contracts of number.Canon, Neg, Abs, Floor, Ceil. Under the premise that the table of math/bits lies as its initialiser lays it.
  Contracts of the reference's Floor, Ceil, Grid.
  Contracts of number.round, Down, Up. Under the premise that the table of math/bits lies as its initialiser lays it.
  Contracts of two values that have been read.
  How rational numbers compare: plain laws.
  Contracts of number.Compare. Under the premise that the table of math/bits lies as its initialiser lays it.
  Results of operations as values: an error's value is the zero value.
  Contracts of number.Div. Under the premise that the table of math/bits lies as its initialiser lays it.
  The operations over values of whatever kind: what is known of a value is whether it is large and which number it denotes. Under the premise that the table of math/bits lies as its initialiser lays it.
  Contract of the statements' own awake.
  The walk of the statement NumberField. Under the premise that the table of math/bits lies as its initialiser lays it.
  From a row's reading to the walks' premises: a number as it comes in, the table of math/bits, and what an answer 'true' over untouched arguments gives.
  The statement NumberFieldUptoCardSaid: the row, and the card over it. Conditions: the walks' none but what the row's reading and its listed table give.
-/
import Derived.Test.YtfmhplcpejmkhaaDoorCards
import Derived.Test.YtfmhplcpejmkhaaDoorTie
import Derived.WalkKit
import Derived.ProofKit
import Derived.OpenShut
import Derived.Carry
import Derived.Deep.DeepHandedRow
import Derived.Lib.LaidTab
import Derived.Lib.SmallJoins
import Derived.ChangeSlices
import Derived.Test.YtfmhplcpejmkhaaDoorPFieldC
namespace Go.Proofs.YtfmhplcpejmkhaaDoor
open Go.RowKit Dig
set_option linter.unusedVariables false
set_option linter.unusedSimpArgs false
theorem GvR.undrawn {w M : World} {g1 g3 : Nat} {t : TypeId} {s1 : Bool} {A1 : Option Addr} {c1 n1 : Nat} {A2 : Option Addr} {c2 d1 : Nat} (h : GvR w M.drew g1 g3 t s1 A1 c1 n1 A2 c2 d1) : GvR w M g1 g3 t s1 A1 c1 n1 A2 c2 d1 :=
  ⟨⟨h.f.box, ⟨h.f.r1.le, h.f.r1.max, h.f.r1.at_⟩, ⟨h.f.r2.le, h.f.r2.max, h.f.r2.at_⟩⟩, h.res, ⟨h.bel.os, h.bel.tape, h.bel.output, h.bel.size, h.bel.block⟩, h.ne, h.n3⟩
theorem GvR.drew {w M : World} {g1 g3 : Nat} {t : TypeId} {s1 : Bool} {A1 : Option Addr} {c1 n1 : Nat} {A2 : Option Addr} {c2 d1 : Nat} (h : GvR w M g1 g3 t s1 A1 c1 n1 A2 c2 d1) : GvR w M.drew g1 g3 t s1 A1 c1 n1 A2 c2 d1 := h.below (Below.refl _ _).drew
theorem grid_len (s : Bool) (n d p : Nat) (up : Bool) {k : Nat} (h : (R (n * 2 ^ p)).length ≤ k) : (R (gridN s n d p up)).length ≤ k + 1 := by
  rw [R, dig_length_le B16_two] at h ⊢
  have h1 : n * 2 ^ p / d ≤ n * 2 ^ p := Nat.div_le_self _ _
  have h2 : gridN s n d p up ≤ n * 2 ^ p / d + 1 := by unfold gridN; split <;> omega
  have h3 : B16 ^ (k + 1) = B16 ^ k * B16 := Nat.pow_succ ..
  have h4 : B16 ^ k * 2 ≤ B16 ^ k * B16 := Nat.mul_le_mul_left _ B16_two
  omega
set_option maxHeartbeats 4000000 in
set_option maxRecDepth 100000 in
theorem rBottom (s1 : Bool) (n1 d1 : Nat) (w : World) (A1 A2 : Option Addr) (c1 c2 : Nat) (h1 : Rd w A1 c1 (R n1)) (h2 : Rd w A2 c2 (R d1)) (l1 : (R n1).length ≤ 400000) (l2 : (R d1).length ≤ 400000) (hd : d1 ≠ 0) (q : Rat) (hq : mkRat (sg s1 (gridN s1 n1 d1 0 false)) 1 = q) :
    Calls Tryd.prog 101 #[.agg #[.bool s1, .slice A1 (R n1).length c1, .slice A2 (R d1).length c2]] w fun e w' => ∃ s B1 m1 e1 B2 m2 e2, e = .returned (.agg #[.bool s, .slice B1 m1 e1, .slice B2 m2 e2]) ∧ Hid (IsQ w' (.agg #[.bool s, .slice B1 m1 e1, .slice B2 m2 e2]) q) ∧ Below w.heap.size w w' := by
  have T0 := Lib.hid (GvR.start (s1 := s1) (t := 37) h1 h2)
  have Z := Lib.hid hd
  have HQ := Lib.hid hq
  have L1 := Lib.hid (R_len4 (n := 1) (by omega))
  obtain ⟨k, hk⟩ : ∃ k, n1 / d1 = k := ⟨_, rfl⟩
  obtain ⟨r, hr⟩ : ∃ r, n1 % d1 = r := ⟨_, rfl⟩
  have hlk : (R k).length ≤ 400000 := by
    rw [R, dig_length_le B16_two] at l1 ⊢
    have := Nat.div_le_self n1 d1
    omega
  have LK := Lib.hid hlk
  have HK := Lib.hid hk
  have HR := Lib.hid hr
  have G := Lib.hid (show gridN s1 n1 d1 0 false = if s1 = true ∧ r ≠ 0 then k + 1 else k by
    unfold gridN
    simp only [Nat.pow_zero, Nat.mul_one, hk, hr]
    cases s1 <;> simp
    by_cases h0 : r = 0 <;> simp [h0])
  have h5 := R_add_length k 1
  have h6 : (R 1).length = 1 := by rw [R_one]; rfl
  have LK1 := Lib.hid (show (R (k + 1)).length ≤ 400002 by omega)
  clear h5 h6
  clear h1 h2 hd hq hk hr hlk
  go_enter Tryd.func101, Tryd.ntmps101
  go_wp2_with fail
  go_region_held3 (fun W' => (World.cell? W' ⟨(w.heap.size), 0, none⟩ = some (.bool s1) ∧ World.cell? W' ⟨(w.heap.size), 1, none⟩ = some (.slice A1 (R n1).length c1) ∧ World.cell? W' ⟨(w.heap.size), 2, none⟩ = some (.slice A2 (R d1).length c2) ∧ Hid (GvR w W' (w.heap.size) (w.heap.size + 1) 37 s1 A1 c1 n1 A2 c2 d1)))
    (with_reducible (first | assumption | exact T0.out.drew.cells | exact GvR.next (by assumption) (by assumption) | exact GvR.nextS (by assumption)))
    (first
       | (go_at_call 72
          refine (rDen _ _ _ _ _ _ _ _ (GvR.of (by assumption)).f.r2 Z.out).mono ?_
          rintro e wc ⟨Ac, cc, rfl, rc, bc⟩)
       | (go_at_call 123
          refine (rDiv n1 d1 _ _ _ _ _ (GvR.of (by assumption)).f.r1 rc (by omega) (Nat.pos_of_ne_zero Z.out)).mono ?_
          rw [HK.out, HR.out]
          rintro e wa ⟨Aa, ca, Ab, cb, rfl, ra, rb, ba⟩
          have hh := (GvR.of (by assumption)).below ba))
  obtain ⟨bb, hbb⟩ : ∃ bb, decide (0 < (R r).length) = bb := ⟨_, rfl⟩
  have hbb2 : decide ((0 : Int) < ((R r).length : Int)) = bb := by rw [← hbb]; simp
  have HB := Lib.hid (show (!decide (r = 0)) = bb by rw [← R_len_pos, hbb])
  have TT := Lib.hid hh
  have RA := Lib.hid ra
  clear hh ra rb ba bc rc
  rcases s1 with _ | _
  · obtain ⟨a1, a2, a3, _⟩ := TT.out.cells
    rw [if_neg (by simp)] at G
    rw [G.out] at HQ
    go_wp2_with fail
    go_region_held3 (fun W' => (World.cell? W' ⟨(w.heap.size), 0, none⟩ = some (.bool false) ∧ World.cell? W' ⟨(w.heap.size), 1, none⟩ = some (.slice A1 (R n1).length c1) ∧ World.cell? W' ⟨(w.heap.size), 2, none⟩ = some (.slice A2 (R d1).length c2) ∧ Hid (GvR w W' (w.heap.size) (w.heap.size + 1) 37 false A1 c1 n1 A2 c2 d1)))
      (with_reducible (first | assumption | exact TT.out.drew.cells | exact GvR.next (by assumption) (by assumption) | exact GvR.nextS (by assumption)))
      (first
       | (go_at_call 73
          refine (rNatOf1 _).mono ?_
          rintro e wn ⟨An, cn, rfl, rn, bn⟩)
       | (go_at_call 74
          refine (Calls.parts (rMake _ k 1 _ _ _ _ _ ((RA.out.below (Below.refl _ _).drew).below bn) rn (by omega) (Nat.le_trans LK.out (by omega)) L1.out)).mono ?_
          rw [HQ.out]
          rintro e we ⟨t3, B3, m3, e3, B3', m3', e3', rfl, i3, be⟩
          have hh := (GvR.of (by assumption)).below be
          obtain ⟨x, y, z, hx, hy, hz, k1, k2, k3⟩ := hh.res.cells))
    obtain ⟨q0, q1, q2, hs, hb⟩ := IsQ.stored i3.out hh.res hh.bel hh.n3
    have Q := Lib.hid (And.intro q0 (And.intro q1 q2))
    have HS := Lib.hid hs
    have HBB := Lib.hid hb
    clear q0 q1 q2 hs hb
    go_wp2
    obtain ⟨q0, q1, q2⟩ := Q.out
    refine bodyPost_ret (v := .agg #[.bool t3, .slice B3 m3 e3, .slice B3' m3' e3']) (by simp [results, Tryd.results101, go_sem, q0, q1, q2]) rfl ?_
    exact ⟨_, _, _, _, _, _, _, rfl, HS, HBB.out⟩
  · rcases bb with _ | _
    · obtain ⟨a1, a2, a3, _⟩ := TT.out.cells
      have hr0 : r = 0 := by have := HB.out; simpa using this
      rw [if_neg (by simp [hr0])] at G
      rw [G.out] at HQ
      clear hr0
      go_wp2_with fail
      go_region_held3 (fun W' => (World.cell? W' ⟨(w.heap.size), 0, none⟩ = some (.bool true) ∧ World.cell? W' ⟨(w.heap.size), 1, none⟩ = some (.slice A1 (R n1).length c1) ∧ World.cell? W' ⟨(w.heap.size), 2, none⟩ = some (.slice A2 (R d1).length c2) ∧ Hid (GvR w W' (w.heap.size) (w.heap.size + 1) 37 true A1 c1 n1 A2 c2 d1)))
        (with_reducible (first | assumption | exact TT.out.drew.cells | exact GvR.next (by assumption) (by assumption) | exact GvR.nextS (by assumption)))
        (first
         | (go_at_call 73
            refine (rNatOf1 _).mono ?_
            rintro e wn ⟨An, cn, rfl, rn, bn⟩)
         | (go_at_call 74
            refine (Calls.parts (rMake _ k 1 _ _ _ _ _ ((RA.out.below (Below.refl _ _).drew).below bn) rn (by omega) (Nat.le_trans LK.out (by omega)) L1.out)).mono ?_
            rw [HQ.out]
            rintro e we ⟨t3, B3, m3, e3, B3', m3', e3', rfl, i3, be⟩
            have hh := (GvR.of (by assumption)).below be
            obtain ⟨x, y, z, hx, hy, hz, k1, k2, k3⟩ := hh.res.cells))
      obtain ⟨q0, q1, q2, hs, hb⟩ := IsQ.stored i3.out hh.res hh.bel hh.n3
      have Q := Lib.hid (And.intro q0 (And.intro q1 q2))
      have HS := Lib.hid hs
      have HBB := Lib.hid hb
      clear q0 q1 q2 hs hb
      go_wp2
      obtain ⟨q0, q1, q2⟩ := Q.out
      refine bodyPost_ret (v := .agg #[.bool t3, .slice B3 m3 e3, .slice B3' m3' e3']) (by simp [results, Tryd.results101, go_sem, q0, q1, q2]) rfl ?_
      exact ⟨_, _, _, _, _, _, _, rfl, HS, HBB.out⟩
    · obtain ⟨a1, a2, a3, _⟩ := TT.out.cells
      have hr0 : r ≠ 0 := by have := HB.out; simpa using this
      rw [if_pos ⟨rfl, hr0⟩] at G
      rw [G.out] at HQ
      clear hr0
      go_wp2_with fail
      refine (rNatOf1 _).mono ?_
      rintro e wn ⟨An, cn, rfl, rn, bn⟩
      replace RA := Lib.hid (RA.out.below bn)
      have TT := Lib.hid (TT.out.below bn)
      have RN := Lib.hid rn
      clear bn rn a1 a2 a3
      go_wp2_with fail
      refine (rAdd k 1 _ _ _ _ _ RA.out RN.out (Nat.le_trans LK.out (by omega)) (Nat.le_trans L1.out (by omega))).mono ?_
      rintro e wm ⟨Am, cm, rfl, rm, bm⟩
      have TT := Lib.hid (TT.out.below bm)
      have RA := Lib.hid rm
      clear bm rm
      obtain ⟨a1, a2, a3, _⟩ := TT.out.cells
      go_wp2_with fail
      go_region_held3 (fun W' => (World.cell? W' ⟨(w.heap.size), 0, none⟩ = some (.bool true) ∧ World.cell? W' ⟨(w.heap.size), 1, none⟩ = some (.slice A1 (R n1).length c1) ∧ World.cell? W' ⟨(w.heap.size), 2, none⟩ = some (.slice A2 (R d1).length c2) ∧ Hid (GvR w W' (w.heap.size) (w.heap.size + 1) 37 true A1 c1 n1 A2 c2 d1)))
        (with_reducible (first | assumption | exact TT.out.drew.cells | exact GvR.next (by assumption) (by assumption) | exact GvR.nextS (by assumption)))
        (first
         | (go_at_call 73
            refine (rNatOf1 _).mono ?_
            rintro e wn ⟨An, cn, rfl, rn, bn⟩)
         | (go_at_call 74
            refine (Calls.parts (rMake _ (k + 1) 1 _ _ _ _ _ ((RA.out.below (Below.refl _ _).drew).below bn) rn (by omega) (Nat.le_trans LK1.out (by omega)) L1.out)).mono ?_
            rw [HQ.out]
            rintro e we ⟨t3, B3, m3, e3, B3', m3', e3', rfl, i3, be⟩
            have hh := (GvR.of (by assumption)).below be
            obtain ⟨x, y, z, hx, hy, hz, k1, k2, k3⟩ := hh.res.cells))
      obtain ⟨q0, q1, q2, hs, hb⟩ := IsQ.stored i3.out hh.res hh.bel hh.n3
      have Q := Lib.hid (And.intro q0 (And.intro q1 q2))
      have HS := Lib.hid hs
      have HBB := Lib.hid hb
      clear q0 q1 q2 hs hb
      go_wp2
      obtain ⟨q0, q1, q2⟩ := Q.out
      refine bodyPost_ret (v := .agg #[.bool t3, .slice B3 m3 e3, .slice B3' m3' e3']) (by simp [results, Tryd.results101, go_sem, q0, q1, q2]) rfl ?_
      exact ⟨_, _, _, _, _, _, _, rfl, HS, HBB.out⟩
theorem R_two_pow (p : Nat) : (R (2 ^ p)).length ≤ p + 1 := by
  rw [R, dig_length_le B16_two]
  exact Nat.lt_of_lt_of_le (Nat.pow_lt_pow_right (by omega) (Nat.lt_succ_self p)) (Nat.pow_le_pow_left B16_two _)
set_option maxHeartbeats 2000000 in
set_option maxRecDepth 100000 in
theorem rScaledUp (s1 : Bool) (n1 d1 : Nat) (p : Nat) (w : World) (A1 A2 : Option Addr) (c1 c2 : Nat) (h1 : Rd w A1 c1 (R n1)) (h2 : Rd w A2 c2 (R d1)) (l1 : (R n1).length ≤ 400000) (l2 : (R d1).length ≤ 400000) (hd : d1 ≠ 0) (lp : p ≤ 1000000) (q : Rat) (hq : mkRat (sg s1 (n1 * 2 ^ p)) d1 = q) :
    Calls Tryd.prog 127 #[.agg #[.bool s1, .slice A1 (R n1).length c1, .slice A2 (R d1).length c2], .int .i64 (p : Int)] w fun e w' => ∃ s B1 m1 e1 B2 m2 e2, e = .returned (.agg #[.bool s, .slice B1 m1 e1, .slice B2 m2 e2]) ∧ Hid (IsQ w' (.agg #[.bool s, .slice B1 m1 e1, .slice B2 m2 e2]) q) ∧ Below w.heap.size w w' := by
  have T0 := Lib.hid (GvR.start (s1 := s1) (t := 37) h1 h2)
  have Z := Lib.hid hd
  have Z2 := Lib.hid (Nat.mul_ne_zero hd (Nat.ne_of_gt (Nat.two_pow_pos p)))
  have HQ := Lib.hid hq
  have LS := Lib.hid (Nat.le_trans (R_mul_length n1 (2 ^ p)) (by have := R_two_pow p; omega : _ ≤ 2000000))
  have hd2 : decide ((p : Int) < 0) = false := by simp
  have E3 := Lib.hid (wrap_i64 (p : Int) (by omega) (by omega))
  clear h1 h2 hd hq
  go_enter Tryd.func127, Tryd.ntmps127
  go_wp2_with fail
  go_region_held3 (fun W' => (World.cell? W' ⟨(w.heap.size), 0, none⟩ = some (.bool s1) ∧ World.cell? W' ⟨(w.heap.size), 1, none⟩ = some (.slice A1 (R n1).length c1) ∧ World.cell? W' ⟨(w.heap.size), 2, none⟩ = some (.slice A2 (R d1).length c2) ∧ Hid (GvR w W' (w.heap.size) (w.heap.size + 1) 37 s1 A1 c1 n1 A2 c2 d1)))
    (with_reducible (first | assumption | exact T0.out.drew.cells | exact GvR.next (by assumption) (by assumption) | exact GvR.nextS (by assumption)))
    (first
       | (go_at_call 132
          refine (rShl n1 p _ _ _ (GvR.of (by assumption)).f.r1 (by omega) (by omega)).mono ?_
          rintro e ws ⟨As, cs, rfl, rs, bs⟩)
       | (go_at_call 72
          refine (rDen _ _ _ _ _ _ _ _ (GvR.of (by assumption)).f.r2 Z.out).mono ?_
          rintro e wc ⟨Ac, cc, rfl, rc, bc⟩)
       | (go_at_call 74
          refine (Calls.parts (rMake _ _ _ _ _ _ _ _ (rs.below bc) rc Z.out LS.out (by omega))).mono ?_
          rw [HQ.out]
          rintro e we ⟨t3, B3, m3, e3, B3', m3', e3', rfl, i3, be⟩
          have hh := (GvR.of (by assumption)).below be
          obtain ⟨x, y, z, hx, hy, hz, k1, k2, k3⟩ := hh.res.cells))
  obtain ⟨q0, q1, q2, hs, hb⟩ := IsQ.stored i3.out hh.res hh.bel hh.n3
  have Q := Lib.hid (And.intro q0 (And.intro q1 q2))
  have HS := Lib.hid hs
  have HBB := Lib.hid hb
  clear q0 q1 q2 hs hb
  go_wp2
  obtain ⟨q0, q1, q2⟩ := Q.out
  refine bodyPost_ret (v := .agg #[.bool t3, .slice B3 m3 e3, .slice B3' m3' e3']) (by simp [results, Tryd.results127, go_sem, q0, q1, q2]) rfl ?_
  exact ⟨_, _, _, _, _, _, _, rfl, HS, HBB.out⟩
set_option maxHeartbeats 2000000 in
set_option maxRecDepth 100000 in
theorem rScaledDn (s1 : Bool) (n1 d1 : Nat) (p : Nat) (w : World) (A1 A2 : Option Addr) (c1 c2 : Nat) (h1 : Rd w A1 c1 (R n1)) (h2 : Rd w A2 c2 (R d1)) (l1 : (R n1).length ≤ 400000) (l2 : (R d1).length ≤ 400000) (hd : d1 ≠ 0) (lp : p ≤ 1000000) (p0 : 0 < p) (q : Rat) (hq : mkRat (sg s1 n1) (d1 * 2 ^ p) = q) :
    Calls Tryd.prog 127 #[.agg #[.bool s1, .slice A1 (R n1).length c1, .slice A2 (R d1).length c2], .int .i64 (-(p : Int))] w fun e w' => ∃ s B1 m1 e1 B2 m2 e2, e = .returned (.agg #[.bool s, .slice B1 m1 e1, .slice B2 m2 e2]) ∧ Hid (IsQ w' (.agg #[.bool s, .slice B1 m1 e1, .slice B2 m2 e2]) q) ∧ Below w.heap.size w w' := by
  have T0 := Lib.hid (GvR.start (s1 := s1) (t := 37) h1 h2)
  have Z := Lib.hid hd
  have Z2 := Lib.hid (Nat.mul_ne_zero hd (Nat.ne_of_gt (Nat.two_pow_pos p)))
  have HQ := Lib.hid hq
  have LS := Lib.hid (Nat.le_trans (R_mul_length d1 (2 ^ p)) (by have := R_two_pow p; omega : _ ≤ 2000000))
  have hd2 : decide ((-(p : Int)) < 0) = true := by simp; omega
  have E3 := Lib.hid (wrap_i64 (p : Int) (by omega) (by omega))
  clear h1 h2 hd hq
  go_enter Tryd.func127, Tryd.ntmps127
  go_wp2_with fail
  go_region_held3 (fun W' => (World.cell? W' ⟨(w.heap.size), 0, none⟩ = some (.bool s1) ∧ World.cell? W' ⟨(w.heap.size), 1, none⟩ = some (.slice A1 (R n1).length c1) ∧ World.cell? W' ⟨(w.heap.size), 2, none⟩ = some (.slice A2 (R d1).length c2) ∧ Hid (GvR w W' (w.heap.size) (w.heap.size + 1) 37 s1 A1 c1 n1 A2 c2 d1)))
    (with_reducible (first | assumption | exact T0.out.drew.cells | exact GvR.next (by assumption) (by assumption) | exact GvR.nextS (by assumption)))
    (first
       | (go_at_call 72
          refine (rDen _ _ _ _ _ _ _ _ (GvR.of (by assumption)).f.r2 Z.out).mono ?_
          rintro e wc ⟨Ac, cc, rfl, rc, bc⟩)
       | (go_at_call 132
          rw [E3.out]
          refine (rShl d1 p _ _ _ rc (by omega) (by omega)).mono ?_
          rintro e ws ⟨As, cs, rfl, rs, bs⟩)
       | (go_at_call 74
          refine (Calls.parts (rMake _ _ _ _ _ _ _ _ (GvR.of (by assumption)).f.r1 rs Z2.out (by omega) LS.out)).mono ?_
          rw [HQ.out]
          rintro e we ⟨t3, B3, m3, e3, B3', m3', e3', rfl, i3, be⟩
          have hh := (GvR.of (by assumption)).below be
          obtain ⟨x, y, z, hx, hy, hz, k1, k2, k3⟩ := hh.res.cells))
  obtain ⟨q0, q1, q2, hs, hb⟩ := IsQ.stored i3.out hh.res hh.bel hh.n3
  have Q := Lib.hid (And.intro q0 (And.intro q1 q2))
  have HS := Lib.hid hs
  have HBB := Lib.hid hb
  clear q0 q1 q2 hs hb
  go_wp2
  obtain ⟨q0, q1, q2⟩ := Q.out
  refine bodyPost_ret (v := .agg #[.bool t3, .slice B3 m3 e3, .slice B3' m3' e3']) (by simp [results, Tryd.results127, go_sem, q0, q1, q2]) rfl ?_
  exact ⟨_, _, _, _, _, _, _, rfl, HS, HBB.out⟩
end Go.Proofs.YtfmhplcpejmkhaaDoor

namespace Go.Proofs.YtfmhplcpejmkhaaDoor
open Go.RowKit Dig
set_option linter.unusedVariables false
set_option linter.unusedSimpArgs false
def gridQ (a : Rat) (p : Nat) (up : Bool) : Rat := mkRat (sg (ng a) (gridN (ng a) a.num.natAbs a.den p up)) (2 ^ p)
def upQ (a : Rat) (p : Nat) : Rat := mkRat (sg (ng a) (a.num.natAbs * 2 ^ p)) a.den
def dnQ (a : Rat) (p : Nat) : Rat := mkRat (sg (ng a) a.num.natAbs) (a.den * 2 ^ p)
theorem gridN_scale (s : Bool) (g n d : Nat) (up : Bool) (hg : 0 < g) : gridN s (g * n) (g * d) 0 up = gridN s n d 0 up := by
  unfold gridN
  simp only [Nat.pow_zero, Nat.mul_one]
  rw [Nat.mul_div_mul_left _ _ hg, Nat.mul_mod_mul_left]
  congr 1
  have : (g * (n % d) ≠ 0) ↔ (n % d ≠ 0) := by
    constructor
    · intro h h0; exact h (by rw [h0, Nat.mul_zero])
    · intro h h0; rcases Nat.mul_eq_zero.1 h0 with h1 | h1 <;> omega
  simp only [this]
theorem gridN_pow (s : Bool) (n d p : Nat) (up : Bool) : gridN s (n * 2 ^ p) d 0 up = gridN s n d p up := by
  unfold gridN
  simp
theorem gridN_zero (s : Bool) (d : Nat) (up : Bool) : gridN s 0 d 0 up = 0 := by
  unfold gridN
  simp
theorem grid_mk (s : Bool) (N D : Nat) (up : Bool) (hD : D ≠ 0) : gridQ (mkRat (sg s N) D) 0 up = mkRat (sg s (gridN s N D 0 up)) 1 := by
  unfold gridQ
  rw [mk_abs s N hD, mk_den s N hD, Nat.pow_zero]
  have hg : 0 < Nat.gcd N D := Nat.gcd_pos_of_pos_right _ (Nat.pos_of_ne_zero hD)
  by_cases hN : N = 0
  · subst hN
    rw [Nat.zero_div, gridN_zero, gridN_zero, sg_zero, sg_zero]
  · rw [mk_sign s hD hN]
    have e1 : gridN s N D 0 up = gridN s (Nat.gcd N D * (N / Nat.gcd N D)) (Nat.gcd N D * (D / Nat.gcd N D)) 0 up := by
      rw [Nat.mul_div_cancel' (Nat.gcd_dvd_left N D), Nat.mul_div_cancel' (Nat.gcd_dvd_right N D)]
    rw [e1, gridN_scale _ _ _ _ _ hg]
theorem top_neg (a : Rat) : -(gridQ (-a) 0 false) = gridQ a 0 true := by
  unfold gridQ
  rw [neg_abs, neg_den, ng_neg, Rat.neg_mkRat]
  by_cases h : a.num.natAbs = 0
  · rw [h, gridN_zero, gridN_zero, sg_zero, sg_zero]
    simp
  · have e : (!ng a && !decide (a.num.natAbs = 0)) = !ng a := by simp [h]
    rw [e]
    have e2 : gridN (!ng a) a.num.natAbs a.den 0 false = gridN (ng a) a.num.natAbs a.den 0 true := by
      unfold gridN
      cases ng a <;> simp
    rw [e2]
    congr 1
    unfold sg
    cases ng a <;> simp
theorem down_up (a : Rat) (p : Nat) (up : Bool) : dnQ (gridQ (upQ a p) 0 up) p = gridQ a p up := by
  unfold upQ
  rw [grid_mk _ _ _ _ a.den_nz, gridN_pow]
  unfold dnQ
  rw [sg_ng]
  rw [mk_mul_den, Rat.mkRat_self, Rat.mkRat_mul_mkRat, Int.mul_one, Nat.one_mul]
  rfl
theorem qBottom (a : Rat) (w : World) (v : Value) (h : IsQ w v a) (k : Rq 400000 a) (q : Rat) (hq : gridQ a 0 false = q) :
    Calls Tryd.prog 101 #[v] w fun e w' => ∃ s B1 m1 e1 B2 m2 e2, e = .returned (.agg #[.bool s, .slice B1 m1 e1, .slice B2 m2 e2]) ∧ Hid (IsQ w' (.agg #[.bool s, .slice B1 m1 e1, .slice B2 m2 e2]) q) ∧ Below w.heap.size w w' := by
  obtain ⟨A1, c1, A2, c2, rfl, r1, r2⟩ := h
  exact rBottom _ _ _ w _ _ _ _ r1 r2 k.1 k.2 a.den_nz q (by rw [← hq, gridQ, Nat.pow_zero])
theorem qUp (a : Rat) (p : Nat) (lp : p ≤ 1000000) (w : World) (v : Value) (h : IsQ w v a) (k : Rq 400000 a) (q : Rat) (hq : upQ a p = q) :
    Calls Tryd.prog 127 #[v, .int .i64 p] w fun e w' => ∃ s B1 m1 e1 B2 m2 e2, e = .returned (.agg #[.bool s, .slice B1 m1 e1, .slice B2 m2 e2]) ∧ Hid (IsQ w' (.agg #[.bool s, .slice B1 m1 e1, .slice B2 m2 e2]) q) ∧ Below w.heap.size w w' := by
  obtain ⟨A1, c1, A2, c2, rfl, r1, r2⟩ := h
  exact rScaledUp _ _ _ p w _ _ _ _ r1 r2 k.1 k.2 a.den_nz lp q hq
theorem qDn (a : Rat) (p : Nat) (lp : p ≤ 1000000) (w : World) (v : Value) (h : IsQ w v a) (k : Rq 400000 a) (q : Rat) (hq : dnQ a p = q) :
    Calls Tryd.prog 127 #[v, .int .i64 (-(p : Int))] w fun e w' => ∃ s B1 m1 e1 B2 m2 e2, e = .returned (.agg #[.bool s, .slice B1 m1 e1, .slice B2 m2 e2]) ∧ Hid (IsQ w' (.agg #[.bool s, .slice B1 m1 e1, .slice B2 m2 e2]) q) ∧ Below w.heap.size w w' := by
  rcases Nat.eq_zero_or_pos p with rfl | hp
  · have := qUp a 0 lp w v h k q (by rw [← hq]; unfold upQ dnQ; simp)
    simpa using this
  · obtain ⟨A1, c1, A2, c2, rfl, r1, r2⟩ := h
    exact rScaledDn _ _ _ p w _ _ _ _ r1 r2 k.1 k.2 a.den_nz lp hp q hq
theorem grid_Rq {a : Rat} {k : Nat} (h : Rq k a) (p : Nat) (up : Bool) : Rq (k + p + 3) (gridQ a p up) := by
  have h1 := R_mul_length a.num.natAbs (2 ^ p)
  have h2 := R_two_pow p
  have h3 := h.1
  refine mk_Rq (Nat.ne_of_gt (Nat.two_pow_pos p)) ?_ (Nat.le_trans h2 (by omega))
  rw [sg_abs]
  exact Nat.le_trans (grid_len _ _ _ _ _ (k := k + p + 1) (by omega)) (by omega)
theorem up_Rq {a : Rat} {k : Nat} (h : Rq k a) (p : Nat) : Rq (k + p + 3) (upQ a p) := by
  have h1 := R_mul_length a.num.natAbs (2 ^ p)
  have h2 := R_two_pow p
  have h3 := h.1
  refine mk_Rq a.den_nz ?_ (Nat.le_trans h.2 (by omega))
  rw [sg_abs]
  omega
set_option maxHeartbeats 2000000 in
set_option maxRecDepth 100000 in
theorem rTop (s1 : Bool) (n1 d1 : Nat) (w : World) (A1 A2 : Option Addr) (c1 c2 : Nat) (h1 : Rd w A1 c1 (R n1)) (h2 : Rd w A2 c2 (R d1)) (a b q : Rat) (ha : IsQ w (.agg #[.bool s1, .slice A1 (R n1).length c1, .slice A2 (R d1).length c2]) a) (k : Rq 400000 a) (hb : gridQ (-a) 0 false = b) (hq : -b = q) :
    Calls Tryd.prog 102 #[.agg #[.bool s1, .slice A1 (R n1).length c1, .slice A2 (R d1).length c2]] w fun e w' => ∃ s B1 m1 e1 B2 m2 e2, e = .returned (.agg #[.bool s, .slice B1 m1 e1, .slice B2 m2 e2]) ∧ Hid (IsQ w' (.agg #[.bool s, .slice B1 m1 e1, .slice B2 m2 e2]) q) ∧ Below w.heap.size w w' := by
  obtain ⟨M, hM, k1, k2, bM⟩ := start1 w (.bool s1) (.slice A1 (R n1).length c1) (.slice A2 (R d1).length c2) (.bool false) (.slice none 0 0) (.slice none 0 0) 37 37
  have HX := Lib.hid k1
  have HA := Lib.hid (ha.below bM)
  have TR := Lib.hid (show Rs w M (w.heap.size + 1) from ⟨⟨_, _, _, NI.bool _, NI.slice _ _ _, NI.slice _ _ _, k2⟩, bM, by omega⟩)
  have KN := Lib.hid k.neg
  obtain ⟨n, hn⟩ : ∃ n, -a = n := ⟨_, rfl⟩
  have HN := Lib.hid hn
  have HQ := Lib.hid hq
  rw [hn] at hb KN
  have HB := Lib.hid hb
  clear k1 k2 h1 h2 bM ha hn hq hb
  go_enter Tryd.func102, Tryd.ntmps102
  go_upto_region 1 with (fail)
  rw [← hM]
  clear hM
  obtain ⟨x1, x2, x3, _, _, _⟩ := HX.out.cells
  go_wp2_with fail
  refine (Calls.parts (qOpp a _ _ HA.out)).mono ?_
  rw [HN.out]
  rintro e wa ⟨t3, B3, m3, e3, B3', m3', e3', rfl, i3, ba⟩
  replace TR := Rs.next TR ba
  clear x1 x2 x3 ba
  go_wp2_with fail
  refine (qBottom n _ _ i3.out KN.out b HB.out).mono ?_
  rintro e wb ⟨t4, B4, m4, e4, B4', m4', e4', rfl, i4, bb⟩
  replace TR := Rs.next TR bb
  clear bb
  go_wp2_with fail
  refine (Calls.parts (qOpp b _ _ i4.out)).mono ?_
  rw [HQ.out]
  rintro e wc ⟨t5, B5, m5, e5, B5', m5', e5', rfl, i5, bc⟩
  replace TR := Rs.next TR bc
  clear bc
  obtain ⟨z1, z2, z3, hz1, hz2, hz3, k1, k2, k3⟩ := TR.out.res.cells
  go_wp2
  obtain ⟨q0, q1, q2, hs, hb⟩ := IsQ.stored i5.out TR.out.res TR.out.bel TR.out.n3
  refine bodyPost_ret (v := .agg #[.bool t5, .slice B5 m5 e5, .slice B5' m5' e5']) (by simp [results, Tryd.results102, go_sem, q0, q1, q2]) rfl ?_
  exact ⟨_, _, _, _, _, _, _, rfl, Lib.hid hs, hb⟩
theorem qTop (a : Rat) (w : World) (v : Value) (h : IsQ w v a) (k : Rq 400000 a) (q : Rat) (hq : gridQ a 0 true = q) :
    Calls Tryd.prog 102 #[v] w fun e w' => ∃ s B1 m1 e1 B2 m2 e2, e = .returned (.agg #[.bool s, .slice B1 m1 e1, .slice B2 m2 e2]) ∧ Hid (IsQ w' (.agg #[.bool s, .slice B1 m1 e1, .slice B2 m2 e2]) q) ∧ Below w.heap.size w w' := by
  have h0 := h
  obtain ⟨A1, c1, A2, c2, rfl, r1, r2⟩ := h
  exact rTop _ _ _ w _ _ _ _ r1 r2 a _ q h0 k rfl (by rw [top_neg, hq])
set_option maxHeartbeats 2000000 in
set_option maxRecDepth 100000 in
theorem rGridDown (p : Nat) (lp : p ≤ 1000) (s1 : Bool) (n1 d1 : Nat) (w : World) (A1 A2 : Option Addr) (c1 c2 : Nat) (a x y q : Rat) (ha : IsQ w (.agg #[.bool s1, .slice A1 (R n1).length c1, .slice A2 (R d1).length c2]) a) (ka : Rq 400000 a) (hx : upQ a p = x) (kx : Rq 400000 x) (hy : gridQ x 0 false = y) (ky : Rq 400000 y) (hq : dnQ y p = q) :
    Calls Tryd.prog 105 #[.agg #[.bool s1, .slice A1 (R n1).length c1, .slice A2 (R d1).length c2], .int .i64 p] w fun e w' => ∃ s B1 m1 e1 B2 m2 e2, e = .returned (.agg #[.bool s, .slice B1 m1 e1, .slice B2 m2 e2]) ∧ Hid (IsQ w' (.agg #[.bool s, .slice B1 m1 e1, .slice B2 m2 e2]) q) ∧ Below w.heap.size w w' := by
  obtain ⟨M, hM, k1, k2, bM⟩ := start1 w (.bool s1) (.slice A1 (R n1).length c1) (.slice A2 (R d1).length c2) (.bool false) (.slice none 0 0) (.slice none 0 0) 37 37
  have HX := Lib.hid k1
  have HA := Lib.hid (ha.below bM)
  have TR := Lib.hid (show Rs w M (w.heap.size + 1) from ⟨⟨_, _, _, NI.bool _, NI.slice _ _ _, NI.slice _ _ _, k2⟩, bM, by omega⟩)
  have H1 := Lib.hid hx
  have H2 := Lib.hid hy
  have H3 := Lib.hid hq
  clear k1 k2 bM ha hx hy hq
  go_enter Tryd.func105, Tryd.ntmps105
  go_upto_region 1 with (fail)
  rw [← hM]
  clear hM
  obtain ⟨x1, x2, x3, _, _, _⟩ := HX.out.cells
  go_wp2_with fail
  refine (qUp a p (by omega) _ _ HA.out ka x H1.out).mono ?_
  rintro e wa ⟨t3, B3, m3, e3, B3', m3', e3', rfl, i3, ba⟩
  replace TR := Rs.next TR ba
  clear x1 x2 x3 ba
  go_wp2_with fail
  refine (qBottom x _ _ i3.out kx y H2.out).mono ?_
  rintro e wb ⟨t4, B4, m4, e4, B4', m4', e4', rfl, i4, bb⟩
  replace TR := Rs.next TR bb
  clear bb
  have e9 : wrap64 (-(p : Int)) = -(p : Int) := by unfold wrap64; omega
  have e8 : IntKind.i64.wrap (-(p : Int)) = -(p : Int) := wrap_i64 _ (by omega) (by omega)
  go_wp2_with fail
  refine (qDn y p (by omega) _ _ i4.out ky q H3.out).mono ?_
  rintro e wc ⟨t5, B5, m5, e5, B5', m5', e5', rfl, i5, bc⟩
  replace TR := Rs.next TR bc
  clear bc
  obtain ⟨z1, z2, z3, hz1, hz2, hz3, k1, k2, k3⟩ := TR.out.res.cells
  go_wp2
  obtain ⟨q0, q1, q2, hs, hb⟩ := IsQ.stored i5.out TR.out.res TR.out.bel TR.out.n3
  refine bodyPost_ret (v := .agg #[.bool t5, .slice B5 m5 e5, .slice B5' m5' e5']) (by simp [results, Tryd.results105, go_sem, q0, q1, q2]) rfl ?_
  exact ⟨_, _, _, _, _, _, _, rfl, Lib.hid hs, hb⟩
theorem qGridDown (a : Rat) (p : Nat) (lp : p ≤ 1000) (w : World) (v : Value) (h : IsQ w v a) (k : Rq 100000 a) (q : Rat) (hq : gridQ a p false = q) :
    Calls Tryd.prog 105 #[v, .int .i64 p] w fun e w' => ∃ s B1 m1 e1 B2 m2 e2, e = .returned (.agg #[.bool s, .slice B1 m1 e1, .slice B2 m2 e2]) ∧ Hid (IsQ w' (.agg #[.bool s, .slice B1 m1 e1, .slice B2 m2 e2]) q) ∧ Below w.heap.size w w' := by
  have h0 := h
  obtain ⟨A1, c1, A2, c2, rfl, r1, r2⟩ := h
  exact rGridDown p lp _ _ _ w _ _ _ _ a _ _ q h0 (k.le (by omega)) rfl ((up_Rq k p).le (by omega)) rfl ((grid_Rq (up_Rq k p) 0 false).le (by omega)) (by rw [down_up, hq])
set_option maxHeartbeats 2000000 in
set_option maxRecDepth 100000 in
theorem rGridUp (p : Nat) (lp : p ≤ 1000) (s1 : Bool) (n1 d1 : Nat) (w : World) (A1 A2 : Option Addr) (c1 c2 : Nat) (a x y q : Rat) (ha : IsQ w (.agg #[.bool s1, .slice A1 (R n1).length c1, .slice A2 (R d1).length c2]) a) (ka : Rq 400000 a) (hx : upQ a p = x) (kx : Rq 400000 x) (hy : gridQ x 0 true = y) (ky : Rq 400000 y) (hq : dnQ y p = q) :
    Calls Tryd.prog 104 #[.agg #[.bool s1, .slice A1 (R n1).length c1, .slice A2 (R d1).length c2], .int .i64 p] w fun e w' => ∃ s B1 m1 e1 B2 m2 e2, e = .returned (.agg #[.bool s, .slice B1 m1 e1, .slice B2 m2 e2]) ∧ Hid (IsQ w' (.agg #[.bool s, .slice B1 m1 e1, .slice B2 m2 e2]) q) ∧ Below w.heap.size w w' := by
  obtain ⟨M, hM, k1, k2, bM⟩ := start1 w (.bool s1) (.slice A1 (R n1).length c1) (.slice A2 (R d1).length c2) (.bool false) (.slice none 0 0) (.slice none 0 0) 37 37
  have HX := Lib.hid k1
  have HA := Lib.hid (ha.below bM)
  have TR := Lib.hid (show Rs w M (w.heap.size + 1) from ⟨⟨_, _, _, NI.bool _, NI.slice _ _ _, NI.slice _ _ _, k2⟩, bM, by omega⟩)
  have H1 := Lib.hid hx
  have H2 := Lib.hid hy
  have H3 := Lib.hid hq
  clear k1 k2 bM ha hx hy hq
  go_enter Tryd.func104, Tryd.ntmps104
  go_upto_region 1 with (fail)
  rw [← hM]
  clear hM
  obtain ⟨x1, x2, x3, _, _, _⟩ := HX.out.cells
  go_wp2_with fail
  refine (qUp a p (by omega) _ _ HA.out ka x H1.out).mono ?_
  rintro e wa ⟨t3, B3, m3, e3, B3', m3', e3', rfl, i3, ba⟩
  replace TR := Rs.next TR ba
  clear x1 x2 x3 ba
  go_wp2_with fail
  refine (qTop x _ _ i3.out kx y H2.out).mono ?_
  rintro e wb ⟨t4, B4, m4, e4, B4', m4', e4', rfl, i4, bb⟩
  replace TR := Rs.next TR bb
  clear bb
  have e9 : wrap64 (-(p : Int)) = -(p : Int) := by unfold wrap64; omega
  have e8 : IntKind.i64.wrap (-(p : Int)) = -(p : Int) := wrap_i64 _ (by omega) (by omega)
  go_wp2_with fail
  refine (qDn y p (by omega) _ _ i4.out ky q H3.out).mono ?_
  rintro e wc ⟨t5, B5, m5, e5, B5', m5', e5', rfl, i5, bc⟩
  replace TR := Rs.next TR bc
  clear bc
  obtain ⟨z1, z2, z3, hz1, hz2, hz3, k1, k2, k3⟩ := TR.out.res.cells
  go_wp2
  obtain ⟨q0, q1, q2, hs, hb⟩ := IsQ.stored i5.out TR.out.res TR.out.bel TR.out.n3
  refine bodyPost_ret (v := .agg #[.bool t5, .slice B5 m5 e5, .slice B5' m5' e5']) (by simp [results, Tryd.results104, go_sem, q0, q1, q2]) rfl ?_
  exact ⟨_, _, _, _, _, _, _, rfl, Lib.hid hs, hb⟩
theorem qGridUp (a : Rat) (p : Nat) (lp : p ≤ 1000) (w : World) (v : Value) (h : IsQ w v a) (k : Rq 100000 a) (q : Rat) (hq : gridQ a p true = q) :
    Calls Tryd.prog 104 #[v, .int .i64 p] w fun e w' => ∃ s B1 m1 e1 B2 m2 e2, e = .returned (.agg #[.bool s, .slice B1 m1 e1, .slice B2 m2 e2]) ∧ Hid (IsQ w' (.agg #[.bool s, .slice B1 m1 e1, .slice B2 m2 e2]) q) ∧ Below w.heap.size w w' := by
  have h0 := h
  obtain ⟨A1, c1, A2, c2, rfl, r1, r2⟩ := h
  exact rGridUp p lp _ _ _ w _ _ _ _ a _ _ q h0 (k.le (by omega)) rfl ((up_Rq k p).le (by omega)) rfl ((grid_Rq (up_Rq k p) 0 true).le (by omega)) (by rw [down_up, hq])
end Go.Proofs.YtfmhplcpejmkhaaDoor

namespace Go.Proofs.YtfmhplcpejmkhaaDoor
open Go.RowKit Dig
set_option linter.unusedVariables false
set_option linter.unusedSimpArgs false
/-- the absolute value -/
def absQ (a : Rat) : Rat := if ng a = true then -a else a
theorem absQ_facts (a : Rat) : ng (absQ a) = false ∧ (absQ a).num.natAbs = a.num.natAbs ∧ (absQ a).den = a.den := by
  unfold absQ
  by_cases h : ng a = true
  · rw [if_pos h, ng_neg, neg_abs, neg_den, h]
    exact ⟨rfl, rfl, rfl⟩
  · rw [if_neg h]
    exact ⟨by simpa using h, rfl, rfl⟩
theorem fCanon (a : Rat) (w : World) (v1 : Value) (h1 : IsF w v1 a) : Calls Tryd.prog 76 #[v1] w fun e w' => ∃ u, e = .returned u ∧ IsF w' u a ∧ Below w.heap.size w w' := by
  obtain ⟨A1, c1, A2, c2, rfl, r1, r2⟩ := h1
  exact fracSame _ _ _ w _ _ _ _ r1 r2
set_option maxHeartbeats 1000000 in
set_option maxRecDepth 100000 in
theorem nCanon (s1 : Bool) (N1 D1 : Nat) (w : World) (v1 : Value) (h1 : RawV w v1 s1 N1 D1) (hT : Tab w) :
    Calls Tryd.prog 27 #[v1] w (OutPost w (if largeB s1 N1 D1 then .err 1 else give (ratOf s1 N1 D1))) := by
  have H1 := Lib.hid h1
  have HT := Lib.hid hT
  obtain ⟨A1, n1, c1, A1', n1', c1', rfl⟩ := h1.shape
  clear h1 hT
  obtain ⟨M, hM, k1, k3, bM⟩ := start1 w (.bool s1) (.slice A1 n1 c1) (.slice A1' n1' c1') (.bool false) (.slice none 0 0) (.slice none 0 0) 24 24
  have HX := Lib.hid k1
  have HR := Lib.hid (show Res M (w.heap.size + 1) 24 from ⟨_, _, _, NI.bool _, NI.slice _ _ _, NI.slice _ _ _, k3⟩)
  have BM := Lib.hid bM
  replace H1 := Lib.hid (H1.out.below bM)
  replace HT := Lib.hid (HT.out.below bM)
  have C := Lib.hid (nOne 76 (ratOf s1 N1 D1) s1 N1 D1 M _ H1.out HT.out (fun _ _ => Tryd.call76 ..) (fun w u1 i1 f1 t => fCanon _ w u1 i1))
  obtain ⟨o, ho⟩ : ∃ o, (if largeB s1 N1 D1 = true then Out.err 1 else give (ratOf s1 N1 D1)) = o := ⟨_, rfl⟩
  rw [ho] at C
  rw [ho]
  clear k1 k3 bM ho
  go_enter Tryd.func27, Tryd.ntmps27
  go_upto_region 1 with (fail)
  rw [← hM]
  clear hM
  obtain ⟨x1, x2, x3, _, _, _⟩ := HX.out.cells
  go_wp2_with fail
  refine C.out.mono ?_
  rintro e we ⟨s9, A9, n9, c9, A9', n9', c9', k9, rfl, h9, b9⟩
  replace HR := Lib.hid (HR.out.below b9)
  have BE := Lib.hid (below_step BM.out BM.out.size b9)
  obtain ⟨q0, q1, q2, hs, hb⟩ := OutIs.stored h9 HR.out BE.out (by omega)
  have Q := Lib.hid (And.intro q0 (And.intro q1 q2))
  have HS := Lib.hid hs
  have HB := Lib.hid hb
  clear b9 h9 q0 q1 q2 hs hb x1 x2 x3
  obtain ⟨r1, r2, r3, hr1, hr2, hr3, _, _, _⟩ := HR.out.cells
  go_wp2_with fail
  obtain ⟨q0, q1, q2⟩ := Q.out
  refine bodyPost_ret (v := .tuple #[.agg #[.bool s9, .slice A9 n9 c9, .slice A9' n9' c9'], .int .i64 k9]) (by simp [results, Tryd.results27, go_sem, q0, q1, q2]) rfl ?_
  exact ⟨_, _, _, _, _, _, _, _, rfl, HS.out, HB.out⟩
set_option maxHeartbeats 1000000 in
set_option maxRecDepth 100000 in
theorem nNeg (s1 : Bool) (N1 D1 : Nat) (w : World) (v1 : Value) (h1 : RawV w v1 s1 N1 D1) (hT : Tab w) :
    Calls Tryd.prog 38 #[v1] w (OutPost w (if largeB s1 N1 D1 then .err 1 else give (-(ratOf s1 N1 D1)))) := by
  have H1 := Lib.hid h1
  have HT := Lib.hid hT
  obtain ⟨A1, n1, c1, A1', n1', c1', rfl⟩ := h1.shape
  clear h1 hT
  obtain ⟨M, hM, k1, k3, bM⟩ := start1 w (.bool s1) (.slice A1 n1 c1) (.slice A1' n1' c1') (.bool false) (.slice none 0 0) (.slice none 0 0) 24 24
  have HX := Lib.hid k1
  have HR := Lib.hid (show Res M (w.heap.size + 1) 24 from ⟨_, _, _, NI.bool _, NI.slice _ _ _, NI.slice _ _ _, k3⟩)
  have BM := Lib.hid bM
  replace H1 := Lib.hid (H1.out.below bM)
  replace HT := Lib.hid (HT.out.below bM)
  have C := Lib.hid (nOne 64 (-(ratOf s1 N1 D1)) s1 N1 D1 M _ H1.out HT.out (fun _ _ => Tryd.call64 ..) (fun w u1 i1 f1 t => fNeg _ w u1 i1))
  obtain ⟨o, ho⟩ : ∃ o, (if largeB s1 N1 D1 = true then Out.err 1 else give (-(ratOf s1 N1 D1))) = o := ⟨_, rfl⟩
  rw [ho] at C
  rw [ho]
  clear k1 k3 bM ho
  go_enter Tryd.func38, Tryd.ntmps38
  go_upto_region 1 with (fail)
  rw [← hM]
  clear hM
  obtain ⟨x1, x2, x3, _, _, _⟩ := HX.out.cells
  go_wp2_with fail
  refine C.out.mono ?_
  rintro e we ⟨s9, A9, n9, c9, A9', n9', c9', k9, rfl, h9, b9⟩
  replace HR := Lib.hid (HR.out.below b9)
  have BE := Lib.hid (below_step BM.out BM.out.size b9)
  obtain ⟨q0, q1, q2, hs, hb⟩ := OutIs.stored h9 HR.out BE.out (by omega)
  have Q := Lib.hid (And.intro q0 (And.intro q1 q2))
  have HS := Lib.hid hs
  have HB := Lib.hid hb
  clear b9 h9 q0 q1 q2 hs hb x1 x2 x3
  obtain ⟨r1, r2, r3, hr1, hr2, hr3, _, _, _⟩ := HR.out.cells
  go_wp2_with fail
  obtain ⟨q0, q1, q2⟩ := Q.out
  refine bodyPost_ret (v := .tuple #[.agg #[.bool s9, .slice A9 n9 c9, .slice A9' n9' c9'], .int .i64 k9]) (by simp [results, Tryd.results38, go_sem, q0, q1, q2]) rfl ?_
  exact ⟨_, _, _, _, _, _, _, _, rfl, HS.out, HB.out⟩
theorem fAbs (a : Rat) (w : World) (v1 : Value) (h1 : IsF w v1 a) : Calls Tryd.prog 95 #[v1] w fun e w' => ∃ u, e = .returned u ∧ IsF w' u (absQ a) ∧ Below w.heap.size w w' := by
  obtain ⟨A1, c1, A2, c2, rfl, r1, r2⟩ := h1
  refine (fracAbs _ _ _ w _ _ _ _ r1 r2).mono ?_
  rintro e w' ⟨u, rfl, hu, hb⟩
  obtain ⟨e1, e2, e3⟩ := absQ_facts a
  exact ⟨u, rfl, by unfold IsF; rw [e1, e2, e3]; exact hu, hb⟩
set_option maxHeartbeats 1000000 in
set_option maxRecDepth 100000 in
theorem nAbs (s1 : Bool) (N1 D1 : Nat) (w : World) (v1 : Value) (h1 : RawV w v1 s1 N1 D1) (hT : Tab w) :
    Calls Tryd.prog 43 #[v1] w (OutPost w (if largeB s1 N1 D1 then .err 1 else give (absQ (ratOf s1 N1 D1)))) := by
  have H1 := Lib.hid h1
  have HT := Lib.hid hT
  obtain ⟨A1, n1, c1, A1', n1', c1', rfl⟩ := h1.shape
  clear h1 hT
  obtain ⟨M, hM, k1, k3, bM⟩ := start1 w (.bool s1) (.slice A1 n1 c1) (.slice A1' n1' c1') (.bool false) (.slice none 0 0) (.slice none 0 0) 24 24
  have HX := Lib.hid k1
  have HR := Lib.hid (show Res M (w.heap.size + 1) 24 from ⟨_, _, _, NI.bool _, NI.slice _ _ _, NI.slice _ _ _, k3⟩)
  have BM := Lib.hid bM
  replace H1 := Lib.hid (H1.out.below bM)
  replace HT := Lib.hid (HT.out.below bM)
  have C := Lib.hid (nOne 95 (absQ (ratOf s1 N1 D1)) s1 N1 D1 M _ H1.out HT.out (fun _ _ => Tryd.call95 ..) (fun w u1 i1 f1 t => fAbs _ w u1 i1))
  obtain ⟨o, ho⟩ : ∃ o, (if largeB s1 N1 D1 = true then Out.err 1 else give (absQ (ratOf s1 N1 D1))) = o := ⟨_, rfl⟩
  rw [ho] at C
  rw [ho]
  clear k1 k3 bM ho
  go_enter Tryd.func43, Tryd.ntmps43
  go_upto_region 1 with (fail)
  rw [← hM]
  clear hM
  obtain ⟨x1, x2, x3, _, _, _⟩ := HX.out.cells
  go_wp2_with fail
  refine C.out.mono ?_
  rintro e we ⟨s9, A9, n9, c9, A9', n9', c9', k9, rfl, h9, b9⟩
  replace HR := Lib.hid (HR.out.below b9)
  have BE := Lib.hid (below_step BM.out BM.out.size b9)
  obtain ⟨q0, q1, q2, hs, hb⟩ := OutIs.stored h9 HR.out BE.out (by omega)
  have Q := Lib.hid (And.intro q0 (And.intro q1 q2))
  have HS := Lib.hid hs
  have HB := Lib.hid hb
  clear b9 h9 q0 q1 q2 hs hb x1 x2 x3
  obtain ⟨r1, r2, r3, hr1, hr2, hr3, _, _, _⟩ := HR.out.cells
  go_wp2_with fail
  obtain ⟨q0, q1, q2⟩ := Q.out
  refine bodyPost_ret (v := .tuple #[.agg #[.bool s9, .slice A9 n9 c9, .slice A9' n9' c9'], .int .i64 k9]) (by simp [results, Tryd.results43, go_sem, q0, q1, q2]) rfl ?_
  exact ⟨_, _, _, _, _, _, _, _, rfl, HS.out, HB.out⟩
theorem fFloor (a : Rat) (w : World) (v1 : Value) (h1 : IsF w v1 a) (k : Wq 200000 a) (hT : Tab w) : Calls Tryd.prog 98 #[v1] w fun e w' => ∃ u, e = .returned u ∧ IsF w' u (gridQ a 0 false) ∧ Below w.heap.size w w' := by
  obtain ⟨A1, c1, A2, c2, rfl, r1, r2⟩ := h1
  exact fracFloor _ _ _ w _ _ _ _ r1 r2 k.1 k.2 a.den_nz hT _ rfl
set_option maxHeartbeats 1000000 in
set_option maxRecDepth 100000 in
theorem nFloor (s1 : Bool) (N1 D1 : Nat) (w : World) (v1 : Value) (h1 : RawV w v1 s1 N1 D1) (hT : Tab w) :
    Calls Tryd.prog 47 #[v1] w (OutPost w (if largeB s1 N1 D1 then .err 1 else give (gridQ (ratOf s1 N1 D1) 0 false))) := by
  have H1 := Lib.hid h1
  have HT := Lib.hid hT
  obtain ⟨A1, n1, c1, A1', n1', c1', rfl⟩ := h1.shape
  clear h1 hT
  obtain ⟨M, hM, k1, k3, bM⟩ := start1 w (.bool s1) (.slice A1 n1 c1) (.slice A1' n1' c1') (.bool false) (.slice none 0 0) (.slice none 0 0) 24 24
  have HX := Lib.hid k1
  have HR := Lib.hid (show Res M (w.heap.size + 1) 24 from ⟨_, _, _, NI.bool _, NI.slice _ _ _, NI.slice _ _ _, k3⟩)
  have BM := Lib.hid bM
  replace H1 := Lib.hid (H1.out.below bM)
  replace HT := Lib.hid (HT.out.below bM)
  have C := Lib.hid (nOne 98 (gridQ (ratOf s1 N1 D1) 0 false) s1 N1 D1 M _ H1.out HT.out (fun _ _ => Tryd.call98 ..) (fun w u1 i1 f1 t => fFloor _ w u1 i1 (fit_Wq f1 (by omega)) t))
  obtain ⟨o, ho⟩ : ∃ o, (if largeB s1 N1 D1 = true then Out.err 1 else give (gridQ (ratOf s1 N1 D1) 0 false)) = o := ⟨_, rfl⟩
  rw [ho] at C
  rw [ho]
  clear k1 k3 bM ho
  go_enter Tryd.func47, Tryd.ntmps47
  go_upto_region 1 with (fail)
  rw [← hM]
  clear hM
  obtain ⟨x1, x2, x3, _, _, _⟩ := HX.out.cells
  go_wp2_with fail
  refine C.out.mono ?_
  rintro e we ⟨s9, A9, n9, c9, A9', n9', c9', k9, rfl, h9, b9⟩
  replace HR := Lib.hid (HR.out.below b9)
  have BE := Lib.hid (below_step BM.out BM.out.size b9)
  obtain ⟨q0, q1, q2, hs, hb⟩ := OutIs.stored h9 HR.out BE.out (by omega)
  have Q := Lib.hid (And.intro q0 (And.intro q1 q2))
  have HS := Lib.hid hs
  have HB := Lib.hid hb
  clear b9 h9 q0 q1 q2 hs hb x1 x2 x3
  obtain ⟨r1, r2, r3, hr1, hr2, hr3, _, _, _⟩ := HR.out.cells
  go_wp2_with fail
  obtain ⟨q0, q1, q2⟩ := Q.out
  refine bodyPost_ret (v := .tuple #[.agg #[.bool s9, .slice A9 n9 c9, .slice A9' n9' c9'], .int .i64 k9]) (by simp [results, Tryd.results47, go_sem, q0, q1, q2]) rfl ?_
  exact ⟨_, _, _, _, _, _, _, _, rfl, HS.out, HB.out⟩
theorem fCeil (a : Rat) (w : World) (v1 : Value) (h1 : IsF w v1 a) (k : Wq 200000 a) (hT : Tab w) : Calls Tryd.prog 100 #[v1] w fun e w' => ∃ u, e = .returned u ∧ IsF w' u (gridQ a 0 true) ∧ Below w.heap.size w w' := by
  obtain ⟨A1, c1, A2, c2, rfl, r1, r2⟩ := h1
  exact fracCeil _ _ _ w _ _ _ _ r1 r2 k.1 k.2 a.den_nz hT _ rfl
set_option maxHeartbeats 1000000 in
set_option maxRecDepth 100000 in
theorem nCeil (s1 : Bool) (N1 D1 : Nat) (w : World) (v1 : Value) (h1 : RawV w v1 s1 N1 D1) (hT : Tab w) :
    Calls Tryd.prog 48 #[v1] w (OutPost w (if largeB s1 N1 D1 then .err 1 else give (gridQ (ratOf s1 N1 D1) 0 true))) := by
  have H1 := Lib.hid h1
  have HT := Lib.hid hT
  obtain ⟨A1, n1, c1, A1', n1', c1', rfl⟩ := h1.shape
  clear h1 hT
  obtain ⟨M, hM, k1, k3, bM⟩ := start1 w (.bool s1) (.slice A1 n1 c1) (.slice A1' n1' c1') (.bool false) (.slice none 0 0) (.slice none 0 0) 24 24
  have HX := Lib.hid k1
  have HR := Lib.hid (show Res M (w.heap.size + 1) 24 from ⟨_, _, _, NI.bool _, NI.slice _ _ _, NI.slice _ _ _, k3⟩)
  have BM := Lib.hid bM
  replace H1 := Lib.hid (H1.out.below bM)
  replace HT := Lib.hid (HT.out.below bM)
  have C := Lib.hid (nOne 100 (gridQ (ratOf s1 N1 D1) 0 true) s1 N1 D1 M _ H1.out HT.out (fun _ _ => Tryd.call100 ..) (fun w u1 i1 f1 t => fCeil _ w u1 i1 (fit_Wq f1 (by omega)) t))
  obtain ⟨o, ho⟩ : ∃ o, (if largeB s1 N1 D1 = true then Out.err 1 else give (gridQ (ratOf s1 N1 D1) 0 true)) = o := ⟨_, rfl⟩
  rw [ho] at C
  rw [ho]
  clear k1 k3 bM ho
  go_enter Tryd.func48, Tryd.ntmps48
  go_upto_region 1 with (fail)
  rw [← hM]
  clear hM
  obtain ⟨x1, x2, x3, _, _, _⟩ := HX.out.cells
  go_wp2_with fail
  refine C.out.mono ?_
  rintro e we ⟨s9, A9, n9, c9, A9', n9', c9', k9, rfl, h9, b9⟩
  replace HR := Lib.hid (HR.out.below b9)
  have BE := Lib.hid (below_step BM.out BM.out.size b9)
  obtain ⟨q0, q1, q2, hs, hb⟩ := OutIs.stored h9 HR.out BE.out (by omega)
  have Q := Lib.hid (And.intro q0 (And.intro q1 q2))
  have HS := Lib.hid hs
  have HB := Lib.hid hb
  clear b9 h9 q0 q1 q2 hs hb x1 x2 x3
  obtain ⟨r1, r2, r3, hr1, hr2, hr3, _, _, _⟩ := HR.out.cells
  go_wp2_with fail
  obtain ⟨q0, q1, q2⟩ := Q.out
  refine bodyPost_ret (v := .tuple #[.agg #[.bool s9, .slice A9 n9 c9, .slice A9' n9' c9'], .int .i64 k9]) (by simp [results, Tryd.results48, go_sem, q0, q1, q2]) rfl ?_
  exact ⟨_, _, _, _, _, _, _, _, rfl, HS.out, HB.out⟩
end Go.Proofs.YtfmhplcpejmkhaaDoor

namespace Go.Proofs.YtfmhplcpejmkhaaDoor
open Go.RowKit Dig
set_option linter.unusedVariables false
set_option linter.unusedSimpArgs false
set_option maxHeartbeats 2000000 in
set_option maxRecDepth 100000 in
theorem lFloor_large (s1 : Bool) (N1 D1 : Nat)  (w : World) (v1 : Value) (h1 : RawV w v1 s1 N1 D1) (q : Rat) (hq : ratOf s1 N1 D1 = q) (hL : largeB s1 N1 D1 = true) :
    Calls Tryd.prog 49 #[v1] w (OutPost w (Out.err 1)) := by
  have H1 := Lib.hid h1
  obtain ⟨A1, n1, c1, A1', n1', c1', rfl⟩ := h1.shape
  clear h1
  obtain ⟨M, hM, k1, k3, bM⟩ := start1 w (.bool s1) (.slice A1 n1 c1) (.slice A1' n1' c1') (.bool false) (.slice none 0 0) (.slice none 0 0) 24 24
  have TA : Hid (P1 w M w.heap.size (w.heap.size + 1) s1 A1 n1 c1 A1' n1' c1' N1 D1) := Lib.hid ⟨k1, ⟨_, _, _, NI.bool _, NI.slice _ _ _, NI.slice _ _ _, k3⟩, H1.out.below bM, bM, by omega, by omega⟩
  have HQ := Lib.hid hq
  have HL := Lib.hid hL
  obtain ⟨o, ho⟩ : ∃ o, Out.err 1 = o := ⟨_, rfl⟩
  have HO := Lib.hid ho
  rw [ho]
  clear hq hL k1 k3 bM H1 ho
  go_enter Tryd.func49, Tryd.ntmps49
  go_upto_region 1 with (fail)
  rw [← hM]
  clear hM
  obtain ⟨x1, x2, x3, _⟩ := TA.out.cells
  go_wp2_with fail
  refine (largeV _ s1 N1 D1 _ TA.out.r1).mono ?_
  rw [HL.out]
  rintro e wa ⟨rfl, ba⟩
  replace TA := Lib.hid (TA.out.below ba)
  clear ba x1 x2 x3
  obtain ⟨x1, x2, x3, _⟩ := TA.out.cells
  obtain ⟨y1, y2, y3, hy1, hy2, hy3, f1, f2, f3⟩ := TA.out.res.cells
  obtain ⟨q0, q1, q2, hs, hb⟩ := OutIs.stored (o := .err 1) (k := 1) (s := false) (A1 := none) (A2 := none) (n1 := 0) (c1 := 0) (n2 := 0) (c2 := 0) ⟨rfl, rfl, by omega, by omega⟩ TA.out.res TA.out.bel TA.out.n3
  have Q := Lib.hid (And.intro q0 (And.intro q1 q2))
  have HBB := Lib.hid hb
  clear q0 q1 q2 hs hb
  go_wp2_with fail
  obtain ⟨q0, q1, q2⟩ := Q.out
  refine bodyPost_ret (v := .tuple #[noRat, .int .i64 1]) (by simp [results, Tryd.results49, go_sem, q0, q1, q2, noRat]) rfl ?_
  rw [← HO.out]
  exact OutPost.err rfl (by omega) (by omega) HBB.out
set_option maxHeartbeats 2000000 in
set_option maxRecDepth 100000 in
theorem lFloor_fit (s1 : Bool) (N1 D1 : Nat) (r : Rat) (hr : gridQ (ratOf s1 N1 D1) 0 false = r) (w : World) (v1 : Value) (h1 : RawV w v1 s1 N1 D1) (q : Rat) (hq : ratOf s1 N1 D1 = q) (hL : largeB s1 N1 D1 = false) :
    Calls Tryd.prog 49 #[v1] w (OutPost w (give r)) := by
  have H1 := Lib.hid h1
  obtain ⟨A1, n1, c1, A1', n1', c1', rfl⟩ := h1.shape
  clear h1
  obtain ⟨M, hM, k1, k3, bM⟩ := start1 w (.bool s1) (.slice A1 n1 c1) (.slice A1' n1' c1') (.bool false) (.slice none 0 0) (.slice none 0 0) 24 24
  have TA : Hid (P1 w M w.heap.size (w.heap.size + 1) s1 A1 n1 c1 A1' n1' c1' N1 D1) := Lib.hid ⟨k1, ⟨_, _, _, NI.bool _, NI.slice _ _ _, NI.slice _ _ _, k3⟩, H1.out.below bM, bM, by omega, by omega⟩
  have HQ := Lib.hid hq
  have HL := Lib.hid hL
  have hf := (largeB_false hL).2.2
  rw [hq] at hf
  have HF := Lib.hid hf
  clear hf
  rw [hq] at hr
  have HR := Lib.hid hr
  have HK := Lib.hid (show Rq 2000000 r by rw [← hr]; exact (grid_Rq (fit_Rq HF.out (k := 128) (by omega)) 0 false).le (by omega))
  clear hr
  obtain ⟨o, ho⟩ : ∃ o, give r = o := ⟨_, rfl⟩
  have HO := Lib.hid ho
  rw [ho]
  clear hq hL k1 k3 bM H1 ho
  go_enter Tryd.func49, Tryd.ntmps49
  go_upto_region 1 with (fail)
  rw [← hM]
  clear hM
  obtain ⟨x1, x2, x3, _⟩ := TA.out.cells
  go_wp2_with fail
  refine (largeV _ s1 N1 D1 _ TA.out.r1).mono ?_
  rw [HL.out]
  rintro e wa ⟨rfl, ba⟩
  replace TA := Lib.hid (TA.out.below ba)
  clear ba x1 x2 x3
  obtain ⟨x1, x2, x3, _⟩ := TA.out.cells
  go_wp2_with fail
  refine (ofQ _ _ _ _ q _ TA.out.r1 HL.out HQ.out).mono ?_
  rintro e wb ⟨t0, B0, m0, e0, B0', m0', e0', rfl, i0, bb⟩
  replace TA := Lib.hid (TA.out.below bb)
  clear bb x1 x2 x3
  go_wp2_with fail
  refine (qBottom q _ _ i0.out (fit_Rq HF.out (by omega)) r HR.out).mono ?_
  rintro e wb ⟨t1, B1, m1, e1, B1', m1', e1', rfl, i1, bb⟩
  replace TA := Lib.hid (TA.out.below bb)
  clear bb
  go_wp2_with fail
  refine (qDone _ _ _ i1.out HK.out).mono ?_
  rintro e we ⟨s9, A9, n9, c9, A9', n9', c9', k9, rfl, h9, b9⟩
  replace TA := Lib.hid (TA.out.below b9)
  obtain ⟨z1, z2, z3, hz1, hz2, hz3, k1, k2, k3⟩ := TA.out.res.cells
  obtain ⟨q0, q1, q2, hs, hb⟩ := OutIs.stored h9 TA.out.res TA.out.bel TA.out.n3
  have Q := Lib.hid (And.intro q0 (And.intro q1 q2))
  have HS := Lib.hid hs
  have HBB := Lib.hid hb
  clear q0 q1 q2 hs hb h9 b9
  go_wp2
  obtain ⟨q0, q1, q2⟩ := Q.out
  refine bodyPost_ret (v := .tuple #[.agg #[.bool s9, .slice A9 n9 c9, .slice A9' n9' c9'], .int .i64 k9]) (by simp [results, Tryd.results49, go_sem, q0, q1, q2]) rfl ?_
  rw [← HO.out]
  exact ⟨_, _, _, _, _, _, _, _, rfl, HS.out, HBB.out⟩
theorem lFloor (s1 : Bool) (N1 D1 : Nat) (w : World) (v1 : Value) (h1 : RawV w v1 s1 N1 D1) :
    Calls Tryd.prog 49 #[v1] w (OutPost w (if largeB s1 N1 D1 = true then .err 1 else give (gridQ (ratOf s1 N1 D1) 0 false))) := by
  by_cases h : largeB s1 N1 D1 = true
  · rw [if_pos h]; exact lFloor_large s1 N1 D1 w v1 h1 _ rfl h
  · rw [if_neg h]; exact lFloor_fit s1 N1 D1 _ rfl w v1 h1 _ rfl (by simpa using h)
set_option maxHeartbeats 2000000 in
set_option maxRecDepth 100000 in
theorem lCeil_large (s1 : Bool) (N1 D1 : Nat)  (w : World) (v1 : Value) (h1 : RawV w v1 s1 N1 D1) (q : Rat) (hq : ratOf s1 N1 D1 = q) (hL : largeB s1 N1 D1 = true) :
    Calls Tryd.prog 50 #[v1] w (OutPost w (Out.err 1)) := by
  have H1 := Lib.hid h1
  obtain ⟨A1, n1, c1, A1', n1', c1', rfl⟩ := h1.shape
  clear h1
  obtain ⟨M, hM, k1, k3, bM⟩ := start1 w (.bool s1) (.slice A1 n1 c1) (.slice A1' n1' c1') (.bool false) (.slice none 0 0) (.slice none 0 0) 24 24
  have TA : Hid (P1 w M w.heap.size (w.heap.size + 1) s1 A1 n1 c1 A1' n1' c1' N1 D1) := Lib.hid ⟨k1, ⟨_, _, _, NI.bool _, NI.slice _ _ _, NI.slice _ _ _, k3⟩, H1.out.below bM, bM, by omega, by omega⟩
  have HQ := Lib.hid hq
  have HL := Lib.hid hL
  obtain ⟨o, ho⟩ : ∃ o, Out.err 1 = o := ⟨_, rfl⟩
  have HO := Lib.hid ho
  rw [ho]
  clear hq hL k1 k3 bM H1 ho
  go_enter Tryd.func50, Tryd.ntmps50
  go_upto_region 1 with (fail)
  rw [← hM]
  clear hM
  obtain ⟨x1, x2, x3, _⟩ := TA.out.cells
  go_wp2_with fail
  refine (largeV _ s1 N1 D1 _ TA.out.r1).mono ?_
  rw [HL.out]
  rintro e wa ⟨rfl, ba⟩
  replace TA := Lib.hid (TA.out.below ba)
  clear ba x1 x2 x3
  obtain ⟨x1, x2, x3, _⟩ := TA.out.cells
  obtain ⟨y1, y2, y3, hy1, hy2, hy3, f1, f2, f3⟩ := TA.out.res.cells
  obtain ⟨q0, q1, q2, hs, hb⟩ := OutIs.stored (o := .err 1) (k := 1) (s := false) (A1 := none) (A2 := none) (n1 := 0) (c1 := 0) (n2 := 0) (c2 := 0) ⟨rfl, rfl, by omega, by omega⟩ TA.out.res TA.out.bel TA.out.n3
  have Q := Lib.hid (And.intro q0 (And.intro q1 q2))
  have HBB := Lib.hid hb
  clear q0 q1 q2 hs hb
  go_wp2_with fail
  obtain ⟨q0, q1, q2⟩ := Q.out
  refine bodyPost_ret (v := .tuple #[noRat, .int .i64 1]) (by simp [results, Tryd.results50, go_sem, q0, q1, q2, noRat]) rfl ?_
  rw [← HO.out]
  exact OutPost.err rfl (by omega) (by omega) HBB.out
set_option maxHeartbeats 2000000 in
set_option maxRecDepth 100000 in
theorem lCeil_fit (s1 : Bool) (N1 D1 : Nat) (r : Rat) (hr : gridQ (ratOf s1 N1 D1) 0 true = r) (w : World) (v1 : Value) (h1 : RawV w v1 s1 N1 D1) (q : Rat) (hq : ratOf s1 N1 D1 = q) (hL : largeB s1 N1 D1 = false) :
    Calls Tryd.prog 50 #[v1] w (OutPost w (give r)) := by
  have H1 := Lib.hid h1
  obtain ⟨A1, n1, c1, A1', n1', c1', rfl⟩ := h1.shape
  clear h1
  obtain ⟨M, hM, k1, k3, bM⟩ := start1 w (.bool s1) (.slice A1 n1 c1) (.slice A1' n1' c1') (.bool false) (.slice none 0 0) (.slice none 0 0) 24 24
  have TA : Hid (P1 w M w.heap.size (w.heap.size + 1) s1 A1 n1 c1 A1' n1' c1' N1 D1) := Lib.hid ⟨k1, ⟨_, _, _, NI.bool _, NI.slice _ _ _, NI.slice _ _ _, k3⟩, H1.out.below bM, bM, by omega, by omega⟩
  have HQ := Lib.hid hq
  have HL := Lib.hid hL
  have hf := (largeB_false hL).2.2
  rw [hq] at hf
  have HF := Lib.hid hf
  clear hf
  rw [hq] at hr
  have HR := Lib.hid hr
  have HK := Lib.hid (show Rq 2000000 r by rw [← hr]; exact (grid_Rq (fit_Rq HF.out (k := 128) (by omega)) 0 true).le (by omega))
  clear hr
  obtain ⟨o, ho⟩ : ∃ o, give r = o := ⟨_, rfl⟩
  have HO := Lib.hid ho
  rw [ho]
  clear hq hL k1 k3 bM H1 ho
  go_enter Tryd.func50, Tryd.ntmps50
  go_upto_region 1 with (fail)
  rw [← hM]
  clear hM
  obtain ⟨x1, x2, x3, _⟩ := TA.out.cells
  go_wp2_with fail
  refine (largeV _ s1 N1 D1 _ TA.out.r1).mono ?_
  rw [HL.out]
  rintro e wa ⟨rfl, ba⟩
  replace TA := Lib.hid (TA.out.below ba)
  clear ba x1 x2 x3
  obtain ⟨x1, x2, x3, _⟩ := TA.out.cells
  go_wp2_with fail
  refine (ofQ _ _ _ _ q _ TA.out.r1 HL.out HQ.out).mono ?_
  rintro e wb ⟨t0, B0, m0, e0, B0', m0', e0', rfl, i0, bb⟩
  replace TA := Lib.hid (TA.out.below bb)
  clear bb x1 x2 x3
  go_wp2_with fail
  refine (qTop q _ _ i0.out (fit_Rq HF.out (by omega)) r HR.out).mono ?_
  rintro e wb ⟨t1, B1, m1, e1, B1', m1', e1', rfl, i1, bb⟩
  replace TA := Lib.hid (TA.out.below bb)
  clear bb
  go_wp2_with fail
  refine (qDone _ _ _ i1.out HK.out).mono ?_
  rintro e we ⟨s9, A9, n9, c9, A9', n9', c9', k9, rfl, h9, b9⟩
  replace TA := Lib.hid (TA.out.below b9)
  obtain ⟨z1, z2, z3, hz1, hz2, hz3, k1, k2, k3⟩ := TA.out.res.cells
  obtain ⟨q0, q1, q2, hs, hb⟩ := OutIs.stored h9 TA.out.res TA.out.bel TA.out.n3
  have Q := Lib.hid (And.intro q0 (And.intro q1 q2))
  have HS := Lib.hid hs
  have HBB := Lib.hid hb
  clear q0 q1 q2 hs hb h9 b9
  go_wp2
  obtain ⟨q0, q1, q2⟩ := Q.out
  refine bodyPost_ret (v := .tuple #[.agg #[.bool s9, .slice A9 n9 c9, .slice A9' n9' c9'], .int .i64 k9]) (by simp [results, Tryd.results50, go_sem, q0, q1, q2]) rfl ?_
  rw [← HO.out]
  exact ⟨_, _, _, _, _, _, _, _, rfl, HS.out, HBB.out⟩
theorem lCeil (s1 : Bool) (N1 D1 : Nat) (w : World) (v1 : Value) (h1 : RawV w v1 s1 N1 D1) :
    Calls Tryd.prog 50 #[v1] w (OutPost w (if largeB s1 N1 D1 = true then .err 1 else give (gridQ (ratOf s1 N1 D1) 0 true))) := by
  by_cases h : largeB s1 N1 D1 = true
  · rw [if_pos h]; exact lCeil_large s1 N1 D1 w v1 h1 _ rfl h
  · rw [if_neg h]; exact lCeil_fit s1 N1 D1 _ rfl w v1 h1 _ rfl (by simpa using h)
set_option maxHeartbeats 2000000 in
set_option maxRecDepth 100000 in
theorem lGrid_large (s1 : Bool) (N1 D1 : Nat) (p : Int) (up : Bool) (w : World) (v1 : Value) (h1 : RawV w v1 s1 N1 D1) (q : Rat) (hq : ratOf s1 N1 D1 = q) (hL : largeB s1 N1 D1 = true) :
    Calls Tryd.prog 53 #[v1, .int .i64 p, .bool up] w (OutPost w (Out.err 1)) := by
  have H1 := Lib.hid h1
  obtain ⟨A1, n1, c1, A1', n1', c1', rfl⟩ := h1.shape
  clear h1
  obtain ⟨M, hM, k1, k3, bM⟩ := start1 w (.bool s1) (.slice A1 n1 c1) (.slice A1' n1' c1') (.bool false) (.slice none 0 0) (.slice none 0 0) 24 24
  have TA : Hid (P1 w M w.heap.size (w.heap.size + 1) s1 A1 n1 c1 A1' n1' c1' N1 D1) := Lib.hid ⟨k1, ⟨_, _, _, NI.bool _, NI.slice _ _ _, NI.slice _ _ _, k3⟩, H1.out.below bM, bM, by omega, by omega⟩
  have HQ := Lib.hid hq
  have HL := Lib.hid hL
  obtain ⟨o, ho⟩ : ∃ o, Out.err 1 = o := ⟨_, rfl⟩
  have HO := Lib.hid ho
  rw [ho]
  clear hq hL k1 k3 bM H1 ho
  go_enter Tryd.func53, Tryd.ntmps53
  go_upto_region 1 with (fail)
  rw [← hM]
  clear hM
  obtain ⟨x1, x2, x3, _⟩ := TA.out.cells
  go_wp2_with fail
  refine (largeV _ s1 N1 D1 _ TA.out.r1).mono ?_
  rw [HL.out]
  rintro e wa ⟨rfl, ba⟩
  replace TA := Lib.hid (TA.out.below ba)
  clear ba x1 x2 x3
  obtain ⟨x1, x2, x3, _⟩ := TA.out.cells
  obtain ⟨y1, y2, y3, hy1, hy2, hy3, f1, f2, f3⟩ := TA.out.res.cells
  obtain ⟨q0, q1, q2, hs, hb⟩ := OutIs.stored (o := .err 1) (k := 1) (s := false) (A1 := none) (A2 := none) (n1 := 0) (c1 := 0) (n2 := 0) (c2 := 0) ⟨rfl, rfl, by omega, by omega⟩ TA.out.res TA.out.bel TA.out.n3
  have Q := Lib.hid (And.intro q0 (And.intro q1 q2))
  have HBB := Lib.hid hb
  clear q0 q1 q2 hs hb
  go_wp2_with fail
  obtain ⟨q0, q1, q2⟩ := Q.out
  refine bodyPost_ret (v := .tuple #[noRat, .int .i64 1]) (by simp [results, Tryd.results53, go_sem, q0, q1, q2, noRat]) rfl ?_
  rw [← HO.out]
  exact OutPost.err rfl (by omega) (by omega) HBB.out
set_option maxHeartbeats 2000000 in
set_option maxRecDepth 100000 in
theorem lGrid_neg (s1 : Bool) (N1 D1 : Nat) (p : Int) (hp : p < 0) (up : Bool) (w : World) (v1 : Value) (h1 : RawV w v1 s1 N1 D1) (q : Rat) (hq : ratOf s1 N1 D1 = q) (hL : largeB s1 N1 D1 = false) :
    Calls Tryd.prog 53 #[v1, .int .i64 p, .bool up] w (OutPost w (Out.err 2)) := by
  have H1 := Lib.hid h1
  obtain ⟨A1, n1, c1, A1', n1', c1', rfl⟩ := h1.shape
  clear h1
  obtain ⟨M, hM, k1, k3, bM⟩ := start1 w (.bool s1) (.slice A1 n1 c1) (.slice A1' n1' c1') (.bool false) (.slice none 0 0) (.slice none 0 0) 24 24
  have TA : Hid (P1 w M w.heap.size (w.heap.size + 1) s1 A1 n1 c1 A1' n1' c1' N1 D1) := Lib.hid ⟨k1, ⟨_, _, _, NI.bool _, NI.slice _ _ _, NI.slice _ _ _, k3⟩, H1.out.below bM, bM, by omega, by omega⟩
  have HQ := Lib.hid hq
  have HL := Lib.hid hL
  have hp1 : decide (p < 0) = true := decide_eq_true hp
  clear hp
  obtain ⟨o, ho⟩ : ∃ o, Out.err 2 = o := ⟨_, rfl⟩
  have HO := Lib.hid ho
  rw [ho]
  clear hq hL k1 k3 bM H1 ho
  go_enter Tryd.func53, Tryd.ntmps53
  go_upto_region 1 with (fail)
  rw [← hM]
  clear hM
  obtain ⟨x1, x2, x3, _⟩ := TA.out.cells
  go_wp2_with fail
  refine (largeV _ s1 N1 D1 _ TA.out.r1).mono ?_
  rw [HL.out]
  rintro e wa ⟨rfl, ba⟩
  replace TA := Lib.hid (TA.out.below ba)
  clear ba x1 x2 x3
  obtain ⟨x1, x2, x3, _⟩ := TA.out.cells
  obtain ⟨y1, y2, y3, hy1, hy2, hy3, f1, f2, f3⟩ := TA.out.res.cells
  obtain ⟨q0, q1, q2, hs, hb⟩ := OutIs.stored (o := .err 2) (k := 2) (s := false) (A1 := none) (A2 := none) (n1 := 0) (c1 := 0) (n2 := 0) (c2 := 0) ⟨rfl, rfl, by omega, by omega⟩ TA.out.res TA.out.bel TA.out.n3
  have Q := Lib.hid (And.intro q0 (And.intro q1 q2))
  have HBB := Lib.hid hb
  clear q0 q1 q2 hs hb
  go_wp2_with fail
  obtain ⟨q0, q1, q2⟩ := Q.out
  refine bodyPost_ret (v := .tuple #[noRat, .int .i64 2]) (by simp [results, Tryd.results53, go_sem, q0, q1, q2, noRat]) rfl ?_
  rw [← HO.out]
  exact OutPost.err rfl (by omega) (by omega) HBB.out
set_option maxHeartbeats 2000000 in
set_option maxRecDepth 100000 in
theorem lGrid_big (s1 : Bool) (N1 D1 : Nat) (p : Int) (hp : 256 < p) (up : Bool) (w : World) (v1 : Value) (h1 : RawV w v1 s1 N1 D1) (q : Rat) (hq : ratOf s1 N1 D1 = q) (hL : largeB s1 N1 D1 = false) :
    Calls Tryd.prog 53 #[v1, .int .i64 p, .bool up] w (OutPost w (Out.err 2)) := by
  have H1 := Lib.hid h1
  obtain ⟨A1, n1, c1, A1', n1', c1', rfl⟩ := h1.shape
  clear h1
  obtain ⟨M, hM, k1, k3, bM⟩ := start1 w (.bool s1) (.slice A1 n1 c1) (.slice A1' n1' c1') (.bool false) (.slice none 0 0) (.slice none 0 0) 24 24
  have TA : Hid (P1 w M w.heap.size (w.heap.size + 1) s1 A1 n1 c1 A1' n1' c1' N1 D1) := Lib.hid ⟨k1, ⟨_, _, _, NI.bool _, NI.slice _ _ _, NI.slice _ _ _, k3⟩, H1.out.below bM, bM, by omega, by omega⟩
  have HQ := Lib.hid hq
  have HL := Lib.hid hL
  have hp1 : decide (p < 0) = false := decide_eq_false (by omega)
  have hp2 : decide (256 < p) = true := decide_eq_true hp
  clear hp
  obtain ⟨o, ho⟩ : ∃ o, Out.err 2 = o := ⟨_, rfl⟩
  have HO := Lib.hid ho
  rw [ho]
  clear hq hL k1 k3 bM H1 ho
  go_enter Tryd.func53, Tryd.ntmps53
  go_upto_region 1 with (fail)
  rw [← hM]
  clear hM
  obtain ⟨x1, x2, x3, _⟩ := TA.out.cells
  go_wp2_with fail
  refine (largeV _ s1 N1 D1 _ TA.out.r1).mono ?_
  rw [HL.out]
  rintro e wa ⟨rfl, ba⟩
  replace TA := Lib.hid (TA.out.below ba)
  clear ba x1 x2 x3
  obtain ⟨x1, x2, x3, _⟩ := TA.out.cells
  obtain ⟨y1, y2, y3, hy1, hy2, hy3, f1, f2, f3⟩ := TA.out.res.cells
  obtain ⟨q0, q1, q2, hs, hb⟩ := OutIs.stored (o := .err 2) (k := 2) (s := false) (A1 := none) (A2 := none) (n1 := 0) (c1 := 0) (n2 := 0) (c2 := 0) ⟨rfl, rfl, by omega, by omega⟩ TA.out.res TA.out.bel TA.out.n3
  have Q := Lib.hid (And.intro q0 (And.intro q1 q2))
  have HBB := Lib.hid hb
  clear q0 q1 q2 hs hb
  go_wp2_with fail
  obtain ⟨q0, q1, q2⟩ := Q.out
  refine bodyPost_ret (v := .tuple #[noRat, .int .i64 2]) (by simp [results, Tryd.results53, go_sem, q0, q1, q2, noRat]) rfl ?_
  rw [← HO.out]
  exact OutPost.err rfl (by omega) (by omega) HBB.out
set_option maxHeartbeats 2000000 in
set_option maxRecDepth 100000 in
theorem lGrid_false (s1 : Bool) (N1 D1 : Nat) (p : Nat) (hp : p ≤ 256) (r : Rat) (hr : gridQ (ratOf s1 N1 D1) p false = r) (w : World) (v1 : Value) (h1 : RawV w v1 s1 N1 D1) (q : Rat) (hq : ratOf s1 N1 D1 = q) (hL : largeB s1 N1 D1 = false) :
    Calls Tryd.prog 53 #[v1, .int .i64 p, .bool false] w (OutPost w (give r)) := by
  have H1 := Lib.hid h1
  obtain ⟨A1, n1, c1, A1', n1', c1', rfl⟩ := h1.shape
  clear h1
  obtain ⟨M, hM, k1, k3, bM⟩ := start1 w (.bool s1) (.slice A1 n1 c1) (.slice A1' n1' c1') (.bool false) (.slice none 0 0) (.slice none 0 0) 24 24
  have TA : Hid (P1 w M w.heap.size (w.heap.size + 1) s1 A1 n1 c1 A1' n1' c1' N1 D1) := Lib.hid ⟨k1, ⟨_, _, _, NI.bool _, NI.slice _ _ _, NI.slice _ _ _, k3⟩, H1.out.below bM, bM, by omega, by omega⟩
  have HQ := Lib.hid hq
  have HL := Lib.hid hL
  have hf := (largeB_false hL).2.2
  rw [hq] at hf
  have HF := Lib.hid hf
  clear hf
  rw [hq] at hr
  have HR := Lib.hid hr
  have HK := Lib.hid (show Rq 2000000 r by rw [← hr]; exact (grid_Rq (fit_Rq HF.out (k := 128) (by omega)) p false).le (by omega))
  have HP := Lib.hid hp
  have hp1 : decide ((p : Int) < 0) = false := decide_eq_false (by omega)
  have hp2 : decide (256 < (p : Int)) = false := decide_eq_false (by omega)
  have hp3 : decide (256 < p) = false := decide_eq_false (by omega)
  clear hr hp
  obtain ⟨o, ho⟩ : ∃ o, give r = o := ⟨_, rfl⟩
  have HO := Lib.hid ho
  rw [ho]
  clear hq hL k1 k3 bM H1 ho
  go_enter Tryd.func53, Tryd.ntmps53
  go_upto_region 1 with (fail)
  rw [← hM]
  clear hM
  obtain ⟨x1, x2, x3, _⟩ := TA.out.cells
  go_wp2_with fail
  refine (largeV _ s1 N1 D1 _ TA.out.r1).mono ?_
  rw [HL.out]
  rintro e wa ⟨rfl, ba⟩
  replace TA := Lib.hid (TA.out.below ba)
  clear ba x1 x2 x3
  obtain ⟨x1, x2, x3, _⟩ := TA.out.cells
  go_wp2_with fail
  refine (ofQ _ _ _ _ q _ TA.out.r1 HL.out HQ.out).mono ?_
  rintro e wb ⟨t0, B0, m0, e0, B0', m0', e0', rfl, i0, bb⟩
  replace TA := Lib.hid (TA.out.below bb)
  clear bb x1 x2 x3
  go_wp2_with fail
  refine (qGridDown q p (Nat.le_trans HP.out (by omega)) _ _ i0.out (fit_Rq HF.out (by omega)) r HR.out).mono ?_
  rintro e wb ⟨t1, B1, m1, e1, B1', m1', e1', rfl, i1, bb⟩
  replace TA := Lib.hid (TA.out.below bb)
  clear bb
  go_wp2_with fail
  refine (qDone _ _ _ i1.out HK.out).mono ?_
  rintro e we ⟨s9, A9, n9, c9, A9', n9', c9', k9, rfl, h9, b9⟩
  replace TA := Lib.hid (TA.out.below b9)
  obtain ⟨z1, z2, z3, hz1, hz2, hz3, k1, k2, k3⟩ := TA.out.res.cells
  obtain ⟨q0, q1, q2, hs, hb⟩ := OutIs.stored h9 TA.out.res TA.out.bel TA.out.n3
  have Q := Lib.hid (And.intro q0 (And.intro q1 q2))
  have HS := Lib.hid hs
  have HBB := Lib.hid hb
  clear q0 q1 q2 hs hb h9 b9
  go_wp2
  obtain ⟨q0, q1, q2⟩ := Q.out
  refine bodyPost_ret (v := .tuple #[.agg #[.bool s9, .slice A9 n9 c9, .slice A9' n9' c9'], .int .i64 k9]) (by simp [results, Tryd.results53, go_sem, q0, q1, q2]) rfl ?_
  rw [← HO.out]
  exact ⟨_, _, _, _, _, _, _, _, rfl, HS.out, HBB.out⟩
set_option maxHeartbeats 2000000 in
set_option maxRecDepth 100000 in
theorem lGrid_true (s1 : Bool) (N1 D1 : Nat) (p : Nat) (hp : p ≤ 256) (r : Rat) (hr : gridQ (ratOf s1 N1 D1) p true = r) (w : World) (v1 : Value) (h1 : RawV w v1 s1 N1 D1) (q : Rat) (hq : ratOf s1 N1 D1 = q) (hL : largeB s1 N1 D1 = false) :
    Calls Tryd.prog 53 #[v1, .int .i64 p, .bool true] w (OutPost w (give r)) := by
  have H1 := Lib.hid h1
  obtain ⟨A1, n1, c1, A1', n1', c1', rfl⟩ := h1.shape
  clear h1
  obtain ⟨M, hM, k1, k3, bM⟩ := start1 w (.bool s1) (.slice A1 n1 c1) (.slice A1' n1' c1') (.bool false) (.slice none 0 0) (.slice none 0 0) 24 24
  have TA : Hid (P1 w M w.heap.size (w.heap.size + 1) s1 A1 n1 c1 A1' n1' c1' N1 D1) := Lib.hid ⟨k1, ⟨_, _, _, NI.bool _, NI.slice _ _ _, NI.slice _ _ _, k3⟩, H1.out.below bM, bM, by omega, by omega⟩
  have HQ := Lib.hid hq
  have HL := Lib.hid hL
  have hf := (largeB_false hL).2.2
  rw [hq] at hf
  have HF := Lib.hid hf
  clear hf
  rw [hq] at hr
  have HR := Lib.hid hr
  have HK := Lib.hid (show Rq 2000000 r by rw [← hr]; exact (grid_Rq (fit_Rq HF.out (k := 128) (by omega)) p true).le (by omega))
  have HP := Lib.hid hp
  have hp1 : decide ((p : Int) < 0) = false := decide_eq_false (by omega)
  have hp2 : decide (256 < (p : Int)) = false := decide_eq_false (by omega)
  have hp3 : decide (256 < p) = false := decide_eq_false (by omega)
  clear hr hp
  obtain ⟨o, ho⟩ : ∃ o, give r = o := ⟨_, rfl⟩
  have HO := Lib.hid ho
  rw [ho]
  clear hq hL k1 k3 bM H1 ho
  go_enter Tryd.func53, Tryd.ntmps53
  go_upto_region 1 with (fail)
  rw [← hM]
  clear hM
  obtain ⟨x1, x2, x3, _⟩ := TA.out.cells
  go_wp2_with fail
  refine (largeV _ s1 N1 D1 _ TA.out.r1).mono ?_
  rw [HL.out]
  rintro e wa ⟨rfl, ba⟩
  replace TA := Lib.hid (TA.out.below ba)
  clear ba x1 x2 x3
  obtain ⟨x1, x2, x3, _⟩ := TA.out.cells
  go_wp2_with fail
  refine (ofQ _ _ _ _ q _ TA.out.r1 HL.out HQ.out).mono ?_
  rintro e wb ⟨t0, B0, m0, e0, B0', m0', e0', rfl, i0, bb⟩
  replace TA := Lib.hid (TA.out.below bb)
  clear bb x1 x2 x3
  go_wp2_with fail
  refine (qGridUp q p (Nat.le_trans HP.out (by omega)) _ _ i0.out (fit_Rq HF.out (by omega)) r HR.out).mono ?_
  rintro e wb ⟨t1, B1, m1, e1, B1', m1', e1', rfl, i1, bb⟩
  replace TA := Lib.hid (TA.out.below bb)
  clear bb
  go_wp2_with fail
  refine (qDone _ _ _ i1.out HK.out).mono ?_
  rintro e we ⟨s9, A9, n9, c9, A9', n9', c9', k9, rfl, h9, b9⟩
  replace TA := Lib.hid (TA.out.below b9)
  obtain ⟨z1, z2, z3, hz1, hz2, hz3, k1, k2, k3⟩ := TA.out.res.cells
  obtain ⟨q0, q1, q2, hs, hb⟩ := OutIs.stored h9 TA.out.res TA.out.bel TA.out.n3
  have Q := Lib.hid (And.intro q0 (And.intro q1 q2))
  have HS := Lib.hid hs
  have HBB := Lib.hid hb
  clear q0 q1 q2 hs hb h9 b9
  go_wp2
  obtain ⟨q0, q1, q2⟩ := Q.out
  refine bodyPost_ret (v := .tuple #[.agg #[.bool s9, .slice A9 n9 c9, .slice A9' n9' c9'], .int .i64 k9]) (by simp [results, Tryd.results53, go_sem, q0, q1, q2]) rfl ?_
  rw [← HO.out]
  exact ⟨_, _, _, _, _, _, _, _, rfl, HS.out, HBB.out⟩
/-- what Down and Up return -/
def gridOut (L : Bool) (p : Int) (up : Bool) (q : Rat) : Out := if L = true then .err 1 else if p < 0 ∨ 256 < p then .err 2 else give (gridQ q p.toNat up)
theorem lGrid (s1 : Bool) (N1 D1 : Nat) (p : Int) (up : Bool) (w : World) (v1 : Value) (h1 : RawV w v1 s1 N1 D1) :
    Calls Tryd.prog 53 #[v1, .int .i64 p, .bool up] w (OutPost w (gridOut (largeB s1 N1 D1) p up (ratOf s1 N1 D1))) := by
  unfold gridOut
  by_cases h : largeB s1 N1 D1 = true
  · rw [if_pos h]; exact lGrid_large s1 N1 D1 p up w v1 h1 _ rfl h
  · rw [if_neg h]
    have h' : largeB s1 N1 D1 = false := by simpa using h
    by_cases hn : p < 0
    · rw [if_pos (Or.inl hn)]; exact lGrid_neg s1 N1 D1 p hn up w v1 h1 _ rfl h'
    · by_cases hb : 256 < p
      · rw [if_pos (Or.inr hb)]; exact lGrid_big s1 N1 D1 p hb up w v1 h1 _ rfl h'
      · rw [if_neg (by omega)]
        obtain ⟨k, rfl⟩ : ∃ k : Nat, p = (k : Int) := ⟨p.toNat, by omega⟩
        rw [Int.toNat_natCast]
        cases up
        · exact lGrid_false s1 N1 D1 k (by omega) _ rfl w v1 h1 _ rfl h'
        · exact lGrid_true s1 N1 D1 k (by omega) _ rfl w v1 h1 _ rfl h'
end Go.Proofs.YtfmhplcpejmkhaaDoor

namespace Go.Proofs.YtfmhplcpejmkhaaDoor
open Go.RowKit Dig
set_option linter.unusedVariables false
set_option linter.unusedSimpArgs false
/-- a value that has been read, and a variable for a result -/
structure N1 (w M : World) (g3 g : Nat) (s : Bool) (A1 : Option Addr) (n1 c1 : Nat) (B1 : Option Addr) (m1 d1 : Nat) : Prop where
  res : Res M g3 24
  box : Box M g (.bool s) (.slice A1 n1 c1) (.slice B1 m1 d1) 60
  tab : Tab M
  bel : Below w.heap.size w M
  n3 : w.heap.size ≤ g3
  ne : g ≠ g3
theorem N1.below {w M M' : World} {g3 g : Nat} {s : Bool} {A1 : Option Addr} {n1 c1 : Nat} {B1 : Option Addr} {m1 d1 : Nat} (h : N1 w M g3 g s A1 n1 c1 B1 m1 d1) (hb : Below M.heap.size M M') : N1 w M' g3 g s A1 n1 c1 B1 m1 d1 :=
  ⟨h.res.below hb, h.box.below hb, h.tab.below hb, below_step h.bel h.bel.size hb, h.n3, h.ne⟩
theorem Calls.partsF {f : Nat} {args : Array Value} {w : World} {q : Rat} (h : Calls Tryd.prog f args w fun e w' => ∃ u, e = .returned u ∧ IsF w' u q ∧ Below w.heap.size w w') :
    Calls Tryd.prog f args w fun e w' => ∃ t B1 m1 e1 B2 m2 e2, e = .returned (.agg #[.bool t, .slice B1 m1 e1, .slice B2 m2 e2]) ∧ Hid (IsF w' (.agg #[.bool t, .slice B1 m1 e1, .slice B2 m2 e2]) q) ∧ Below w.heap.size w w' := by
  refine h.mono ?_
  rintro e w' ⟨u, rfl, hq, hb⟩
  have hq2 := hq
  obtain ⟨A1, c1, A2, c2, rfl, r1, r2⟩ := hq
  exact ⟨_, _, _, _, _, _, _, rfl, hq2, hb⟩
theorem fGrid (a : Rat) (p : Nat) (up : Bool) (lp : p ≤ 100000) (w : World) (v1 : Value) (h1 : IsF w v1 a) (k : Wq 200000 a) (hT : Tab w) : Calls Tryd.prog 99 #[v1, .int .i64 p, .bool up] w fun e w' => ∃ u, e = .returned u ∧ IsF w' u (gridQ a p up) ∧ Below w.heap.size w w' := by
  obtain ⟨A1, c1, A2, c2, rfl, r1, r2⟩ := h1
  exact fracGrid _ _ _ p up w _ _ _ _ r1 r2 k.1 k.2 lp a.den_nz hT
set_option maxHeartbeats 2000000 in
set_option maxRecDepth 100000 in
theorem nround_large (s1 : Bool) (N1' D1' : Nat) (p : Int) (up : Bool) (w : World) (v1 : Value) (h1 : RawV w v1 s1 N1' D1') (hT : Tab w) (q : Rat) (hq : ratOf s1 N1' D1' = q) (hL : largeB s1 N1' D1' = true) :
    Calls Tryd.prog 103 #[v1, .int .i64 p, .bool up] w (OutPost w (Out.err 1)) := by
  have H1 := Lib.hid h1
  have HT := Lib.hid hT
  obtain ⟨A1, n1, c1, A1', n1', c1', rfl⟩ := h1.shape
  clear h1 hT
  obtain ⟨M, hM, k1, k3, bM⟩ := start1 w (.bool s1) (.slice A1 n1 c1) (.slice A1' n1' c1') (.bool false) (.slice none 0 0) (.slice none 0 0) 24 24
  have HX := Lib.hid k1
  have HR := Lib.hid (show Res M (w.heap.size + 1) 24 from ⟨_, _, _, NI.bool _, NI.slice _ _ _, NI.slice _ _ _, k3⟩)
  have BM := Lib.hid bM
  replace H1 := Lib.hid (H1.out.below bM)
  replace HT := Lib.hid (HT.out.below bM)
  have HQ := Lib.hid hq
  have HL := Lib.hid hL
  obtain ⟨o, ho⟩ : ∃ o, Out.err 1 = o := ⟨_, rfl⟩
  have HO := Lib.hid ho
  rw [ho]
  clear hq hL k1 k3 bM ho
  go_enter Tryd.func103, Tryd.ntmps103
  go_upto_region 1 with (fail)
  rw [← hM]
  clear hM
  obtain ⟨x1, x2, x3, _, _, _⟩ := HX.out.cells
  go_wp2_with fail
  refine (readV _ s1 N1' D1' _ H1.out HT.out).mono ?_
  rw [HL.out, Bool.not_true]
  rintro e wa ⟨t1, B1, m1, d1, B1', m1', d1', rfl, f1, ba⟩
  have bb := below_step ba ba.size (below_alloc wa (.cells #[.bool t1, .slice B1 m1 d1, .slice B1' m1' d1'] 60))
  have hf1 := Box.new wa (.bool t1) (.slice B1 m1 d1) (.slice B1' m1' d1') 60
  have szw : w.heap.size + 1 < wa.heap.size := Nat.lt_of_lt_of_le (by obtain ⟨_, _, _, _, _, _, hh⟩ := HR.out; exact hh.lt) ba.size
  have TA : Hid (N1 w (wa.alloc (.cells #[.bool t1, .slice B1 m1 d1, .slice B1' m1' d1'] 60)) (w.heap.size + 1) wa.heap.size t1 B1 m1 d1 B1' m1' d1') :=
    Lib.hid ⟨HR.out.below bb, hf1, HT.out.below bb, below_step BM.out BM.out.size bb, by omega, by omega⟩
  obtain ⟨w2, hw2⟩ : ∃ w2, wa.alloc (.cells #[.bool t1, .slice B1 m1 d1, .slice B1' m1' d1'] 60) = w2 := ⟨_, rfl⟩
  obtain ⟨gf, hgf⟩ : ∃ gf, wa.heap.size = gf := ⟨_, rfl⟩
  clear x1 x2 x3 ba bb f1 hf1 szw HR BM HX H1 HT
  go_upto_region 2 with (fail)
  rw [hw2] at TA
  try rw [hw2]
  rw [hgf] at TA
  try rw [hgf]
  clear hw2 hgf
  obtain ⟨y1, y2, y3, _⟩ := TA.out.box.cells
  obtain ⟨z1, z2, z3, hy1, hy2, hy3, f1, f2, f3⟩ := TA.out.res.cells
  obtain ⟨q0, q1, q2, hs, hb⟩ := OutIs.stored (o := .err 1) (k := 1) (s := false) (A1 := none) (A2 := none) (n1 := 0) (c1 := 0) (n2 := 0) (c2 := 0) ⟨rfl, rfl, by omega, by omega⟩ TA.out.res TA.out.bel TA.out.n3
  have Q := Lib.hid (And.intro q0 (And.intro q1 q2))
  have HBB := Lib.hid hb
  clear q0 q1 q2 hs hb
  go_wp2_with fail
  obtain ⟨q0, q1, q2⟩ := Q.out
  refine bodyPost_ret (v := .tuple #[noRat, .int .i64 1]) (by simp [results, Tryd.results103, go_sem, q0, q1, q2, noRat]) rfl ?_
  rw [← HO.out]
  exact OutPost.err rfl (by omega) (by omega) HBB.out
set_option maxHeartbeats 2000000 in
set_option maxRecDepth 100000 in
theorem nround_neg (s1 : Bool) (N1' D1' : Nat) (p : Int) (hp : p < 0) (up : Bool) (w : World) (v1 : Value) (h1 : RawV w v1 s1 N1' D1') (hT : Tab w) (q : Rat) (hq : ratOf s1 N1' D1' = q) (hL : largeB s1 N1' D1' = false) :
    Calls Tryd.prog 103 #[v1, .int .i64 p, .bool up] w (OutPost w (Out.err 2)) := by
  have H1 := Lib.hid h1
  have HT := Lib.hid hT
  obtain ⟨A1, n1, c1, A1', n1', c1', rfl⟩ := h1.shape
  clear h1 hT
  obtain ⟨M, hM, k1, k3, bM⟩ := start1 w (.bool s1) (.slice A1 n1 c1) (.slice A1' n1' c1') (.bool false) (.slice none 0 0) (.slice none 0 0) 24 24
  have HX := Lib.hid k1
  have HR := Lib.hid (show Res M (w.heap.size + 1) 24 from ⟨_, _, _, NI.bool _, NI.slice _ _ _, NI.slice _ _ _, k3⟩)
  have BM := Lib.hid bM
  replace H1 := Lib.hid (H1.out.below bM)
  replace HT := Lib.hid (HT.out.below bM)
  have HQ := Lib.hid hq
  have HL := Lib.hid hL
  have hp1 : decide (p < 0) = true := decide_eq_true hp
  clear hp
  obtain ⟨o, ho⟩ : ∃ o, Out.err 2 = o := ⟨_, rfl⟩
  have HO := Lib.hid ho
  rw [ho]
  clear hq hL k1 k3 bM ho
  go_enter Tryd.func103, Tryd.ntmps103
  go_upto_region 1 with (fail)
  rw [← hM]
  clear hM
  obtain ⟨x1, x2, x3, _, _, _⟩ := HX.out.cells
  go_wp2_with fail
  refine (readV _ s1 N1' D1' _ H1.out HT.out).mono ?_
  rw [HL.out, Bool.not_false]
  rintro e wa ⟨t1, B1, m1, d1, B1', m1', d1', rfl, f1, ba⟩
  have bb := below_step ba ba.size (below_alloc wa (.cells #[.bool t1, .slice B1 m1 d1, .slice B1' m1' d1'] 60))
  have hf1 := Box.new wa (.bool t1) (.slice B1 m1 d1) (.slice B1' m1' d1') 60
  have szw : w.heap.size + 1 < wa.heap.size := Nat.lt_of_lt_of_le (by obtain ⟨_, _, _, _, _, _, hh⟩ := HR.out; exact hh.lt) ba.size
  have TA : Hid (N1 w (wa.alloc (.cells #[.bool t1, .slice B1 m1 d1, .slice B1' m1' d1'] 60)) (w.heap.size + 1) wa.heap.size t1 B1 m1 d1 B1' m1' d1') :=
    Lib.hid ⟨HR.out.below bb, hf1, HT.out.below bb, below_step BM.out BM.out.size bb, by omega, by omega⟩
  have F1 : Hid (IsF (wa.alloc (.cells #[.bool t1, .slice B1 m1 d1, .slice B1' m1' d1'] 60)) (.agg #[.bool t1, .slice B1 m1 d1, .slice B1' m1' d1']) q) := Lib.hid (by rw [← HQ.out]; exact (f1.out rfl).below (below_alloc _ _))
  obtain ⟨w2, hw2⟩ : ∃ w2, wa.alloc (.cells #[.bool t1, .slice B1 m1 d1, .slice B1' m1' d1'] 60) = w2 := ⟨_, rfl⟩
  obtain ⟨gf, hgf⟩ : ∃ gf, wa.heap.size = gf := ⟨_, rfl⟩
  clear x1 x2 x3 ba bb f1 hf1 szw HR BM HX H1 HT
  go_upto_region 2 with (fail)
  rw [hw2] at TA F1
  try rw [hw2]
  rw [hgf] at TA
  try rw [hgf]
  clear hw2 hgf
  obtain ⟨y1, y2, y3, _⟩ := TA.out.box.cells
  obtain ⟨z1, z2, z3, hy1, hy2, hy3, f1, f2, f3⟩ := TA.out.res.cells
  obtain ⟨q0, q1, q2, hs, hb⟩ := OutIs.stored (o := .err 2) (k := 2) (s := false) (A1 := none) (A2 := none) (n1 := 0) (c1 := 0) (n2 := 0) (c2 := 0) ⟨rfl, rfl, by omega, by omega⟩ TA.out.res TA.out.bel TA.out.n3
  have Q := Lib.hid (And.intro q0 (And.intro q1 q2))
  have HBB := Lib.hid hb
  clear q0 q1 q2 hs hb
  go_wp2_with fail
  obtain ⟨q0, q1, q2⟩ := Q.out
  refine bodyPost_ret (v := .tuple #[noRat, .int .i64 2]) (by simp [results, Tryd.results103, go_sem, q0, q1, q2, noRat]) rfl ?_
  rw [← HO.out]
  exact OutPost.err rfl (by omega) (by omega) HBB.out
set_option maxHeartbeats 2000000 in
set_option maxRecDepth 100000 in
theorem nround_big (s1 : Bool) (N1' D1' : Nat) (p : Int) (hp : 256 < p) (up : Bool) (w : World) (v1 : Value) (h1 : RawV w v1 s1 N1' D1') (hT : Tab w) (q : Rat) (hq : ratOf s1 N1' D1' = q) (hL : largeB s1 N1' D1' = false) :
    Calls Tryd.prog 103 #[v1, .int .i64 p, .bool up] w (OutPost w (Out.err 2)) := by
  have H1 := Lib.hid h1
  have HT := Lib.hid hT
  obtain ⟨A1, n1, c1, A1', n1', c1', rfl⟩ := h1.shape
  clear h1 hT
  obtain ⟨M, hM, k1, k3, bM⟩ := start1 w (.bool s1) (.slice A1 n1 c1) (.slice A1' n1' c1') (.bool false) (.slice none 0 0) (.slice none 0 0) 24 24
  have HX := Lib.hid k1
  have HR := Lib.hid (show Res M (w.heap.size + 1) 24 from ⟨_, _, _, NI.bool _, NI.slice _ _ _, NI.slice _ _ _, k3⟩)
  have BM := Lib.hid bM
  replace H1 := Lib.hid (H1.out.below bM)
  replace HT := Lib.hid (HT.out.below bM)
  have HQ := Lib.hid hq
  have HL := Lib.hid hL
  have hp1 : decide (p < 0) = false := decide_eq_false (by omega)
  have hp2 : decide (256 < p) = true := decide_eq_true hp
  clear hp
  obtain ⟨o, ho⟩ : ∃ o, Out.err 2 = o := ⟨_, rfl⟩
  have HO := Lib.hid ho
  rw [ho]
  clear hq hL k1 k3 bM ho
  go_enter Tryd.func103, Tryd.ntmps103
  go_upto_region 1 with (fail)
  rw [← hM]
  clear hM
  obtain ⟨x1, x2, x3, _, _, _⟩ := HX.out.cells
  go_wp2_with fail
  refine (readV _ s1 N1' D1' _ H1.out HT.out).mono ?_
  rw [HL.out, Bool.not_false]
  rintro e wa ⟨t1, B1, m1, d1, B1', m1', d1', rfl, f1, ba⟩
  have bb := below_step ba ba.size (below_alloc wa (.cells #[.bool t1, .slice B1 m1 d1, .slice B1' m1' d1'] 60))
  have hf1 := Box.new wa (.bool t1) (.slice B1 m1 d1) (.slice B1' m1' d1') 60
  have szw : w.heap.size + 1 < wa.heap.size := Nat.lt_of_lt_of_le (by obtain ⟨_, _, _, _, _, _, hh⟩ := HR.out; exact hh.lt) ba.size
  have TA : Hid (N1 w (wa.alloc (.cells #[.bool t1, .slice B1 m1 d1, .slice B1' m1' d1'] 60)) (w.heap.size + 1) wa.heap.size t1 B1 m1 d1 B1' m1' d1') :=
    Lib.hid ⟨HR.out.below bb, hf1, HT.out.below bb, below_step BM.out BM.out.size bb, by omega, by omega⟩
  have F1 : Hid (IsF (wa.alloc (.cells #[.bool t1, .slice B1 m1 d1, .slice B1' m1' d1'] 60)) (.agg #[.bool t1, .slice B1 m1 d1, .slice B1' m1' d1']) q) := Lib.hid (by rw [← HQ.out]; exact (f1.out rfl).below (below_alloc _ _))
  obtain ⟨w2, hw2⟩ : ∃ w2, wa.alloc (.cells #[.bool t1, .slice B1 m1 d1, .slice B1' m1' d1'] 60) = w2 := ⟨_, rfl⟩
  obtain ⟨gf, hgf⟩ : ∃ gf, wa.heap.size = gf := ⟨_, rfl⟩
  clear x1 x2 x3 ba bb f1 hf1 szw HR BM HX H1 HT
  go_upto_region 2 with (fail)
  rw [hw2] at TA F1
  try rw [hw2]
  rw [hgf] at TA
  try rw [hgf]
  clear hw2 hgf
  obtain ⟨y1, y2, y3, _⟩ := TA.out.box.cells
  obtain ⟨z1, z2, z3, hy1, hy2, hy3, f1, f2, f3⟩ := TA.out.res.cells
  obtain ⟨q0, q1, q2, hs, hb⟩ := OutIs.stored (o := .err 2) (k := 2) (s := false) (A1 := none) (A2 := none) (n1 := 0) (c1 := 0) (n2 := 0) (c2 := 0) ⟨rfl, rfl, by omega, by omega⟩ TA.out.res TA.out.bel TA.out.n3
  have Q := Lib.hid (And.intro q0 (And.intro q1 q2))
  have HBB := Lib.hid hb
  clear q0 q1 q2 hs hb
  go_wp2_with fail
  obtain ⟨q0, q1, q2⟩ := Q.out
  refine bodyPost_ret (v := .tuple #[noRat, .int .i64 2]) (by simp [results, Tryd.results103, go_sem, q0, q1, q2, noRat]) rfl ?_
  rw [← HO.out]
  exact OutPost.err rfl (by omega) (by omega) HBB.out
set_option maxHeartbeats 2000000 in
set_option maxRecDepth 100000 in
theorem nround_ok (s1 : Bool) (N1' D1' : Nat) (p : Nat) (hp : p ≤ 256) (up : Bool) (r : Rat) (hr : gridQ (ratOf s1 N1' D1') p up = r) (w : World) (v1 : Value) (h1 : RawV w v1 s1 N1' D1') (hT : Tab w) (q : Rat) (hq : ratOf s1 N1' D1' = q) (hL : largeB s1 N1' D1' = false) :
    Calls Tryd.prog 103 #[v1, .int .i64 p, .bool up] w (OutPost w (give r)) := by
  have H1 := Lib.hid h1
  have HT := Lib.hid hT
  obtain ⟨A1, n1, c1, A1', n1', c1', rfl⟩ := h1.shape
  clear h1 hT
  obtain ⟨M, hM, k1, k3, bM⟩ := start1 w (.bool s1) (.slice A1 n1 c1) (.slice A1' n1' c1') (.bool false) (.slice none 0 0) (.slice none 0 0) 24 24
  have HX := Lib.hid k1
  have HR := Lib.hid (show Res M (w.heap.size + 1) 24 from ⟨_, _, _, NI.bool _, NI.slice _ _ _, NI.slice _ _ _, k3⟩)
  have BM := Lib.hid bM
  replace H1 := Lib.hid (H1.out.below bM)
  replace HT := Lib.hid (HT.out.below bM)
  have HQ := Lib.hid hq
  have HL := Lib.hid hL
  have hf := (largeB_false hL).2.2
  rw [hq] at hf
  have HF := Lib.hid hf
  clear hf
  rw [hq] at hr
  have HR2 := Lib.hid hr
  have HP := Lib.hid hp
  have hp1 : decide ((p : Int) < 0) = false := decide_eq_false (by omega)
  have hp2 : decide (256 < (p : Int)) = false := decide_eq_false (by omega)
  have hp3 : decide (256 < p) = false := decide_eq_false (by omega)
  clear hr hp
  obtain ⟨o, ho⟩ : ∃ o, give r = o := ⟨_, rfl⟩
  have HO := Lib.hid ho
  rw [ho]
  clear hq hL k1 k3 bM ho
  go_enter Tryd.func103, Tryd.ntmps103
  go_upto_region 1 with (fail)
  rw [← hM]
  clear hM
  obtain ⟨x1, x2, x3, _, _, _⟩ := HX.out.cells
  go_wp2_with fail
  refine (readV _ s1 N1' D1' _ H1.out HT.out).mono ?_
  rw [HL.out, Bool.not_false]
  rintro e wa ⟨t1, B1, m1, d1, B1', m1', d1', rfl, f1, ba⟩
  have bb := below_step ba ba.size (below_alloc wa (.cells #[.bool t1, .slice B1 m1 d1, .slice B1' m1' d1'] 60))
  have hf1 := Box.new wa (.bool t1) (.slice B1 m1 d1) (.slice B1' m1' d1') 60
  have szw : w.heap.size + 1 < wa.heap.size := Nat.lt_of_lt_of_le (by obtain ⟨_, _, _, _, _, _, hh⟩ := HR.out; exact hh.lt) ba.size
  have TA : Hid (N1 w (wa.alloc (.cells #[.bool t1, .slice B1 m1 d1, .slice B1' m1' d1'] 60)) (w.heap.size + 1) wa.heap.size t1 B1 m1 d1 B1' m1' d1') :=
    Lib.hid ⟨HR.out.below bb, hf1, HT.out.below bb, below_step BM.out BM.out.size bb, by omega, by omega⟩
  have F1 : Hid (IsF (wa.alloc (.cells #[.bool t1, .slice B1 m1 d1, .slice B1' m1' d1'] 60)) (.agg #[.bool t1, .slice B1 m1 d1, .slice B1' m1' d1']) q) := Lib.hid (by rw [← HQ.out]; exact (f1.out rfl).below (below_alloc _ _))
  obtain ⟨w2, hw2⟩ : ∃ w2, wa.alloc (.cells #[.bool t1, .slice B1 m1 d1, .slice B1' m1' d1'] 60) = w2 := ⟨_, rfl⟩
  obtain ⟨gf, hgf⟩ : ∃ gf, wa.heap.size = gf := ⟨_, rfl⟩
  clear x1 x2 x3 ba bb f1 hf1 szw HR BM HX H1 HT
  go_upto_region 2 with (fail)
  rw [hw2] at TA F1
  try rw [hw2]
  rw [hgf] at TA
  try rw [hgf]
  clear hw2 hgf
  obtain ⟨y1, y2, y3, _⟩ := TA.out.box.cells
  go_wp2_with fail
  refine (Calls.partsF (fGrid q p up (Nat.le_trans HP.out (by omega)) _ _ F1.out (fit_Wq HF.out (by omega)) TA.out.tab)).mono ?_
  rw [HR2.out]
  rintro e wb ⟨t2, B2, m2, d2, B2', m2', d2', rfl, i1, bb⟩
  replace TA := Lib.hid (TA.out.below bb)
  clear bb
  go_wp2_with fail
  refine (giveF _ _ _ i1.out).mono ?_
  rintro e we ⟨s9, A9, n9, c9, A9', n9', c9', k9, rfl, h9, b9⟩
  replace TA := Lib.hid (TA.out.below b9)
  obtain ⟨z1, z2, z3, hz1, hz2, hz3, k1, k2, k3⟩ := TA.out.res.cells
  obtain ⟨q0, q1, q2, hs, hb⟩ := OutIs.stored h9 TA.out.res TA.out.bel TA.out.n3
  have Q := Lib.hid (And.intro q0 (And.intro q1 q2))
  have HS := Lib.hid hs
  have HBB := Lib.hid hb
  clear q0 q1 q2 hs hb h9 b9
  go_wp2
  obtain ⟨q0, q1, q2⟩ := Q.out
  refine bodyPost_ret (v := .tuple #[.agg #[.bool s9, .slice A9 n9 c9, .slice A9' n9' c9'], .int .i64 k9]) (by simp [results, Tryd.results103, go_sem, q0, q1, q2]) rfl ?_
  rw [← HO.out]
  exact ⟨_, _, _, _, _, _, _, _, rfl, HS.out, HBB.out⟩
theorem nround (s1 : Bool) (N1' D1' : Nat) (p : Int) (up : Bool) (w : World) (v1 : Value) (h1 : RawV w v1 s1 N1' D1') (hT : Tab w) :
    Calls Tryd.prog 103 #[v1, .int .i64 p, .bool up] w (OutPost w (gridOut (largeB s1 N1' D1') p up (ratOf s1 N1' D1'))) := by
  unfold gridOut
  by_cases h : largeB s1 N1' D1' = true
  · rw [if_pos h]; exact nround_large s1 N1' D1' p up w v1 h1 hT _ rfl h
  · rw [if_neg h]
    have h' : largeB s1 N1' D1' = false := by simpa using h
    by_cases hn : p < 0
    · rw [if_pos (Or.inl hn)]; exact nround_neg s1 N1' D1' p hn up w v1 h1 hT _ rfl h'
    · by_cases hb : 256 < p
      · rw [if_pos (Or.inr hb)]; exact nround_big s1 N1' D1' p hb up w v1 h1 hT _ rfl h'
      · rw [if_neg (by omega)]
        obtain ⟨k, rfl⟩ : ∃ k : Nat, p = (k : Int) := ⟨p.toNat, by omega⟩
        rw [Int.toNat_natCast]
        exact nround_ok s1 N1' D1' k (by omega) up _ rfl w v1 h1 hT _ rfl h'
set_option maxHeartbeats 1000000 in
set_option maxRecDepth 100000 in
theorem nDown (s1 : Bool) (N1 D1 : Nat) (p : Int) (w : World) (v1 : Value) (h1 : RawV w v1 s1 N1 D1) (hT : Tab w) :
    Calls Tryd.prog 51 #[v1, .int .i64 p] w (OutPost w (gridOut (largeB s1 N1 D1) p false (ratOf s1 N1 D1))) := by
  have H1 := Lib.hid h1
  have HT := Lib.hid hT
  obtain ⟨A1, n1, c1, A1', n1', c1', rfl⟩ := h1.shape
  clear h1 hT
  obtain ⟨M, hM, k1, k3, bM⟩ := start1 w (.bool s1) (.slice A1 n1 c1) (.slice A1' n1' c1') (.bool false) (.slice none 0 0) (.slice none 0 0) 24 24
  have HX := Lib.hid k1
  have HR := Lib.hid (show Res M (w.heap.size + 1) 24 from ⟨_, _, _, NI.bool _, NI.slice _ _ _, NI.slice _ _ _, k3⟩)
  have BM := Lib.hid bM
  replace H1 := Lib.hid (H1.out.below bM)
  replace HT := Lib.hid (HT.out.below bM)
  have C := Lib.hid (nround s1 N1 D1 p false M _ H1.out HT.out)
  obtain ⟨o, ho⟩ : ∃ o, gridOut (largeB s1 N1 D1) p false (ratOf s1 N1 D1) = o := ⟨_, rfl⟩
  rw [ho] at C
  rw [ho]
  clear k1 k3 bM ho
  go_enter Tryd.func51, Tryd.ntmps51
  go_upto_region 1 with (fail)
  rw [← hM]
  clear hM
  obtain ⟨x1, x2, x3, _, _, _⟩ := HX.out.cells
  go_wp2_with fail
  refine C.out.mono ?_
  rintro e we ⟨s9, A9, n9, c9, A9', n9', c9', k9, rfl, h9, b9⟩
  replace HR := Lib.hid (HR.out.below b9)
  have BE := Lib.hid (below_step BM.out BM.out.size b9)
  obtain ⟨q0, q1, q2, hs, hb⟩ := OutIs.stored h9 HR.out BE.out (by omega)
  have Q := Lib.hid (And.intro q0 (And.intro q1 q2))
  have HS := Lib.hid hs
  have HB := Lib.hid hb
  clear b9 h9 q0 q1 q2 hs hb x1 x2 x3
  obtain ⟨r1, r2, r3, hr1, hr2, hr3, _, _, _⟩ := HR.out.cells
  go_wp2_with fail
  obtain ⟨q0, q1, q2⟩ := Q.out
  refine bodyPost_ret (v := .tuple #[.agg #[.bool s9, .slice A9 n9 c9, .slice A9' n9' c9'], .int .i64 k9]) (by simp [results, Tryd.results51, go_sem, q0, q1, q2]) rfl ?_
  exact ⟨_, _, _, _, _, _, _, _, rfl, HS.out, HB.out⟩
set_option maxHeartbeats 1000000 in
set_option maxRecDepth 100000 in
theorem nUp (s1 : Bool) (N1 D1 : Nat) (p : Int) (w : World) (v1 : Value) (h1 : RawV w v1 s1 N1 D1) (hT : Tab w) :
    Calls Tryd.prog 52 #[v1, .int .i64 p] w (OutPost w (gridOut (largeB s1 N1 D1) p true (ratOf s1 N1 D1))) := by
  have H1 := Lib.hid h1
  have HT := Lib.hid hT
  obtain ⟨A1, n1, c1, A1', n1', c1', rfl⟩ := h1.shape
  clear h1 hT
  obtain ⟨M, hM, k1, k3, bM⟩ := start1 w (.bool s1) (.slice A1 n1 c1) (.slice A1' n1' c1') (.bool false) (.slice none 0 0) (.slice none 0 0) 24 24
  have HX := Lib.hid k1
  have HR := Lib.hid (show Res M (w.heap.size + 1) 24 from ⟨_, _, _, NI.bool _, NI.slice _ _ _, NI.slice _ _ _, k3⟩)
  have BM := Lib.hid bM
  replace H1 := Lib.hid (H1.out.below bM)
  replace HT := Lib.hid (HT.out.below bM)
  have C := Lib.hid (nround s1 N1 D1 p true M _ H1.out HT.out)
  obtain ⟨o, ho⟩ : ∃ o, gridOut (largeB s1 N1 D1) p true (ratOf s1 N1 D1) = o := ⟨_, rfl⟩
  rw [ho] at C
  rw [ho]
  clear k1 k3 bM ho
  go_enter Tryd.func52, Tryd.ntmps52
  go_upto_region 1 with (fail)
  rw [← hM]
  clear hM
  obtain ⟨x1, x2, x3, _, _, _⟩ := HX.out.cells
  go_wp2_with fail
  refine C.out.mono ?_
  rintro e we ⟨s9, A9, n9, c9, A9', n9', c9', k9, rfl, h9, b9⟩
  replace HR := Lib.hid (HR.out.below b9)
  have BE := Lib.hid (below_step BM.out BM.out.size b9)
  obtain ⟨q0, q1, q2, hs, hb⟩ := OutIs.stored h9 HR.out BE.out (by omega)
  have Q := Lib.hid (And.intro q0 (And.intro q1 q2))
  have HS := Lib.hid hs
  have HB := Lib.hid hb
  clear b9 h9 q0 q1 q2 hs hb x1 x2 x3
  obtain ⟨r1, r2, r3, hr1, hr2, hr3, _, _, _⟩ := HR.out.cells
  go_wp2_with fail
  obtain ⟨q0, q1, q2⟩ := Q.out
  refine bodyPost_ret (v := .tuple #[.agg #[.bool s9, .slice A9 n9 c9, .slice A9' n9' c9'], .int .i64 k9]) (by simp [results, Tryd.results52, go_sem, q0, q1, q2]) rfl ?_
  exact ⟨_, _, _, _, _, _, _, _, rfl, HS.out, HB.out⟩
end Go.Proofs.YtfmhplcpejmkhaaDoor

namespace Go.Proofs.YtfmhplcpejmkhaaDoor
open Go.RowKit Dig
set_option linter.unusedVariables false
set_option linter.unusedSimpArgs false
/-- two values that have been read, and a variable for a result -/
structure N2 (w M : World) (g3 gf gg : Nat) (s1 : Bool) (A1 : Option Addr) (n1 c1 : Nat) (B1 : Option Addr) (m1 d1 : Nat) (a : Rat) (s2 : Bool) (A2 : Option Addr) (n2 c2 : Nat) (B2 : Option Addr) (m2 d2 : Nat) (b : Rat) : Prop where
  res : Res M g3 24
  f : Box M gf (.bool s1) (.slice A1 n1 c1) (.slice B1 m1 d1) 60
  g : Box M gg (.bool s2) (.slice A2 n2 c2) (.slice B2 m2 d2) 60
  fa : IsF M (.agg #[.bool s1, .slice A1 n1 c1, .slice B1 m1 d1]) a
  fb : IsF M (.agg #[.bool s2, .slice A2 n2 c2, .slice B2 m2 d2]) b
  tab : Tab M
  bel : Below w.heap.size w M
  n3 : w.heap.size ≤ g3
  n1 : gf ≠ g3
  n2 : gg ≠ g3
  n4 : g3 ≠ 0
theorem IsF.grown {w w' : World} {v : Value} {q : Rat} {g : Nat} {x y z : Value} {t : TypeId} (h : IsF w v q) (hb : Box w g x y z t) (hx : NI x) (hy : NI y) (hz : NI z) (hg : w.grownBy w' (some g)) : IsF w' v q := by
  obtain ⟨A1, c1, A2, c2, e, r1, r2⟩ := h
  exact ⟨A1, c1, A2, c2, e, r1.grown_box hb hx hy hz hg, r2.grown_box hb hx hy hz hg⟩
section
variable {w M M' : World} {g3 gf gg : Nat} {s1 : Bool} {A1 : Option Addr} {n1 c1 : Nat} {B1 : Option Addr} {m1 d1 : Nat} {a : Rat} {s2 : Bool} {A2 : Option Addr} {n2 c2 : Nat} {B2 : Option Addr} {m2 d2 : Nat} {b : Rat}
theorem N2.below (h : N2 w M g3 gf gg s1 A1 n1 c1 B1 m1 d1 a s2 A2 n2 c2 B2 m2 d2 b) (hb : Below M.heap.size M M') : N2 w M' g3 gf gg s1 A1 n1 c1 B1 m1 d1 a s2 A2 n2 c2 B2 m2 d2 b :=
  ⟨h.res.below hb, h.f.below hb, h.g.below hb, h.fa.below hb, h.fb.below hb, h.tab.below hb, below_step h.bel h.bel.size hb, h.n3, h.n1, h.n2, h.n4⟩
theorem N2.drew (h : N2 w M g3 gf gg s1 A1 n1 c1 B1 m1 d1 a s2 A2 n2 c2 B2 m2 d2 b) : N2 w M.drew g3 gf gg s1 A1 n1 c1 B1 m1 d1 a s2 A2 n2 c2 B2 m2 d2 b := h.below (Below.refl _ _).drew
theorem N2.grown (h : N2 w M g3 gf gg s1 A1 n1 c1 B1 m1 d1 a s2 A2 n2 c2 B2 m2 d2 b) {x y z : Value} (hx : NI x) (hy : NI y) (hz : NI z) : N2 w (((M.setCell ⟨g3, 0, none⟩ x).setCell ⟨g3, 1, none⟩ y).setCell ⟨g3, 2, none⟩ z) g3 gf gg s1 A1 n1 c1 B1 m1 d1 a s2 A2 n2 c2 B2 m2 d2 b := by
  have hg := grown_set3 M g3 x y z
  obtain ⟨x', y', z', hx', hy', hz', h4⟩ := h.res
  exact ⟨h.res.set3 hx hy hz, (hg.block gf h.f.lt (fun e => h.n1 (Option.some.inj e))).trans h.f, (hg.block gg h.g.lt (fun e => h.n2 (Option.some.inj e))).trans h.g, h.fa.grown h4 hx' hy' hz' hg, h.fb.grown h4 hx' hy' hz' hg, h.tab.grown hg h.n4, below_set3 h.bel h.n3 _ _ _, h.n3, h.n1, h.n2, h.n4⟩
theorem N2.cells (h : N2 w M g3 gf gg s1 A1 n1 c1 B1 m1 d1 a s2 A2 n2 c2 B2 m2 d2 b) : (World.cell? M ⟨gf, 0, none⟩ = some (.bool s1) ∧ World.cell? M ⟨gf, 1, none⟩ = some (.slice A1 n1 c1) ∧ World.cell? M ⟨gf, 2, none⟩ = some (.slice B1 m1 d1) ∧ World.cell? M ⟨gg, 0, none⟩ = some (.bool s2) ∧ World.cell? M ⟨gg, 1, none⟩ = some (.slice A2 n2 c2) ∧ World.cell? M ⟨gg, 2, none⟩ = some (.slice B2 m2 d2) ∧ Hid (N2 w M g3 gf gg s1 A1 n1 c1 B1 m1 d1 a s2 A2 n2 c2 B2 m2 d2 b)) := by
  obtain ⟨a1, a2, a3, _, _, _⟩ := h.f.cells
  obtain ⟨b1, b2, b3, _, _, _⟩ := h.g.cells
  exact ⟨a1, a2, a3, b1, b2, b3, h⟩
theorem N2.of (h : (World.cell? M ⟨gf, 0, none⟩ = some (.bool s1) ∧ World.cell? M ⟨gf, 1, none⟩ = some (.slice A1 n1 c1) ∧ World.cell? M ⟨gf, 2, none⟩ = some (.slice B1 m1 d1) ∧ World.cell? M ⟨gg, 0, none⟩ = some (.bool s2) ∧ World.cell? M ⟨gg, 1, none⟩ = some (.slice A2 n2 c2) ∧ World.cell? M ⟨gg, 2, none⟩ = some (.slice B2 m2 d2) ∧ Hid (N2 w M g3 gf gg s1 A1 n1 c1 B1 m1 d1 a s2 A2 n2 c2 B2 m2 d2 b))) : N2 w M g3 gf gg s1 A1 n1 c1 B1 m1 d1 a s2 A2 n2 c2 B2 m2 d2 b := h.2.2.2.2.2.2.out
theorem N2.next (h : (World.cell? M ⟨gf, 0, none⟩ = some (.bool s1) ∧ World.cell? M ⟨gf, 1, none⟩ = some (.slice A1 n1 c1) ∧ World.cell? M ⟨gf, 2, none⟩ = some (.slice B1 m1 d1) ∧ World.cell? M ⟨gg, 0, none⟩ = some (.bool s2) ∧ World.cell? M ⟨gg, 1, none⟩ = some (.slice A2 n2 c2) ∧ World.cell? M ⟨gg, 2, none⟩ = some (.slice B2 m2 d2) ∧ Hid (N2 w M g3 gf gg s1 A1 n1 c1 B1 m1 d1 a s2 A2 n2 c2 B2 m2 d2 b))) (hb : Below M.heap.size M M') : (World.cell? M' ⟨gf, 0, none⟩ = some (.bool s1) ∧ World.cell? M' ⟨gf, 1, none⟩ = some (.slice A1 n1 c1) ∧ World.cell? M' ⟨gf, 2, none⟩ = some (.slice B1 m1 d1) ∧ World.cell? M' ⟨gg, 0, none⟩ = some (.bool s2) ∧ World.cell? M' ⟨gg, 1, none⟩ = some (.slice A2 n2 c2) ∧ World.cell? M' ⟨gg, 2, none⟩ = some (.slice B2 m2 d2) ∧ Hid (N2 w M' g3 gf gg s1 A1 n1 c1 B1 m1 d1 a s2 A2 n2 c2 B2 m2 d2 b)) := ((N2.of h).below hb).cells
theorem N2.nextS (h : (World.cell? M ⟨gf, 0, none⟩ = some (.bool s1) ∧ World.cell? M ⟨gf, 1, none⟩ = some (.slice A1 n1 c1) ∧ World.cell? M ⟨gf, 2, none⟩ = some (.slice B1 m1 d1) ∧ World.cell? M ⟨gg, 0, none⟩ = some (.bool s2) ∧ World.cell? M ⟨gg, 1, none⟩ = some (.slice A2 n2 c2) ∧ World.cell? M ⟨gg, 2, none⟩ = some (.slice B2 m2 d2) ∧ Hid (N2 w M g3 gf gg s1 A1 n1 c1 B1 m1 d1 a s2 A2 n2 c2 B2 m2 d2 b))) {x : Bool} {B C : Option Addr} {k k' c c' : Nat} : (World.cell? (((M.setCell ⟨g3, 0, none⟩ (.bool x)).setCell ⟨g3, 1, none⟩ (.slice B k k')).setCell ⟨g3, 2, none⟩ (.slice C c c')) ⟨gf, 0, none⟩ = some (.bool s1) ∧ World.cell? (((M.setCell ⟨g3, 0, none⟩ (.bool x)).setCell ⟨g3, 1, none⟩ (.slice B k k')).setCell ⟨g3, 2, none⟩ (.slice C c c')) ⟨gf, 1, none⟩ = some (.slice A1 n1 c1) ∧ World.cell? (((M.setCell ⟨g3, 0, none⟩ (.bool x)).setCell ⟨g3, 1, none⟩ (.slice B k k')).setCell ⟨g3, 2, none⟩ (.slice C c c')) ⟨gf, 2, none⟩ = some (.slice B1 m1 d1) ∧ World.cell? (((M.setCell ⟨g3, 0, none⟩ (.bool x)).setCell ⟨g3, 1, none⟩ (.slice B k k')).setCell ⟨g3, 2, none⟩ (.slice C c c')) ⟨gg, 0, none⟩ = some (.bool s2) ∧ World.cell? (((M.setCell ⟨g3, 0, none⟩ (.bool x)).setCell ⟨g3, 1, none⟩ (.slice B k k')).setCell ⟨g3, 2, none⟩ (.slice C c c')) ⟨gg, 1, none⟩ = some (.slice A2 n2 c2) ∧ World.cell? (((M.setCell ⟨g3, 0, none⟩ (.bool x)).setCell ⟨g3, 1, none⟩ (.slice B k k')).setCell ⟨g3, 2, none⟩ (.slice C c c')) ⟨gg, 2, none⟩ = some (.slice B2 m2 d2) ∧ Hid (N2 w (((M.setCell ⟨g3, 0, none⟩ (.bool x)).setCell ⟨g3, 1, none⟩ (.slice B k k')).setCell ⟨g3, 2, none⟩ (.slice C c c')) g3 gf gg s1 A1 n1 c1 B1 m1 d1 a s2 A2 n2 c2 B2 m2 d2 b)) :=
  ((N2.of h).grown (NI.bool _) (NI.slice _ _ _) (NI.slice _ _ _)).cells
end
/-- how two rational numbers compare -/
def cmpQ (a b : Rat) : Int := sgnI (ng (a - b)) (a - b).num.natAbs
theorem sgnI_mk (n : Int) (d : Nat) (hd : d ≠ 0) : sgnI (ng (mkRat n d)) (mkRat n d).num.natAbs = cmpZ n 0 := by
  obtain ⟨s, k, rfl, hs⟩ : ∃ s k, n = sg s k ∧ (s = true → k ≠ 0) := ⟨decide (n < 0), n.natAbs, by unfold sg; by_cases h : n < 0 <;> simp [h] <;> omega, by intro h; simp at h; omega⟩
  by_cases hk : k = 0
  · subst hk
    rw [mk_zero, sg_zero]
    decide
  · rw [mk_sign s hd hk, mk_abs s k hd]
    have := div_gcd_pos (d := d) hk
    unfold sgnI cmpZ sg
    rw [if_neg (by omega)]
    cases s
    · have h1 : ¬ ((k : Int) < 0) := by omega
      have h2 : ¬ ((k : Int) = 0) := by omega
      simp [h1, hk]
    · rw [if_pos rfl, if_pos]
      simp
      omega
theorem cmpZ_Q (a b : Rat) : cmpZ (sg (ng a) a.num.natAbs * b.den) (sg (ng b) b.num.natAbs * a.den) = cmpQ a b := by
  unfold cmpQ
  have e : a - b = mkRat (a.num * b.den - b.num * a.den) (a.den * b.den) := by
    rw [Rat.sub_eq_add_neg, Rat.add_def', Rat.neg_num, Rat.neg_den]
    congr 1
    grind
  rw [e, sgnI_mk _ _ (Nat.mul_ne_zero a.den_nz b.den_nz), sg_ng, sg_ng]
  unfold cmpZ
  split <;> split <;> (try split) <;> (try split) <;> omega
theorem inv_facts {b : Rat} (h : b ≠ 0) : ng b⁻¹ = ng b ∧ b⁻¹.num.natAbs = b.den ∧ b⁻¹.den = b.num.natAbs := by
  have hn : b.num.natAbs ≠ 0 := by
    have : b.num ≠ 0 := fun h0 => h (Rat.num_eq_zero.1 h0)
    omega
  have e := rat_div 1 b h
  rw [Rat.div_def, Rat.one_mul] at e
  have e1 : mkRat (sg (ng b) b.den) b.num.natAbs = b⁻¹ := by
    rw [← e]
    have h1 : ng (1 : Rat) = false := by decide
    have h2 : (1 : Rat).num.natAbs = 1 := by decide
    have h3 : (1 : Rat).den = 1 := by decide
    rw [h1, h2, h3, Nat.one_mul, Nat.one_mul]
    cases ng b <;> rfl
  have hc : Nat.gcd b.den b.num.natAbs = 1 := by rw [Nat.gcd_comm]; exact b.reduced
  rw [← e1, mk_sign _ hn b.den_nz, mk_abs _ _ hn, mk_den _ _ hn, hc, Nat.div_one, Nat.div_one]
  exact ⟨rfl, rfl, rfl⟩
theorem fCmp (a b : Rat) (w : World) (v1 v2 : Value) (h1 : IsF w v1 a) (h2 : IsF w v2 b) (k1 : Wq 400000 a) (k2 : Wq 400000 b) :
    Calls Tryd.prog 97 #[v1, v2] w fun e w' => e = .returned (.int .i64 (cmpQ a b)) ∧ Below w.heap.size w w' := by
  obtain ⟨A1, c1, A2, c2, rfl, r1, r2⟩ := h1
  obtain ⟨A3, c3, A4, c4, rfl, r3, r4⟩ := h2
  have := fracCmp (ng a) a.num.natAbs a.den (ng b) b.num.natAbs b.den w _ _ _ _ _ _ _ _ r1 r2 r3 r4 k1.1 k1.2 k2.1 k2.2 a.den_nz b.den_nz
  rwa [cmpZ_Q] at this
theorem fInv (b : Rat) (w : World) (v : Value) (h : IsF w v b) (hb : b ≠ 0) :
    Calls Tryd.prog 88 #[v] w fun e w' => ∃ u, e = .returned u ∧ IsF w' u b⁻¹ ∧ Below w.heap.size w w' := by
  obtain ⟨A1, c1, A2, c2, rfl, r1, r2⟩ := h
  obtain ⟨e1, e2, e3⟩ := inv_facts hb
  refine (fracInverse _ _ _ w _ _ _ _).mono ?_
  rintro e w' ⟨rfl, hl⟩
  exact ⟨_, rfl, by unfold IsF; rw [e1, e2, e3]; exact ⟨_, _, _, _, rfl, r2.below hl, r1.below hl⟩, hl⟩
theorem inv_Wq {b : Rat} {k : Nat} (h : b ≠ 0) (hk : Wq k b) : Wq k b⁻¹ := by
  obtain ⟨_, e2, e3⟩ := inv_facts h
  unfold Wq
  rw [e2, e3]
  exact ⟨hk.2, hk.1⟩
end Go.Proofs.YtfmhplcpejmkhaaDoor

namespace Go.Proofs.YtfmhplcpejmkhaaDoor
open Go.RowKit Dig
set_option linter.unusedVariables false
set_option linter.unusedSimpArgs false
theorem sgn_eq (x : Rat) : sgnI (ng x) x.num.natAbs = if x < 0 then -1 else if x = 0 then 0 else 1 := by
  unfold sgnI ng
  by_cases h0 : x = 0
  · subst h0
    decide
  · have hn : x.num ≠ 0 := fun h => h0 (Rat.num_eq_zero.1 h)
    rw [if_neg (by omega), if_neg h0]
    by_cases hl : x < 0
    · have h1 : ¬ (0 ≤ x) := by grind
      rw [← Rat.num_nonneg] at h1
      have : x.num < 0 := by omega
      rw [if_pos (by simpa using this), if_pos hl]
    · have h1 : 0 ≤ x := by grind
      rw [← Rat.num_nonneg] at h1
      have : ¬ x.num < 0 := by omega
      rw [if_neg (by simpa using this), if_neg hl]
theorem cmp_lt {a b : Rat} (h : a < b) : cmpQ a b = -1 := by
  unfold cmpQ
  rw [sgn_eq, if_pos (by grind)]
theorem cmp_eq {a b : Rat} (h : a = b) : cmpQ a b = 0 := by
  unfold cmpQ
  rw [sgn_eq, if_neg (by grind), if_pos (by grind)]
theorem cmp_gt {a b : Rat} (h : b < a) : cmpQ a b = 1 := by
  unfold cmpQ
  rw [sgn_eq, if_neg (by grind), if_neg (by grind)]
theorem cmp_cases (a b : Rat) : (a < b ∧ cmpQ a b = -1) ∨ (a = b ∧ cmpQ a b = 0) ∨ (b < a ∧ cmpQ a b = 1) := by
  by_cases h : a < b
  · exact Or.inl ⟨h, cmp_lt h⟩
  · by_cases h2 : a = b
    · exact Or.inr (Or.inl ⟨h2, cmp_eq h2⟩)
    · have h3 : b < a := by grind
      exact Or.inr (Or.inr ⟨h3, cmp_gt h3⟩)
theorem cmp_swap (a b : Rat) : cmpQ b a = -cmpQ a b := by
  rcases cmp_cases a b with ⟨h, e⟩ | ⟨h, e⟩ | ⟨h, e⟩
  · rw [e, cmp_gt h]; rfl
  · rw [e, cmp_eq h.symm]; rfl
  · rw [e, cmp_lt h]
theorem cmp_add (a b c : Rat) : cmpQ (a + c) (b + c) = cmpQ a b := by
  unfold cmpQ
  have : a + c - (b + c) = a - b := by grind
  rw [this]
theorem cmp_trans (x y z : Rat) : (cmpQ x y = cmpQ y z → cmpQ x z = cmpQ x y) ∧ (cmpQ x y = 0 → cmpQ x z = cmpQ y z) ∧ (cmpQ y z = 0 → cmpQ x z = cmpQ x y) := by
  rcases cmp_cases x y with ⟨h, e⟩ | ⟨h, e⟩ | ⟨h, e⟩ <;> rcases cmp_cases y z with ⟨h2, e2⟩ | ⟨h2, e2⟩ | ⟨h2, e2⟩ <;> rw [e, e2]
  · have h3 : x < z := by grind
    rw [cmp_lt h3]; decide
  · subst h2; rw [e]; decide
  · refine ⟨fun h => ?_, fun h => ?_, fun h => ?_⟩ <;> exact absurd h (by decide)
  · subst h; rw [e2]; decide
  · subst h h2; rw [cmp_eq rfl]; decide
  · subst h; rw [e2]; decide
  · refine ⟨fun h => ?_, fun h => ?_, fun h => ?_⟩ <;> exact absurd h (by decide)
  · subst h2; rw [e]; decide
  · have h3 : z < x := by grind
    rw [cmp_gt h3]; decide
end Go.Proofs.YtfmhplcpejmkhaaDoor

namespace Go.Proofs.YtfmhplcpejmkhaaDoor
open Go.RowKit Dig
set_option linter.unusedVariables false
set_option linter.unusedSimpArgs false
set_option maxHeartbeats 2000000 in
set_option maxRecDepth 100000 in
theorem nCompare_true_true (s1 : Bool) (X1 Y1 : Nat) (s2 : Bool) (X2 Y2 : Nat)  (w : World) (v1 v2 : Value) (h1 : RawV w v1 s1 X1 Y1) (h2 : RawV w v2 s2 X2 Y2) (hT : Tab w) (a b : Rat) (ha : ratOf s1 X1 Y1 = a) (hb : ratOf s2 X2 Y2 = b) (hL1 : largeB s1 X1 Y1 = true) (hL2 : largeB s2 X2 Y2 = true) :
    Calls Tryd.prog 46 #[v1, v2] w (fun e w' => e = .returned (.tuple #[.int .i64 0, .int .i64 1]) ∧ Below w.heap.size w w') := by
  have H1 := Lib.hid h1
  have H2 := Lib.hid h2
  have HT := Lib.hid hT
  obtain ⟨A1, n1, c1, A1', n1', c1', rfl⟩ := h1.shape
  obtain ⟨A2, n2, c2, A2', n2', c2', rfl⟩ := h2.shape
  clear h1 h2 hT
  obtain ⟨M, hM, k1, k2, bM⟩ := start1 w (.bool s1) (.slice A1 n1 c1) (.slice A1' n1' c1') (.bool s2) (.slice A2 n2 c2) (.slice A2' n2' c2') 24 24
  have HR := Lib.hid True.intro
  have HX := Lib.hid k1
  have HY := Lib.hid k2
  have BM := Lib.hid bM
  replace H1 := Lib.hid (H1.out.below bM)
  replace H2 := Lib.hid (H2.out.below bM)
  replace HT := Lib.hid (HT.out.below bM)
  have HA := Lib.hid ha
  have HB := Lib.hid hb
  have HL1 := Lib.hid hL1
  have HL2 := Lib.hid hL2
  clear ha hb hL1 hL2 k1 k2 bM
  go_enter Tryd.func46, Tryd.ntmps46
  go_upto_region 1 with (fail)
  rw [← hM]
  clear hM
  obtain ⟨x1, x2, x3, _, _, _⟩ := HX.out.cells
  go_wp2_with fail
  refine (readV _ s1 X1 Y1 _ H1.out HT.out).mono ?_
  rw [HL1.out, Bool.not_true]
  rintro e wa ⟨t1, B1, m1, d1, B1', m1', d1', rfl, f1, ba⟩
  have bb := below_step ba ba.size (below_alloc wa (.cells #[.bool t1, .slice B1 m1 d1, .slice B1' m1' d1'] 60))
  have HF1 := Lib.hid (Box.new wa (.bool t1) (.slice B1 m1 d1) (.slice B1' m1' d1') 60)
  have F1 : Hid (largeB s1 X1 Y1 = false → IsF (wa.alloc (.cells #[.bool t1, .slice B1 m1 d1, .slice B1' m1' d1'] 60)) (.agg #[.bool t1, .slice B1 m1 d1, .slice B1' m1' d1']) (ratOf s1 X1 Y1)) := Lib.hid (fun h => absurd (HL1.out.symm.trans h) (by simp))
  have hsz : w.heap.size + 1 < wa.heap.size := Nat.lt_of_lt_of_le (HY.out.lt) ba.size
  replace HX := Lib.hid (HX.out.below bb)
  replace HY := Lib.hid (HY.out.below bb)
  replace H2 := Lib.hid (H2.out.below bb)
  replace HT := Lib.hid (HT.out.below bb)
  have BM := Lib.hid (below_step BM.out BM.out.size bb)
  obtain ⟨w1, hw1⟩ : ∃ w1, wa.alloc (.cells #[.bool t1, .slice B1 m1 d1, .slice B1' m1' d1'] 60) = w1 := ⟨_, rfl⟩
  have hs1 : w1.heap.size = wa.heap.size + 1 := by rw [← hw1]; simp
  have HS1 := Lib.hid hs1
  have HSZ := Lib.hid hsz
  clear x1 x2 x3 ba bb f1 hs1 hsz
  go_upto_region 2 with (fail)
  rw [hw1] at HX HY H2 HT BM HF1 F1
  try rw [hw1]
  clear hw1
  obtain ⟨y1, y2, y3, _, _, _⟩ := HY.out.cells
  go_wp2_with fail
  refine (readV _ s2 X2 Y2 _ H2.out HT.out).mono ?_
  rw [HL2.out, Bool.not_true]
  rintro e wc ⟨t2, B2, m2, d2, B2', m2', d2', rfl, f2, bc⟩
  have bd := below_step bc bc.size (below_alloc wc (.cells #[.bool t2, .slice B2 m2 d2, .slice B2' m2' d2'] 60))
  have HF2 := Lib.hid (Box.new wc (.bool t2) (.slice B2 m2 d2) (.slice B2' m2' d2') 60)
  have F2 : Hid (largeB s2 X2 Y2 = false → IsF (wc.alloc (.cells #[.bool t2, .slice B2 m2 d2, .slice B2' m2' d2'] 60)) (.agg #[.bool t2, .slice B2 m2 d2, .slice B2' m2' d2']) (ratOf s2 X2 Y2)) := Lib.hid (fun h => absurd (HL2.out.symm.trans h) (by simp))
  have F1 : Hid (largeB s1 X1 Y1 = false → IsF (wc.alloc (.cells #[.bool t2, .slice B2 m2 d2, .slice B2' m2' d2'] 60)) (.agg #[.bool t1, .slice B1 m1 d1, .slice B1' m1' d1']) (ratOf s1 X1 Y1)) := Lib.hid (fun h => (F1.out h).below bd)
  have hsz2 : wa.heap.size + 1 ≤ wc.heap.size := by have := bc.size; have := HS1.out; omega
  replace HF1 := Lib.hid (HF1.out.below bd)
  replace HT := Lib.hid (HT.out.below bd)
  have BM := Lib.hid (below_step BM.out BM.out.size bd)
  have HSZ2 := Lib.hid hsz2
  obtain ⟨w2, hw2⟩ : ∃ w2, wc.alloc (.cells #[.bool t2, .slice B2 m2 d2, .slice B2' m2' d2'] 60) = w2 := ⟨_, rfl⟩
  obtain ⟨gf, hgf⟩ : ∃ g, wa.heap.size = g := ⟨_, rfl⟩
  obtain ⟨gg, hgg⟩ : ∃ g, wc.heap.size = g := ⟨_, rfl⟩
  clear y1 y2 y3 bc bd f2 HS1 hsz2 HX HY H1 H2
  go_upto_region 3 with (fail)
  rw [hw2] at HF1 HF2 HT BM F1 F2
  try rw [hw2]
  rw [hgf] at HF1 HSZ HSZ2
  rw [hgg] at HF2 HSZ2
  try rw [hgf]
  try rw [hgg]
  clear hw2 hgf hgg
  go_wp2_with fail
  refine bodyPost_ret (v := .tuple #[.int .i64 0, .int .i64 1]) (by simp [results, Tryd.results46, go_sem]) rfl ⟨rfl, BM.out⟩
set_option maxHeartbeats 2000000 in
set_option maxRecDepth 100000 in
theorem nCompare_true_false (s1 : Bool) (X1 Y1 : Nat) (s2 : Bool) (X2 Y2 : Nat)  (w : World) (v1 v2 : Value) (h1 : RawV w v1 s1 X1 Y1) (h2 : RawV w v2 s2 X2 Y2) (hT : Tab w) (a b : Rat) (ha : ratOf s1 X1 Y1 = a) (hb : ratOf s2 X2 Y2 = b) (hL1 : largeB s1 X1 Y1 = true) (hL2 : largeB s2 X2 Y2 = false) :
    Calls Tryd.prog 46 #[v1, v2] w (fun e w' => e = .returned (.tuple #[.int .i64 0, .int .i64 1]) ∧ Below w.heap.size w w') := by
  have H1 := Lib.hid h1
  have H2 := Lib.hid h2
  have HT := Lib.hid hT
  obtain ⟨A1, n1, c1, A1', n1', c1', rfl⟩ := h1.shape
  obtain ⟨A2, n2, c2, A2', n2', c2', rfl⟩ := h2.shape
  clear h1 h2 hT
  obtain ⟨M, hM, k1, k2, bM⟩ := start1 w (.bool s1) (.slice A1 n1 c1) (.slice A1' n1' c1') (.bool s2) (.slice A2 n2 c2) (.slice A2' n2' c2') 24 24
  have HR := Lib.hid True.intro
  have HX := Lib.hid k1
  have HY := Lib.hid k2
  have BM := Lib.hid bM
  replace H1 := Lib.hid (H1.out.below bM)
  replace H2 := Lib.hid (H2.out.below bM)
  replace HT := Lib.hid (HT.out.below bM)
  have HA := Lib.hid ha
  have HB := Lib.hid hb
  have HL1 := Lib.hid hL1
  have HL2 := Lib.hid hL2
  clear ha hb hL1 hL2 k1 k2 bM
  go_enter Tryd.func46, Tryd.ntmps46
  go_upto_region 1 with (fail)
  rw [← hM]
  clear hM
  obtain ⟨x1, x2, x3, _, _, _⟩ := HX.out.cells
  go_wp2_with fail
  refine (readV _ s1 X1 Y1 _ H1.out HT.out).mono ?_
  rw [HL1.out, Bool.not_true]
  rintro e wa ⟨t1, B1, m1, d1, B1', m1', d1', rfl, f1, ba⟩
  have bb := below_step ba ba.size (below_alloc wa (.cells #[.bool t1, .slice B1 m1 d1, .slice B1' m1' d1'] 60))
  have HF1 := Lib.hid (Box.new wa (.bool t1) (.slice B1 m1 d1) (.slice B1' m1' d1') 60)
  have F1 : Hid (largeB s1 X1 Y1 = false → IsF (wa.alloc (.cells #[.bool t1, .slice B1 m1 d1, .slice B1' m1' d1'] 60)) (.agg #[.bool t1, .slice B1 m1 d1, .slice B1' m1' d1']) (ratOf s1 X1 Y1)) := Lib.hid (fun h => absurd (HL1.out.symm.trans h) (by simp))
  have hsz : w.heap.size + 1 < wa.heap.size := Nat.lt_of_lt_of_le (HY.out.lt) ba.size
  replace HX := Lib.hid (HX.out.below bb)
  replace HY := Lib.hid (HY.out.below bb)
  replace H2 := Lib.hid (H2.out.below bb)
  replace HT := Lib.hid (HT.out.below bb)
  have BM := Lib.hid (below_step BM.out BM.out.size bb)
  obtain ⟨w1, hw1⟩ : ∃ w1, wa.alloc (.cells #[.bool t1, .slice B1 m1 d1, .slice B1' m1' d1'] 60) = w1 := ⟨_, rfl⟩
  have hs1 : w1.heap.size = wa.heap.size + 1 := by rw [← hw1]; simp
  have HS1 := Lib.hid hs1
  have HSZ := Lib.hid hsz
  clear x1 x2 x3 ba bb f1 hs1 hsz
  go_upto_region 2 with (fail)
  rw [hw1] at HX HY H2 HT BM HF1 F1
  try rw [hw1]
  clear hw1
  obtain ⟨y1, y2, y3, _, _, _⟩ := HY.out.cells
  go_wp2_with fail
  refine (readV _ s2 X2 Y2 _ H2.out HT.out).mono ?_
  rw [HL2.out, Bool.not_false]
  rintro e wc ⟨t2, B2, m2, d2, B2', m2', d2', rfl, f2, bc⟩
  have bd := below_step bc bc.size (below_alloc wc (.cells #[.bool t2, .slice B2 m2 d2, .slice B2' m2' d2'] 60))
  have HF2 := Lib.hid (Box.new wc (.bool t2) (.slice B2 m2 d2) (.slice B2' m2' d2') 60)
  have F2 : Hid (largeB s2 X2 Y2 = false → IsF (wc.alloc (.cells #[.bool t2, .slice B2 m2 d2, .slice B2' m2' d2'] 60)) (.agg #[.bool t2, .slice B2 m2 d2, .slice B2' m2' d2']) (ratOf s2 X2 Y2)) := Lib.hid (fun h => (f2.out rfl).below (below_alloc _ _))
  have F1 : Hid (largeB s1 X1 Y1 = false → IsF (wc.alloc (.cells #[.bool t2, .slice B2 m2 d2, .slice B2' m2' d2'] 60)) (.agg #[.bool t1, .slice B1 m1 d1, .slice B1' m1' d1']) (ratOf s1 X1 Y1)) := Lib.hid (fun h => (F1.out h).below bd)
  have hsz2 : wa.heap.size + 1 ≤ wc.heap.size := by have := bc.size; have := HS1.out; omega
  replace HF1 := Lib.hid (HF1.out.below bd)
  replace HT := Lib.hid (HT.out.below bd)
  have BM := Lib.hid (below_step BM.out BM.out.size bd)
  have HSZ2 := Lib.hid hsz2
  obtain ⟨w2, hw2⟩ : ∃ w2, wc.alloc (.cells #[.bool t2, .slice B2 m2 d2, .slice B2' m2' d2'] 60) = w2 := ⟨_, rfl⟩
  obtain ⟨gf, hgf⟩ : ∃ g, wa.heap.size = g := ⟨_, rfl⟩
  obtain ⟨gg, hgg⟩ : ∃ g, wc.heap.size = g := ⟨_, rfl⟩
  clear y1 y2 y3 bc bd f2 HS1 hsz2 HX HY H1 H2
  go_upto_region 3 with (fail)
  rw [hw2] at HF1 HF2 HT BM F1 F2
  try rw [hw2]
  rw [hgf] at HF1 HSZ HSZ2
  rw [hgg] at HF2 HSZ2
  try rw [hgf]
  try rw [hgg]
  clear hw2 hgf hgg
  go_wp2_with fail
  refine bodyPost_ret (v := .tuple #[.int .i64 0, .int .i64 1]) (by simp [results, Tryd.results46, go_sem]) rfl ⟨rfl, BM.out⟩
set_option maxHeartbeats 2000000 in
set_option maxRecDepth 100000 in
theorem nCompare_false_true (s1 : Bool) (X1 Y1 : Nat) (s2 : Bool) (X2 Y2 : Nat)  (w : World) (v1 v2 : Value) (h1 : RawV w v1 s1 X1 Y1) (h2 : RawV w v2 s2 X2 Y2) (hT : Tab w) (a b : Rat) (ha : ratOf s1 X1 Y1 = a) (hb : ratOf s2 X2 Y2 = b) (hL1 : largeB s1 X1 Y1 = false) (hL2 : largeB s2 X2 Y2 = true) :
    Calls Tryd.prog 46 #[v1, v2] w (fun e w' => e = .returned (.tuple #[.int .i64 0, .int .i64 1]) ∧ Below w.heap.size w w') := by
  have H1 := Lib.hid h1
  have H2 := Lib.hid h2
  have HT := Lib.hid hT
  obtain ⟨A1, n1, c1, A1', n1', c1', rfl⟩ := h1.shape
  obtain ⟨A2, n2, c2, A2', n2', c2', rfl⟩ := h2.shape
  clear h1 h2 hT
  obtain ⟨M, hM, k1, k2, bM⟩ := start1 w (.bool s1) (.slice A1 n1 c1) (.slice A1' n1' c1') (.bool s2) (.slice A2 n2 c2) (.slice A2' n2' c2') 24 24
  have HR := Lib.hid True.intro
  have HX := Lib.hid k1
  have HY := Lib.hid k2
  have BM := Lib.hid bM
  replace H1 := Lib.hid (H1.out.below bM)
  replace H2 := Lib.hid (H2.out.below bM)
  replace HT := Lib.hid (HT.out.below bM)
  have HA := Lib.hid ha
  have HB := Lib.hid hb
  have HL1 := Lib.hid hL1
  have HL2 := Lib.hid hL2
  clear ha hb hL1 hL2 k1 k2 bM
  go_enter Tryd.func46, Tryd.ntmps46
  go_upto_region 1 with (fail)
  rw [← hM]
  clear hM
  obtain ⟨x1, x2, x3, _, _, _⟩ := HX.out.cells
  go_wp2_with fail
  refine (readV _ s1 X1 Y1 _ H1.out HT.out).mono ?_
  rw [HL1.out, Bool.not_false]
  rintro e wa ⟨t1, B1, m1, d1, B1', m1', d1', rfl, f1, ba⟩
  have bb := below_step ba ba.size (below_alloc wa (.cells #[.bool t1, .slice B1 m1 d1, .slice B1' m1' d1'] 60))
  have HF1 := Lib.hid (Box.new wa (.bool t1) (.slice B1 m1 d1) (.slice B1' m1' d1') 60)
  have F1 : Hid (largeB s1 X1 Y1 = false → IsF (wa.alloc (.cells #[.bool t1, .slice B1 m1 d1, .slice B1' m1' d1'] 60)) (.agg #[.bool t1, .slice B1 m1 d1, .slice B1' m1' d1']) (ratOf s1 X1 Y1)) := Lib.hid (fun h => (f1.out rfl).below (below_alloc _ _))
  have hsz : w.heap.size + 1 < wa.heap.size := Nat.lt_of_lt_of_le (HY.out.lt) ba.size
  replace HX := Lib.hid (HX.out.below bb)
  replace HY := Lib.hid (HY.out.below bb)
  replace H2 := Lib.hid (H2.out.below bb)
  replace HT := Lib.hid (HT.out.below bb)
  have BM := Lib.hid (below_step BM.out BM.out.size bb)
  obtain ⟨w1, hw1⟩ : ∃ w1, wa.alloc (.cells #[.bool t1, .slice B1 m1 d1, .slice B1' m1' d1'] 60) = w1 := ⟨_, rfl⟩
  have hs1 : w1.heap.size = wa.heap.size + 1 := by rw [← hw1]; simp
  have HS1 := Lib.hid hs1
  have HSZ := Lib.hid hsz
  clear x1 x2 x3 ba bb f1 hs1 hsz
  go_upto_region 2 with (fail)
  rw [hw1] at HX HY H2 HT BM HF1 F1
  try rw [hw1]
  clear hw1
  obtain ⟨y1, y2, y3, _, _, _⟩ := HY.out.cells
  go_wp2_with fail
  refine (readV _ s2 X2 Y2 _ H2.out HT.out).mono ?_
  rw [HL2.out, Bool.not_true]
  rintro e wc ⟨t2, B2, m2, d2, B2', m2', d2', rfl, f2, bc⟩
  have bd := below_step bc bc.size (below_alloc wc (.cells #[.bool t2, .slice B2 m2 d2, .slice B2' m2' d2'] 60))
  have HF2 := Lib.hid (Box.new wc (.bool t2) (.slice B2 m2 d2) (.slice B2' m2' d2') 60)
  have F2 : Hid (largeB s2 X2 Y2 = false → IsF (wc.alloc (.cells #[.bool t2, .slice B2 m2 d2, .slice B2' m2' d2'] 60)) (.agg #[.bool t2, .slice B2 m2 d2, .slice B2' m2' d2']) (ratOf s2 X2 Y2)) := Lib.hid (fun h => absurd (HL2.out.symm.trans h) (by simp))
  have F1 : Hid (largeB s1 X1 Y1 = false → IsF (wc.alloc (.cells #[.bool t2, .slice B2 m2 d2, .slice B2' m2' d2'] 60)) (.agg #[.bool t1, .slice B1 m1 d1, .slice B1' m1' d1']) (ratOf s1 X1 Y1)) := Lib.hid (fun h => (F1.out h).below bd)
  have hsz2 : wa.heap.size + 1 ≤ wc.heap.size := by have := bc.size; have := HS1.out; omega
  replace HF1 := Lib.hid (HF1.out.below bd)
  replace HT := Lib.hid (HT.out.below bd)
  have BM := Lib.hid (below_step BM.out BM.out.size bd)
  have HSZ2 := Lib.hid hsz2
  obtain ⟨w2, hw2⟩ : ∃ w2, wc.alloc (.cells #[.bool t2, .slice B2 m2 d2, .slice B2' m2' d2'] 60) = w2 := ⟨_, rfl⟩
  obtain ⟨gf, hgf⟩ : ∃ g, wa.heap.size = g := ⟨_, rfl⟩
  obtain ⟨gg, hgg⟩ : ∃ g, wc.heap.size = g := ⟨_, rfl⟩
  clear y1 y2 y3 bc bd f2 HS1 hsz2 HX HY H1 H2
  go_upto_region 3 with (fail)
  rw [hw2] at HF1 HF2 HT BM F1 F2
  try rw [hw2]
  rw [hgf] at HF1 HSZ HSZ2
  rw [hgg] at HF2 HSZ2
  try rw [hgf]
  try rw [hgg]
  clear hw2 hgf hgg
  go_wp2_with fail
  refine bodyPost_ret (v := .tuple #[.int .i64 0, .int .i64 1]) (by simp [results, Tryd.results46, go_sem]) rfl ⟨rfl, BM.out⟩
set_option maxHeartbeats 2000000 in
set_option maxRecDepth 100000 in
theorem nCompare_fit (s1 : Bool) (X1 Y1 : Nat) (s2 : Bool) (X2 Y2 : Nat) (c : Int) (hc : cmpQ (ratOf s1 X1 Y1) (ratOf s2 X2 Y2) = c) (w : World) (v1 v2 : Value) (h1 : RawV w v1 s1 X1 Y1) (h2 : RawV w v2 s2 X2 Y2) (hT : Tab w) (a b : Rat) (ha : ratOf s1 X1 Y1 = a) (hb : ratOf s2 X2 Y2 = b) (hL1 : largeB s1 X1 Y1 = false) (hL2 : largeB s2 X2 Y2 = false) :
    Calls Tryd.prog 46 #[v1, v2] w (fun e w' => e = .returned (.tuple #[.int .i64 c, .int .i64 0]) ∧ Below w.heap.size w w') := by
  have H1 := Lib.hid h1
  have H2 := Lib.hid h2
  have HT := Lib.hid hT
  obtain ⟨A1, n1, c1, A1', n1', c1', rfl⟩ := h1.shape
  obtain ⟨A2, n2, c2, A2', n2', c2', rfl⟩ := h2.shape
  clear h1 h2 hT
  obtain ⟨M, hM, k1, k2, bM⟩ := start1 w (.bool s1) (.slice A1 n1 c1) (.slice A1' n1' c1') (.bool s2) (.slice A2 n2 c2) (.slice A2' n2' c2') 24 24
  have HR := Lib.hid True.intro
  have HX := Lib.hid k1
  have HY := Lib.hid k2
  have BM := Lib.hid bM
  replace H1 := Lib.hid (H1.out.below bM)
  replace H2 := Lib.hid (H2.out.below bM)
  replace HT := Lib.hid (HT.out.below bM)
  have HA := Lib.hid ha
  have HB := Lib.hid hb
  have HL1 := Lib.hid hL1
  have HL2 := Lib.hid hL2
  have fa := (largeB_false hL1).2.2
  have fb := (largeB_false hL2).2.2
  rw [ha] at fa
  rw [hb] at fb
  have FA := Lib.hid fa
  have FB := Lib.hid fb
  clear fa fb
  rw [ha, hb] at hc
  have HC := Lib.hid hc
  clear hc
  clear ha hb hL1 hL2 k1 k2 bM
  go_enter Tryd.func46, Tryd.ntmps46
  go_upto_region 1 with (fail)
  rw [← hM]
  clear hM
  obtain ⟨x1, x2, x3, _, _, _⟩ := HX.out.cells
  go_wp2_with fail
  refine (readV _ s1 X1 Y1 _ H1.out HT.out).mono ?_
  rw [HL1.out, Bool.not_false]
  rintro e wa ⟨t1, B1, m1, d1, B1', m1', d1', rfl, f1, ba⟩
  have bb := below_step ba ba.size (below_alloc wa (.cells #[.bool t1, .slice B1 m1 d1, .slice B1' m1' d1'] 60))
  have HF1 := Lib.hid (Box.new wa (.bool t1) (.slice B1 m1 d1) (.slice B1' m1' d1') 60)
  have F1 : Hid (largeB s1 X1 Y1 = false → IsF (wa.alloc (.cells #[.bool t1, .slice B1 m1 d1, .slice B1' m1' d1'] 60)) (.agg #[.bool t1, .slice B1 m1 d1, .slice B1' m1' d1']) (ratOf s1 X1 Y1)) := Lib.hid (fun h => (f1.out rfl).below (below_alloc _ _))
  have hsz : w.heap.size + 1 < wa.heap.size := Nat.lt_of_lt_of_le (HY.out.lt) ba.size
  replace HX := Lib.hid (HX.out.below bb)
  replace HY := Lib.hid (HY.out.below bb)
  replace H2 := Lib.hid (H2.out.below bb)
  replace HT := Lib.hid (HT.out.below bb)
  have BM := Lib.hid (below_step BM.out BM.out.size bb)
  obtain ⟨w1, hw1⟩ : ∃ w1, wa.alloc (.cells #[.bool t1, .slice B1 m1 d1, .slice B1' m1' d1'] 60) = w1 := ⟨_, rfl⟩
  have hs1 : w1.heap.size = wa.heap.size + 1 := by rw [← hw1]; simp
  have HS1 := Lib.hid hs1
  have HSZ := Lib.hid hsz
  clear x1 x2 x3 ba bb f1 hs1 hsz
  go_upto_region 2 with (fail)
  rw [hw1] at HX HY H2 HT BM HF1 F1
  try rw [hw1]
  clear hw1
  obtain ⟨y1, y2, y3, _, _, _⟩ := HY.out.cells
  go_wp2_with fail
  refine (readV _ s2 X2 Y2 _ H2.out HT.out).mono ?_
  rw [HL2.out, Bool.not_false]
  rintro e wc ⟨t2, B2, m2, d2, B2', m2', d2', rfl, f2, bc⟩
  have bd := below_step bc bc.size (below_alloc wc (.cells #[.bool t2, .slice B2 m2 d2, .slice B2' m2' d2'] 60))
  have HF2 := Lib.hid (Box.new wc (.bool t2) (.slice B2 m2 d2) (.slice B2' m2' d2') 60)
  have F2 : Hid (largeB s2 X2 Y2 = false → IsF (wc.alloc (.cells #[.bool t2, .slice B2 m2 d2, .slice B2' m2' d2'] 60)) (.agg #[.bool t2, .slice B2 m2 d2, .slice B2' m2' d2']) (ratOf s2 X2 Y2)) := Lib.hid (fun h => (f2.out rfl).below (below_alloc _ _))
  have F1 : Hid (largeB s1 X1 Y1 = false → IsF (wc.alloc (.cells #[.bool t2, .slice B2 m2 d2, .slice B2' m2' d2'] 60)) (.agg #[.bool t1, .slice B1 m1 d1, .slice B1' m1' d1']) (ratOf s1 X1 Y1)) := Lib.hid (fun h => (F1.out h).below bd)
  have hsz2 : wa.heap.size + 1 ≤ wc.heap.size := by have := bc.size; have := HS1.out; omega
  replace HF1 := Lib.hid (HF1.out.below bd)
  replace HT := Lib.hid (HT.out.below bd)
  have BM := Lib.hid (below_step BM.out BM.out.size bd)
  have HSZ2 := Lib.hid hsz2
  obtain ⟨w2, hw2⟩ : ∃ w2, wc.alloc (.cells #[.bool t2, .slice B2 m2 d2, .slice B2' m2' d2'] 60) = w2 := ⟨_, rfl⟩
  obtain ⟨gf, hgf⟩ : ∃ g, wa.heap.size = g := ⟨_, rfl⟩
  obtain ⟨gg, hgg⟩ : ∃ g, wc.heap.size = g := ⟨_, rfl⟩
  clear y1 y2 y3 bc bd f2 HS1 hsz2 HX HY H1 H2
  go_upto_region 3 with (fail)
  rw [hw2] at HF1 HF2 HT BM F1 F2
  try rw [hw2]
  rw [hgf] at HF1 HSZ HSZ2
  rw [hgg] at HF2 HSZ2
  try rw [hgf]
  try rw [hgg]
  clear hw2 hgf hgg
  have F1 := Lib.hid (F1.out HL1.out)
  have F2 := Lib.hid (F2.out HL2.out)
  rw [HA.out] at F1
  rw [HB.out] at F2
  obtain ⟨x1, x2, x3, _⟩ := HF1.out.cells
  obtain ⟨y1, y2, y3, _⟩ := HF2.out.cells
  go_wp2_with fail
  refine (fCmp a b _ _ _ F1.out F2.out (fit_Wq FA.out (by omega)) (fit_Wq FB.out (by omega))).mono ?_
  rw [HC.out]
  rintro e we ⟨rfl, be⟩
  have BM := Lib.hid (below_step BM.out BM.out.size be)
  clear be
  go_wp2_with fail
  refine bodyPost_ret (v := .tuple #[.int .i64 c, .int .i64 0]) (by simp [results, Tryd.results46, go_sem]) rfl ⟨rfl, BM.out⟩
/-- what Compare returns -/
theorem nCompare (s1 : Bool) (X1 Y1 : Nat) (s2 : Bool) (X2 Y2 : Nat) (w : World) (v1 v2 : Value) (h1 : RawV w v1 s1 X1 Y1) (h2 : RawV w v2 s2 X2 Y2) (hT : Tab w) (c k : Int) (hc : (if (largeB s1 X1 Y1 || largeB s2 X2 Y2) = true then 0 else cmpQ (ratOf s1 X1 Y1) (ratOf s2 X2 Y2)) = c) (hk : (if (largeB s1 X1 Y1 || largeB s2 X2 Y2) = true then 1 else 0) = k) :
    Calls Tryd.prog 46 #[v1, v2] w fun e w' => e = .returned (.tuple #[.int .i64 c, .int .i64 k]) ∧ Below w.heap.size w w' := by
  subst hc hk
  cases e1 : largeB s1 X1 Y1 <;> cases e2 : largeB s2 X2 Y2
  · exact nCompare_fit s1 X1 Y1 s2 X2 Y2 _ rfl w v1 v2 h1 h2 hT _ _ rfl rfl e1 e2
  · exact nCompare_false_true s1 X1 Y1 s2 X2 Y2 w v1 v2 h1 h2 hT _ _ rfl rfl e1 e2
  · exact nCompare_true_false s1 X1 Y1 s2 X2 Y2 w v1 v2 h1 h2 hT _ _ rfl rfl e1 e2
  · exact nCompare_true_true s1 X1 Y1 s2 X2 Y2 w v1 v2 h1 h2 hT _ _ rfl rfl e1 e2
end Go.Proofs.YtfmhplcpejmkhaaDoor

namespace Go.Proofs.YtfmhplcpejmkhaaDoor
open Go.RowKit Dig
set_option linter.unusedVariables false
set_option linter.unusedSimpArgs false
def valO : Out → Rat
  | .ok q => q
  | .err _ => 0
theorem fit_zero : fitQ 0 := by
  refine ⟨?_, ?_⟩
  · exact Nat.le_trans ((dig_length_le B32_two _ 2).2 (by unfold B32; decide)) (by omega : 2 ≤ 64)
  · exact Nat.le_trans ((dig_length_le B32_two _ 2).2 (by unfold B32; decide)) (by omega : 2 ≤ 64)
theorem OutIs.rawV {w : World} {o : Out} {u : Value} {k : Int} (h : OutIs w o u k) : RawV w u (ng (valO o)) (valO o).num.natAbs (dwv (valO o).den) := by
  cases o with
  | ok q => exact h.2.1.raw h.2.2
  | err j =>
    obtain ⟨_, e, _, _⟩ := h
    rw [e]
    exact ⟨none, 0, [], none, 0, [], rfl, Rd.nil _ _ _ (by omega), Rd.nil _ _ _ (by omega), (fun x hx => by cases hx), (fun x hx => by cases hx), rfl, rfl, by simp, by simp⟩
theorem OutIs.fit {w : World} {o : Out} {u : Value} {k : Int} (h : OutIs w o u k) : fitQ (valO o) := by
  cases o with
  | ok q => exact h.2.2
  | err j => exact fit_zero
theorem give_cases (q : Rat) : (give q = .ok q ∧ fitQ q) ∨ give q = .err 1 := by
  unfold give
  by_cases h : fitQ q
  · exact Or.inl ⟨if_pos h, h⟩
  · exact Or.inr (if_neg h)
end Go.Proofs.YtfmhplcpejmkhaaDoor

namespace Go.Proofs.YtfmhplcpejmkhaaDoor
open Go.RowKit Dig
set_option linter.unusedVariables false
set_option linter.unusedSimpArgs false
set_option maxHeartbeats 2000000 in
set_option maxRecDepth 100000 in
theorem nDiv_true_true (s1 : Bool) (X1 Y1 : Nat) (s2 : Bool) (X2 Y2 : Nat)  (w : World) (v1 v2 : Value) (h1 : RawV w v1 s1 X1 Y1) (h2 : RawV w v2 s2 X2 Y2) (hT : Tab w) (a b : Rat) (ha : ratOf s1 X1 Y1 = a) (hb : ratOf s2 X2 Y2 = b) (hL1 : largeB s1 X1 Y1 = true) (hL2 : largeB s2 X2 Y2 = true) :
    Calls Tryd.prog 37 #[v1, v2] w (OutPost w (Out.err 1)) := by
  have H1 := Lib.hid h1
  have H2 := Lib.hid h2
  have HT := Lib.hid hT
  obtain ⟨A1, n1, c1, A1', n1', c1', rfl⟩ := h1.shape
  obtain ⟨A2, n2, c2, A2', n2', c2', rfl⟩ := h2.shape
  clear h1 h2 hT
  obtain ⟨M, hM, k1, k2, k3, bM⟩ := start2 w (.bool s1) (.slice A1 n1 c1) (.slice A1' n1' c1') (.bool s2) (.slice A2 n2 c2) (.slice A2' n2' c2') (.bool false) (.slice none 0 0) (.slice none 0 0) 24 24 24
  have HR := Lib.hid (show Res M (w.heap.size + 1 + 1) 24 from ⟨_, _, _, NI.bool _, NI.slice _ _ _, NI.slice _ _ _, k3⟩)
  have HX := Lib.hid k1
  have HY := Lib.hid k2
  have BM := Lib.hid bM
  replace H1 := Lib.hid (H1.out.below bM)
  replace H2 := Lib.hid (H2.out.below bM)
  replace HT := Lib.hid (HT.out.below bM)
  have HA := Lib.hid ha
  have HB := Lib.hid hb
  have HL1 := Lib.hid hL1
  have HL2 := Lib.hid hL2
  clear ha hb hL1 hL2 k1 k2 k3 bM
  go_enter Tryd.func37, Tryd.ntmps37
  go_upto_region 1 with (fail)
  rw [← hM]
  clear hM
  obtain ⟨x1, x2, x3, _, _, _⟩ := HX.out.cells
  go_wp2_with fail
  refine (readV _ s1 X1 Y1 _ H1.out HT.out).mono ?_
  rw [HL1.out, Bool.not_true]
  rintro e wa ⟨t1, B1, m1, d1, B1', m1', d1', rfl, f1, ba⟩
  have bb := below_step ba ba.size (below_alloc wa (.cells #[.bool t1, .slice B1 m1 d1, .slice B1' m1' d1'] 60))
  have HF1 := Lib.hid (Box.new wa (.bool t1) (.slice B1 m1 d1) (.slice B1' m1' d1') 60)
  have F1 : Hid (largeB s1 X1 Y1 = false → IsF (wa.alloc (.cells #[.bool t1, .slice B1 m1 d1, .slice B1' m1' d1'] 60)) (.agg #[.bool t1, .slice B1 m1 d1, .slice B1' m1' d1']) (ratOf s1 X1 Y1)) := Lib.hid (fun h => absurd (HL1.out.symm.trans h) (by simp))
  have hsz : w.heap.size + 1 + 1 < wa.heap.size := Nat.lt_of_lt_of_le (by obtain ⟨_, _, _, _, _, _, hh⟩ := HR.out; exact hh.lt) ba.size
  replace HX := Lib.hid (HX.out.below bb)
  replace HY := Lib.hid (HY.out.below bb)
  replace HR := Lib.hid (HR.out.below bb)
  replace H2 := Lib.hid (H2.out.below bb)
  replace HT := Lib.hid (HT.out.below bb)
  have BM := Lib.hid (below_step BM.out BM.out.size bb)
  obtain ⟨w1, hw1⟩ : ∃ w1, wa.alloc (.cells #[.bool t1, .slice B1 m1 d1, .slice B1' m1' d1'] 60) = w1 := ⟨_, rfl⟩
  have hs1 : w1.heap.size = wa.heap.size + 1 := by rw [← hw1]; simp
  have HS1 := Lib.hid hs1
  have HSZ := Lib.hid hsz
  clear x1 x2 x3 ba bb f1 hs1 hsz
  go_upto_region 2 with (fail)
  rw [hw1] at HX HY HR H2 HT BM HF1 F1
  try rw [hw1]
  clear hw1
  obtain ⟨y1, y2, y3, _, _, _⟩ := HY.out.cells
  go_wp2_with fail
  refine (readV _ s2 X2 Y2 _ H2.out HT.out).mono ?_
  rw [HL2.out, Bool.not_true]
  rintro e wc ⟨t2, B2, m2, d2, B2', m2', d2', rfl, f2, bc⟩
  have bd := below_step bc bc.size (below_alloc wc (.cells #[.bool t2, .slice B2 m2 d2, .slice B2' m2' d2'] 60))
  have HF2 := Lib.hid (Box.new wc (.bool t2) (.slice B2 m2 d2) (.slice B2' m2' d2') 60)
  have F2 : Hid (largeB s2 X2 Y2 = false → IsF (wc.alloc (.cells #[.bool t2, .slice B2 m2 d2, .slice B2' m2' d2'] 60)) (.agg #[.bool t2, .slice B2 m2 d2, .slice B2' m2' d2']) (ratOf s2 X2 Y2)) := Lib.hid (fun h => absurd (HL2.out.symm.trans h) (by simp))
  have F1 : Hid (largeB s1 X1 Y1 = false → IsF (wc.alloc (.cells #[.bool t2, .slice B2 m2 d2, .slice B2' m2' d2'] 60)) (.agg #[.bool t1, .slice B1 m1 d1, .slice B1' m1' d1']) (ratOf s1 X1 Y1)) := Lib.hid (fun h => (F1.out h).below bd)
  have hsz2 : wa.heap.size + 1 ≤ wc.heap.size := by have := bc.size; have := HS1.out; omega
  replace HF1 := Lib.hid (HF1.out.below bd)
  replace HR := Lib.hid (HR.out.below bd)
  replace HT := Lib.hid (HT.out.below bd)
  have BM := Lib.hid (below_step BM.out BM.out.size bd)
  have HSZ2 := Lib.hid hsz2
  obtain ⟨w2, hw2⟩ : ∃ w2, wc.alloc (.cells #[.bool t2, .slice B2 m2 d2, .slice B2' m2' d2'] 60) = w2 := ⟨_, rfl⟩
  obtain ⟨gf, hgf⟩ : ∃ g, wa.heap.size = g := ⟨_, rfl⟩
  obtain ⟨gg, hgg⟩ : ∃ g, wc.heap.size = g := ⟨_, rfl⟩
  clear y1 y2 y3 bc bd f2 HS1 hsz2 HX HY H1 H2
  go_upto_region 3 with (fail)
  rw [hw2] at HF1 HF2 HR HT BM F1 F2
  try rw [hw2]
  rw [hgf] at HF1 HSZ HSZ2
  rw [hgg] at HF2 HSZ2
  try rw [hgf]
  try rw [hgg]
  clear hw2 hgf hgg
  obtain ⟨z1, z2, z3, hy1, hy2, hy3, f1, f2, f3⟩ := HR.out.cells
  obtain ⟨q0, q1, q2, hs, hb⟩ := OutIs.stored (o := .err 1) (k := 1) (s := false) (A1 := none) (A2 := none) (n1 := 0) (c1 := 0) (n2 := 0) (c2 := 0) ⟨rfl, rfl, by omega, by omega⟩ HR.out BM.out (by omega)
  have Q := Lib.hid (And.intro q0 (And.intro q1 q2))
  have HBB := Lib.hid hb
  clear q0 q1 q2 hs hb
  go_wp2_with fail
  obtain ⟨q0, q1, q2⟩ := Q.out
  refine bodyPost_ret (v := .tuple #[noRat, .int .i64 1]) (by simp [results, Tryd.results37, go_sem, q0, q1, q2, noRat]) rfl (OutPost.err rfl (by omega) (by omega) HBB.out)
set_option maxHeartbeats 2000000 in
set_option maxRecDepth 100000 in
theorem nDiv_true_false (s1 : Bool) (X1 Y1 : Nat) (s2 : Bool) (X2 Y2 : Nat)  (w : World) (v1 v2 : Value) (h1 : RawV w v1 s1 X1 Y1) (h2 : RawV w v2 s2 X2 Y2) (hT : Tab w) (a b : Rat) (ha : ratOf s1 X1 Y1 = a) (hb : ratOf s2 X2 Y2 = b) (hL1 : largeB s1 X1 Y1 = true) (hL2 : largeB s2 X2 Y2 = false) :
    Calls Tryd.prog 37 #[v1, v2] w (OutPost w (Out.err 1)) := by
  have H1 := Lib.hid h1
  have H2 := Lib.hid h2
  have HT := Lib.hid hT
  obtain ⟨A1, n1, c1, A1', n1', c1', rfl⟩ := h1.shape
  obtain ⟨A2, n2, c2, A2', n2', c2', rfl⟩ := h2.shape
  clear h1 h2 hT
  obtain ⟨M, hM, k1, k2, k3, bM⟩ := start2 w (.bool s1) (.slice A1 n1 c1) (.slice A1' n1' c1') (.bool s2) (.slice A2 n2 c2) (.slice A2' n2' c2') (.bool false) (.slice none 0 0) (.slice none 0 0) 24 24 24
  have HR := Lib.hid (show Res M (w.heap.size + 1 + 1) 24 from ⟨_, _, _, NI.bool _, NI.slice _ _ _, NI.slice _ _ _, k3⟩)
  have HX := Lib.hid k1
  have HY := Lib.hid k2
  have BM := Lib.hid bM
  replace H1 := Lib.hid (H1.out.below bM)
  replace H2 := Lib.hid (H2.out.below bM)
  replace HT := Lib.hid (HT.out.below bM)
  have HA := Lib.hid ha
  have HB := Lib.hid hb
  have HL1 := Lib.hid hL1
  have HL2 := Lib.hid hL2
  clear ha hb hL1 hL2 k1 k2 k3 bM
  go_enter Tryd.func37, Tryd.ntmps37
  go_upto_region 1 with (fail)
  rw [← hM]
  clear hM
  obtain ⟨x1, x2, x3, _, _, _⟩ := HX.out.cells
  go_wp2_with fail
  refine (readV _ s1 X1 Y1 _ H1.out HT.out).mono ?_
  rw [HL1.out, Bool.not_true]
  rintro e wa ⟨t1, B1, m1, d1, B1', m1', d1', rfl, f1, ba⟩
  have bb := below_step ba ba.size (below_alloc wa (.cells #[.bool t1, .slice B1 m1 d1, .slice B1' m1' d1'] 60))
  have HF1 := Lib.hid (Box.new wa (.bool t1) (.slice B1 m1 d1) (.slice B1' m1' d1') 60)
  have F1 : Hid (largeB s1 X1 Y1 = false → IsF (wa.alloc (.cells #[.bool t1, .slice B1 m1 d1, .slice B1' m1' d1'] 60)) (.agg #[.bool t1, .slice B1 m1 d1, .slice B1' m1' d1']) (ratOf s1 X1 Y1)) := Lib.hid (fun h => absurd (HL1.out.symm.trans h) (by simp))
  have hsz : w.heap.size + 1 + 1 < wa.heap.size := Nat.lt_of_lt_of_le (by obtain ⟨_, _, _, _, _, _, hh⟩ := HR.out; exact hh.lt) ba.size
  replace HX := Lib.hid (HX.out.below bb)
  replace HY := Lib.hid (HY.out.below bb)
  replace HR := Lib.hid (HR.out.below bb)
  replace H2 := Lib.hid (H2.out.below bb)
  replace HT := Lib.hid (HT.out.below bb)
  have BM := Lib.hid (below_step BM.out BM.out.size bb)
  obtain ⟨w1, hw1⟩ : ∃ w1, wa.alloc (.cells #[.bool t1, .slice B1 m1 d1, .slice B1' m1' d1'] 60) = w1 := ⟨_, rfl⟩
  have hs1 : w1.heap.size = wa.heap.size + 1 := by rw [← hw1]; simp
  have HS1 := Lib.hid hs1
  have HSZ := Lib.hid hsz
  clear x1 x2 x3 ba bb f1 hs1 hsz
  go_upto_region 2 with (fail)
  rw [hw1] at HX HY HR H2 HT BM HF1 F1
  try rw [hw1]
  clear hw1
  obtain ⟨y1, y2, y3, _, _, _⟩ := HY.out.cells
  go_wp2_with fail
  refine (readV _ s2 X2 Y2 _ H2.out HT.out).mono ?_
  rw [HL2.out, Bool.not_false]
  rintro e wc ⟨t2, B2, m2, d2, B2', m2', d2', rfl, f2, bc⟩
  have bd := below_step bc bc.size (below_alloc wc (.cells #[.bool t2, .slice B2 m2 d2, .slice B2' m2' d2'] 60))
  have HF2 := Lib.hid (Box.new wc (.bool t2) (.slice B2 m2 d2) (.slice B2' m2' d2') 60)
  have F2 : Hid (largeB s2 X2 Y2 = false → IsF (wc.alloc (.cells #[.bool t2, .slice B2 m2 d2, .slice B2' m2' d2'] 60)) (.agg #[.bool t2, .slice B2 m2 d2, .slice B2' m2' d2']) (ratOf s2 X2 Y2)) := Lib.hid (fun h => (f2.out rfl).below (below_alloc _ _))
  have F1 : Hid (largeB s1 X1 Y1 = false → IsF (wc.alloc (.cells #[.bool t2, .slice B2 m2 d2, .slice B2' m2' d2'] 60)) (.agg #[.bool t1, .slice B1 m1 d1, .slice B1' m1' d1']) (ratOf s1 X1 Y1)) := Lib.hid (fun h => (F1.out h).below bd)
  have hsz2 : wa.heap.size + 1 ≤ wc.heap.size := by have := bc.size; have := HS1.out; omega
  replace HF1 := Lib.hid (HF1.out.below bd)
  replace HR := Lib.hid (HR.out.below bd)
  replace HT := Lib.hid (HT.out.below bd)
  have BM := Lib.hid (below_step BM.out BM.out.size bd)
  have HSZ2 := Lib.hid hsz2
  obtain ⟨w2, hw2⟩ : ∃ w2, wc.alloc (.cells #[.bool t2, .slice B2 m2 d2, .slice B2' m2' d2'] 60) = w2 := ⟨_, rfl⟩
  obtain ⟨gf, hgf⟩ : ∃ g, wa.heap.size = g := ⟨_, rfl⟩
  obtain ⟨gg, hgg⟩ : ∃ g, wc.heap.size = g := ⟨_, rfl⟩
  clear y1 y2 y3 bc bd f2 HS1 hsz2 HX HY H1 H2
  go_upto_region 3 with (fail)
  rw [hw2] at HF1 HF2 HR HT BM F1 F2
  try rw [hw2]
  rw [hgf] at HF1 HSZ HSZ2
  rw [hgg] at HF2 HSZ2
  try rw [hgf]
  try rw [hgg]
  clear hw2 hgf hgg
  obtain ⟨z1, z2, z3, hy1, hy2, hy3, f1, f2, f3⟩ := HR.out.cells
  obtain ⟨q0, q1, q2, hs, hb⟩ := OutIs.stored (o := .err 1) (k := 1) (s := false) (A1 := none) (A2 := none) (n1 := 0) (c1 := 0) (n2 := 0) (c2 := 0) ⟨rfl, rfl, by omega, by omega⟩ HR.out BM.out (by omega)
  have Q := Lib.hid (And.intro q0 (And.intro q1 q2))
  have HBB := Lib.hid hb
  clear q0 q1 q2 hs hb
  go_wp2_with fail
  obtain ⟨q0, q1, q2⟩ := Q.out
  refine bodyPost_ret (v := .tuple #[noRat, .int .i64 1]) (by simp [results, Tryd.results37, go_sem, q0, q1, q2, noRat]) rfl (OutPost.err rfl (by omega) (by omega) HBB.out)
set_option maxHeartbeats 2000000 in
set_option maxRecDepth 100000 in
theorem nDiv_false_true (s1 : Bool) (X1 Y1 : Nat) (s2 : Bool) (X2 Y2 : Nat)  (w : World) (v1 v2 : Value) (h1 : RawV w v1 s1 X1 Y1) (h2 : RawV w v2 s2 X2 Y2) (hT : Tab w) (a b : Rat) (ha : ratOf s1 X1 Y1 = a) (hb : ratOf s2 X2 Y2 = b) (hL1 : largeB s1 X1 Y1 = false) (hL2 : largeB s2 X2 Y2 = true) :
    Calls Tryd.prog 37 #[v1, v2] w (OutPost w (Out.err 1)) := by
  have H1 := Lib.hid h1
  have H2 := Lib.hid h2
  have HT := Lib.hid hT
  obtain ⟨A1, n1, c1, A1', n1', c1', rfl⟩ := h1.shape
  obtain ⟨A2, n2, c2, A2', n2', c2', rfl⟩ := h2.shape
  clear h1 h2 hT
  obtain ⟨M, hM, k1, k2, k3, bM⟩ := start2 w (.bool s1) (.slice A1 n1 c1) (.slice A1' n1' c1') (.bool s2) (.slice A2 n2 c2) (.slice A2' n2' c2') (.bool false) (.slice none 0 0) (.slice none 0 0) 24 24 24
  have HR := Lib.hid (show Res M (w.heap.size + 1 + 1) 24 from ⟨_, _, _, NI.bool _, NI.slice _ _ _, NI.slice _ _ _, k3⟩)
  have HX := Lib.hid k1
  have HY := Lib.hid k2
  have BM := Lib.hid bM
  replace H1 := Lib.hid (H1.out.below bM)
  replace H2 := Lib.hid (H2.out.below bM)
  replace HT := Lib.hid (HT.out.below bM)
  have HA := Lib.hid ha
  have HB := Lib.hid hb
  have HL1 := Lib.hid hL1
  have HL2 := Lib.hid hL2
  clear ha hb hL1 hL2 k1 k2 k3 bM
  go_enter Tryd.func37, Tryd.ntmps37
  go_upto_region 1 with (fail)
  rw [← hM]
  clear hM
  obtain ⟨x1, x2, x3, _, _, _⟩ := HX.out.cells
  go_wp2_with fail
  refine (readV _ s1 X1 Y1 _ H1.out HT.out).mono ?_
  rw [HL1.out, Bool.not_false]
  rintro e wa ⟨t1, B1, m1, d1, B1', m1', d1', rfl, f1, ba⟩
  have bb := below_step ba ba.size (below_alloc wa (.cells #[.bool t1, .slice B1 m1 d1, .slice B1' m1' d1'] 60))
  have HF1 := Lib.hid (Box.new wa (.bool t1) (.slice B1 m1 d1) (.slice B1' m1' d1') 60)
  have F1 : Hid (largeB s1 X1 Y1 = false → IsF (wa.alloc (.cells #[.bool t1, .slice B1 m1 d1, .slice B1' m1' d1'] 60)) (.agg #[.bool t1, .slice B1 m1 d1, .slice B1' m1' d1']) (ratOf s1 X1 Y1)) := Lib.hid (fun h => (f1.out rfl).below (below_alloc _ _))
  have hsz : w.heap.size + 1 + 1 < wa.heap.size := Nat.lt_of_lt_of_le (by obtain ⟨_, _, _, _, _, _, hh⟩ := HR.out; exact hh.lt) ba.size
  replace HX := Lib.hid (HX.out.below bb)
  replace HY := Lib.hid (HY.out.below bb)
  replace HR := Lib.hid (HR.out.below bb)
  replace H2 := Lib.hid (H2.out.below bb)
  replace HT := Lib.hid (HT.out.below bb)
  have BM := Lib.hid (below_step BM.out BM.out.size bb)
  obtain ⟨w1, hw1⟩ : ∃ w1, wa.alloc (.cells #[.bool t1, .slice B1 m1 d1, .slice B1' m1' d1'] 60) = w1 := ⟨_, rfl⟩
  have hs1 : w1.heap.size = wa.heap.size + 1 := by rw [← hw1]; simp
  have HS1 := Lib.hid hs1
  have HSZ := Lib.hid hsz
  clear x1 x2 x3 ba bb f1 hs1 hsz
  go_upto_region 2 with (fail)
  rw [hw1] at HX HY HR H2 HT BM HF1 F1
  try rw [hw1]
  clear hw1
  obtain ⟨y1, y2, y3, _, _, _⟩ := HY.out.cells
  go_wp2_with fail
  refine (readV _ s2 X2 Y2 _ H2.out HT.out).mono ?_
  rw [HL2.out, Bool.not_true]
  rintro e wc ⟨t2, B2, m2, d2, B2', m2', d2', rfl, f2, bc⟩
  have bd := below_step bc bc.size (below_alloc wc (.cells #[.bool t2, .slice B2 m2 d2, .slice B2' m2' d2'] 60))
  have HF2 := Lib.hid (Box.new wc (.bool t2) (.slice B2 m2 d2) (.slice B2' m2' d2') 60)
  have F2 : Hid (largeB s2 X2 Y2 = false → IsF (wc.alloc (.cells #[.bool t2, .slice B2 m2 d2, .slice B2' m2' d2'] 60)) (.agg #[.bool t2, .slice B2 m2 d2, .slice B2' m2' d2']) (ratOf s2 X2 Y2)) := Lib.hid (fun h => absurd (HL2.out.symm.trans h) (by simp))
  have F1 : Hid (largeB s1 X1 Y1 = false → IsF (wc.alloc (.cells #[.bool t2, .slice B2 m2 d2, .slice B2' m2' d2'] 60)) (.agg #[.bool t1, .slice B1 m1 d1, .slice B1' m1' d1']) (ratOf s1 X1 Y1)) := Lib.hid (fun h => (F1.out h).below bd)
  have hsz2 : wa.heap.size + 1 ≤ wc.heap.size := by have := bc.size; have := HS1.out; omega
  replace HF1 := Lib.hid (HF1.out.below bd)
  replace HR := Lib.hid (HR.out.below bd)
  replace HT := Lib.hid (HT.out.below bd)
  have BM := Lib.hid (below_step BM.out BM.out.size bd)
  have HSZ2 := Lib.hid hsz2
  obtain ⟨w2, hw2⟩ : ∃ w2, wc.alloc (.cells #[.bool t2, .slice B2 m2 d2, .slice B2' m2' d2'] 60) = w2 := ⟨_, rfl⟩
  obtain ⟨gf, hgf⟩ : ∃ g, wa.heap.size = g := ⟨_, rfl⟩
  obtain ⟨gg, hgg⟩ : ∃ g, wc.heap.size = g := ⟨_, rfl⟩
  clear y1 y2 y3 bc bd f2 HS1 hsz2 HX HY H1 H2
  go_upto_region 3 with (fail)
  rw [hw2] at HF1 HF2 HR HT BM F1 F2
  try rw [hw2]
  rw [hgf] at HF1 HSZ HSZ2
  rw [hgg] at HF2 HSZ2
  try rw [hgf]
  try rw [hgg]
  clear hw2 hgf hgg
  obtain ⟨z1, z2, z3, hy1, hy2, hy3, f1, f2, f3⟩ := HR.out.cells
  obtain ⟨q0, q1, q2, hs, hb⟩ := OutIs.stored (o := .err 1) (k := 1) (s := false) (A1 := none) (A2 := none) (n1 := 0) (c1 := 0) (n2 := 0) (c2 := 0) ⟨rfl, rfl, by omega, by omega⟩ HR.out BM.out (by omega)
  have Q := Lib.hid (And.intro q0 (And.intro q1 q2))
  have HBB := Lib.hid hb
  clear q0 q1 q2 hs hb
  go_wp2_with fail
  obtain ⟨q0, q1, q2⟩ := Q.out
  refine bodyPost_ret (v := .tuple #[noRat, .int .i64 1]) (by simp [results, Tryd.results37, go_sem, q0, q1, q2, noRat]) rfl (OutPost.err rfl (by omega) (by omega) HBB.out)
set_option maxHeartbeats 2000000 in
set_option maxRecDepth 100000 in
theorem nDiv_zero (s1 : Bool) (X1 Y1 : Nat) (s2 : Bool) (X2 Y2 : Nat) (hz : ratOf s2 X2 Y2 = 0) (w : World) (v1 v2 : Value) (h1 : RawV w v1 s1 X1 Y1) (h2 : RawV w v2 s2 X2 Y2) (hT : Tab w) (a b : Rat) (ha : ratOf s1 X1 Y1 = a) (hb : ratOf s2 X2 Y2 = b) (hL1 : largeB s1 X1 Y1 = false) (hL2 : largeB s2 X2 Y2 = false) :
    Calls Tryd.prog 37 #[v1, v2] w (OutPost w (Out.err 10)) := by
  have H1 := Lib.hid h1
  have H2 := Lib.hid h2
  have HT := Lib.hid hT
  obtain ⟨A1, n1, c1, A1', n1', c1', rfl⟩ := h1.shape
  obtain ⟨A2, n2, c2, A2', n2', c2', rfl⟩ := h2.shape
  clear h1 h2 hT
  obtain ⟨M, hM, k1, k2, k3, bM⟩ := start2 w (.bool s1) (.slice A1 n1 c1) (.slice A1' n1' c1') (.bool s2) (.slice A2 n2 c2) (.slice A2' n2' c2') (.bool false) (.slice none 0 0) (.slice none 0 0) 24 24 24
  have HR := Lib.hid (show Res M (w.heap.size + 1 + 1) 24 from ⟨_, _, _, NI.bool _, NI.slice _ _ _, NI.slice _ _ _, k3⟩)
  have HX := Lib.hid k1
  have HY := Lib.hid k2
  have BM := Lib.hid bM
  replace H1 := Lib.hid (H1.out.below bM)
  replace H2 := Lib.hid (H2.out.below bM)
  replace HT := Lib.hid (HT.out.below bM)
  have HA := Lib.hid ha
  have HB := Lib.hid hb
  have HL1 := Lib.hid hL1
  have HL2 := Lib.hid hL2
  have HZ := Lib.hid (show b.num.natAbs = 0 by rw [← hb, hz]; rfl)
  clear hz
  clear ha hb hL1 hL2 k1 k2 k3 bM
  go_enter Tryd.func37, Tryd.ntmps37
  go_upto_region 1 with (fail)
  rw [← hM]
  clear hM
  obtain ⟨x1, x2, x3, _, _, _⟩ := HX.out.cells
  go_wp2_with fail
  refine (readV _ s1 X1 Y1 _ H1.out HT.out).mono ?_
  rw [HL1.out, Bool.not_false]
  rintro e wa ⟨t1, B1, m1, d1, B1', m1', d1', rfl, f1, ba⟩
  have bb := below_step ba ba.size (below_alloc wa (.cells #[.bool t1, .slice B1 m1 d1, .slice B1' m1' d1'] 60))
  have HF1 := Lib.hid (Box.new wa (.bool t1) (.slice B1 m1 d1) (.slice B1' m1' d1') 60)
  have F1 : Hid (largeB s1 X1 Y1 = false → IsF (wa.alloc (.cells #[.bool t1, .slice B1 m1 d1, .slice B1' m1' d1'] 60)) (.agg #[.bool t1, .slice B1 m1 d1, .slice B1' m1' d1']) (ratOf s1 X1 Y1)) := Lib.hid (fun h => (f1.out rfl).below (below_alloc _ _))
  have hsz : w.heap.size + 1 + 1 < wa.heap.size := Nat.lt_of_lt_of_le (by obtain ⟨_, _, _, _, _, _, hh⟩ := HR.out; exact hh.lt) ba.size
  replace HX := Lib.hid (HX.out.below bb)
  replace HY := Lib.hid (HY.out.below bb)
  replace HR := Lib.hid (HR.out.below bb)
  replace H2 := Lib.hid (H2.out.below bb)
  replace HT := Lib.hid (HT.out.below bb)
  have BM := Lib.hid (below_step BM.out BM.out.size bb)
  obtain ⟨w1, hw1⟩ : ∃ w1, wa.alloc (.cells #[.bool t1, .slice B1 m1 d1, .slice B1' m1' d1'] 60) = w1 := ⟨_, rfl⟩
  have hs1 : w1.heap.size = wa.heap.size + 1 := by rw [← hw1]; simp
  have HS1 := Lib.hid hs1
  have HSZ := Lib.hid hsz
  clear x1 x2 x3 ba bb f1 hs1 hsz
  go_upto_region 2 with (fail)
  rw [hw1] at HX HY HR H2 HT BM HF1 F1
  try rw [hw1]
  clear hw1
  obtain ⟨y1, y2, y3, _, _, _⟩ := HY.out.cells
  go_wp2_with fail
  refine (readV _ s2 X2 Y2 _ H2.out HT.out).mono ?_
  rw [HL2.out, Bool.not_false]
  rintro e wc ⟨t2, B2, m2, d2, B2', m2', d2', rfl, f2, bc⟩
  have bd := below_step bc bc.size (below_alloc wc (.cells #[.bool t2, .slice B2 m2 d2, .slice B2' m2' d2'] 60))
  have HF2 := Lib.hid (Box.new wc (.bool t2) (.slice B2 m2 d2) (.slice B2' m2' d2') 60)
  have F2 : Hid (largeB s2 X2 Y2 = false → IsF (wc.alloc (.cells #[.bool t2, .slice B2 m2 d2, .slice B2' m2' d2'] 60)) (.agg #[.bool t2, .slice B2 m2 d2, .slice B2' m2' d2']) (ratOf s2 X2 Y2)) := Lib.hid (fun h => (f2.out rfl).below (below_alloc _ _))
  have F1 : Hid (largeB s1 X1 Y1 = false → IsF (wc.alloc (.cells #[.bool t2, .slice B2 m2 d2, .slice B2' m2' d2'] 60)) (.agg #[.bool t1, .slice B1 m1 d1, .slice B1' m1' d1']) (ratOf s1 X1 Y1)) := Lib.hid (fun h => (F1.out h).below bd)
  have hsz2 : wa.heap.size + 1 ≤ wc.heap.size := by have := bc.size; have := HS1.out; omega
  replace HF1 := Lib.hid (HF1.out.below bd)
  replace HR := Lib.hid (HR.out.below bd)
  replace HT := Lib.hid (HT.out.below bd)
  have BM := Lib.hid (below_step BM.out BM.out.size bd)
  have HSZ2 := Lib.hid hsz2
  obtain ⟨w2, hw2⟩ : ∃ w2, wc.alloc (.cells #[.bool t2, .slice B2 m2 d2, .slice B2' m2' d2'] 60) = w2 := ⟨_, rfl⟩
  obtain ⟨gf, hgf⟩ : ∃ g, wa.heap.size = g := ⟨_, rfl⟩
  obtain ⟨gg, hgg⟩ : ∃ g, wc.heap.size = g := ⟨_, rfl⟩
  clear y1 y2 y3 bc bd f2 HS1 hsz2 HX HY H1 H2
  go_upto_region 3 with (fail)
  rw [hw2] at HF1 HF2 HR HT BM F1 F2
  try rw [hw2]
  rw [hgf] at HF1 HSZ HSZ2
  rw [hgg] at HF2 HSZ2
  try rw [hgf]
  try rw [hgg]
  clear hw2 hgf hgg
  have F1 := Lib.hid (F1.out HL1.out)
  have F2 := Lib.hid (F2.out HL2.out)
  rw [HA.out] at F1
  rw [HB.out] at F2
  obtain ⟨C1, u1, C2, u2, ev, ra, rb⟩ := F2.out
  simp only [Value.agg.injEq, Array.mk.injEq, List.cons.injEq, Value.bool.injEq, Value.slice.injEq, and_true] at ev
  obtain ⟨rfl, ⟨rfl, rfl, rfl⟩, rfl, rfl, rfl⟩ := ev
  have hw0 : decide (W b.num.natAbs = []) = true := by rw [HZ.out]; simp [W_zero]
  have HW0 := Lib.hid hw0
  clear ra rb hw0
  obtain ⟨x1, x2, x3, _⟩ := HF1.out.cells
  obtain ⟨y1, y2, y3, _⟩ := HF2.out.cells
  go_wp2_with fail
  refine (wZero _ _ _ _).mono ?_
  rw [HW0.out]
  rintro e we ⟨rfl, rfl⟩
  obtain ⟨z1, z2, z3, hy1, hy2, hy3, f1, f2, f3⟩ := HR.out.cells
  obtain ⟨q0, q1, q2, hs, hb⟩ := OutIs.stored (o := .err 10) (k := 10) (s := false) (A1 := none) (A2 := none) (n1 := 0) (c1 := 0) (n2 := 0) (c2 := 0) ⟨rfl, rfl, by omega, by omega⟩ HR.out BM.out (by omega)
  have Q := Lib.hid (And.intro q0 (And.intro q1 q2))
  have HBB := Lib.hid hb
  clear q0 q1 q2 hs hb
  go_wp2_with fail
  obtain ⟨q0, q1, q2⟩ := Q.out
  refine bodyPost_ret (v := .tuple #[noRat, .int .i64 10]) (by simp [results, Tryd.results37, go_sem, q0, q1, q2, noRat]) rfl (OutPost.err rfl (by omega) (by omega) HBB.out)
set_option maxHeartbeats 2000000 in
set_option maxRecDepth 100000 in
theorem nDiv_fit (s1 : Bool) (X1 Y1 : Nat) (s2 : Bool) (X2 Y2 : Nat) (hz : ratOf s2 X2 Y2 ≠ 0) (r : Rat) (hr : ratOf s1 X1 Y1 / ratOf s2 X2 Y2 = r) (w : World) (v1 v2 : Value) (h1 : RawV w v1 s1 X1 Y1) (h2 : RawV w v2 s2 X2 Y2) (hT : Tab w) (a b : Rat) (ha : ratOf s1 X1 Y1 = a) (hb : ratOf s2 X2 Y2 = b) (hL1 : largeB s1 X1 Y1 = false) (hL2 : largeB s2 X2 Y2 = false) :
    Calls Tryd.prog 37 #[v1, v2] w (OutPost w (give r)) := by
  have H1 := Lib.hid h1
  have H2 := Lib.hid h2
  have HT := Lib.hid hT
  obtain ⟨A1, n1, c1, A1', n1', c1', rfl⟩ := h1.shape
  obtain ⟨A2, n2, c2, A2', n2', c2', rfl⟩ := h2.shape
  clear h1 h2 hT
  obtain ⟨M, hM, k1, k2, k3, bM⟩ := start2 w (.bool s1) (.slice A1 n1 c1) (.slice A1' n1' c1') (.bool s2) (.slice A2 n2 c2) (.slice A2' n2' c2') (.bool false) (.slice none 0 0) (.slice none 0 0) 24 24 24
  have HR := Lib.hid (show Res M (w.heap.size + 1 + 1) 24 from ⟨_, _, _, NI.bool _, NI.slice _ _ _, NI.slice _ _ _, k3⟩)
  have HX := Lib.hid k1
  have HY := Lib.hid k2
  have BM := Lib.hid bM
  replace H1 := Lib.hid (H1.out.below bM)
  replace H2 := Lib.hid (H2.out.below bM)
  replace HT := Lib.hid (HT.out.below bM)
  have HA := Lib.hid ha
  have HB := Lib.hid hb
  have HL1 := Lib.hid hL1
  have HL2 := Lib.hid hL2
  have fa := (largeB_false hL1).2.2
  have fb := (largeB_false hL2).2.2
  rw [ha] at fa
  rw [hb] at fb
  have FA := Lib.hid fa
  have FB := Lib.hid fb
  clear fa fb
  rw [ha, hb, Rat.div_def] at hr
  rw [hb] at hz
  have HRR := Lib.hid hr
  have HBZ := Lib.hid hz
  have hnn : b.num ≠ 0 := fun h0 => hz (Rat.num_eq_zero.1 h0)
  have HNZ := Lib.hid (show b.num.natAbs ≠ 0 by omega)
  clear hr hz hnn
  clear ha hb hL1 hL2 k1 k2 k3 bM
  go_enter Tryd.func37, Tryd.ntmps37
  go_upto_region 1 with (fail)
  rw [← hM]
  clear hM
  obtain ⟨x1, x2, x3, _, _, _⟩ := HX.out.cells
  go_wp2_with fail
  refine (readV _ s1 X1 Y1 _ H1.out HT.out).mono ?_
  rw [HL1.out, Bool.not_false]
  rintro e wa ⟨t1, B1, m1, d1, B1', m1', d1', rfl, f1, ba⟩
  have bb := below_step ba ba.size (below_alloc wa (.cells #[.bool t1, .slice B1 m1 d1, .slice B1' m1' d1'] 60))
  have HF1 := Lib.hid (Box.new wa (.bool t1) (.slice B1 m1 d1) (.slice B1' m1' d1') 60)
  have F1 : Hid (largeB s1 X1 Y1 = false → IsF (wa.alloc (.cells #[.bool t1, .slice B1 m1 d1, .slice B1' m1' d1'] 60)) (.agg #[.bool t1, .slice B1 m1 d1, .slice B1' m1' d1']) (ratOf s1 X1 Y1)) := Lib.hid (fun h => (f1.out rfl).below (below_alloc _ _))
  have hsz : w.heap.size + 1 + 1 < wa.heap.size := Nat.lt_of_lt_of_le (by obtain ⟨_, _, _, _, _, _, hh⟩ := HR.out; exact hh.lt) ba.size
  replace HX := Lib.hid (HX.out.below bb)
  replace HY := Lib.hid (HY.out.below bb)
  replace HR := Lib.hid (HR.out.below bb)
  replace H2 := Lib.hid (H2.out.below bb)
  replace HT := Lib.hid (HT.out.below bb)
  have BM := Lib.hid (below_step BM.out BM.out.size bb)
  obtain ⟨w1, hw1⟩ : ∃ w1, wa.alloc (.cells #[.bool t1, .slice B1 m1 d1, .slice B1' m1' d1'] 60) = w1 := ⟨_, rfl⟩
  have hs1 : w1.heap.size = wa.heap.size + 1 := by rw [← hw1]; simp
  have HS1 := Lib.hid hs1
  have HSZ := Lib.hid hsz
  clear x1 x2 x3 ba bb f1 hs1 hsz
  go_upto_region 2 with (fail)
  rw [hw1] at HX HY HR H2 HT BM HF1 F1
  try rw [hw1]
  clear hw1
  obtain ⟨y1, y2, y3, _, _, _⟩ := HY.out.cells
  go_wp2_with fail
  refine (readV _ s2 X2 Y2 _ H2.out HT.out).mono ?_
  rw [HL2.out, Bool.not_false]
  rintro e wc ⟨t2, B2, m2, d2, B2', m2', d2', rfl, f2, bc⟩
  have bd := below_step bc bc.size (below_alloc wc (.cells #[.bool t2, .slice B2 m2 d2, .slice B2' m2' d2'] 60))
  have HF2 := Lib.hid (Box.new wc (.bool t2) (.slice B2 m2 d2) (.slice B2' m2' d2') 60)
  have F2 : Hid (largeB s2 X2 Y2 = false → IsF (wc.alloc (.cells #[.bool t2, .slice B2 m2 d2, .slice B2' m2' d2'] 60)) (.agg #[.bool t2, .slice B2 m2 d2, .slice B2' m2' d2']) (ratOf s2 X2 Y2)) := Lib.hid (fun h => (f2.out rfl).below (below_alloc _ _))
  have F1 : Hid (largeB s1 X1 Y1 = false → IsF (wc.alloc (.cells #[.bool t2, .slice B2 m2 d2, .slice B2' m2' d2'] 60)) (.agg #[.bool t1, .slice B1 m1 d1, .slice B1' m1' d1']) (ratOf s1 X1 Y1)) := Lib.hid (fun h => (F1.out h).below bd)
  have hsz2 : wa.heap.size + 1 ≤ wc.heap.size := by have := bc.size; have := HS1.out; omega
  replace HF1 := Lib.hid (HF1.out.below bd)
  replace HR := Lib.hid (HR.out.below bd)
  replace HT := Lib.hid (HT.out.below bd)
  have BM := Lib.hid (below_step BM.out BM.out.size bd)
  have HSZ2 := Lib.hid hsz2
  obtain ⟨w2, hw2⟩ : ∃ w2, wc.alloc (.cells #[.bool t2, .slice B2 m2 d2, .slice B2' m2' d2'] 60) = w2 := ⟨_, rfl⟩
  obtain ⟨gf, hgf⟩ : ∃ g, wa.heap.size = g := ⟨_, rfl⟩
  obtain ⟨gg, hgg⟩ : ∃ g, wc.heap.size = g := ⟨_, rfl⟩
  clear y1 y2 y3 bc bd f2 HS1 hsz2 HX HY H1 H2
  go_upto_region 3 with (fail)
  rw [hw2] at HF1 HF2 HR HT BM F1 F2
  try rw [hw2]
  rw [hgf] at HF1 HSZ HSZ2
  rw [hgg] at HF2 HSZ2
  try rw [hgf]
  try rw [hgg]
  clear hw2 hgf hgg
  have F1 := Lib.hid (F1.out HL1.out)
  have F2 := Lib.hid (F2.out HL2.out)
  rw [HA.out] at F1
  rw [HB.out] at F2
  have TN : Hid (N2 w w2 (w.heap.size + 1 + 1) gf gg t1 B1 m1 d1 B1' m1' d1' a t2 B2 m2 d2 B2' m2' d2' b) := Lib.hid ⟨HR.out, HF1.out, HF2.out, F1.out, F2.out, HT.out, BM.out, by omega, by have := HSZ.out; omega, by have := HSZ.out; have := HSZ2.out; omega, by omega⟩
  obtain ⟨C1, u1, C2, u2, ev, ra, rb⟩ := F2.out
  obtain ⟨rfl, ⟨rfl, rfl, rfl⟩, rfl, rfl, rfl⟩ : t2 = ng b ∧ (B2 = C1 ∧ m2 = (W b.num.natAbs).length ∧ d2 = u1) ∧ B2' = C2 ∧ m2' = (W b.den).length ∧ d2' = u2 := by simpa using ev
  have hw0 : decide (W b.num.natAbs = []) = false := by
    have := HNZ.out
    rw [decide_eq_false_iff_not]
    intro h0
    have h1 := val_W b.num.natAbs
    rw [h0] at h1
    have h2 : val B32 ([] : List Int) = 0 := rfl
    rw [h2] at h1
    omega
  have HW0 := Lib.hid hw0
  clear ra rb hw0 ev
  obtain ⟨n2, hn2⟩ : ∃ n, (W b.num.natAbs).length = n := ⟨_, rfl⟩
  have C0 := Lib.hid (fun w => wZero w B2 (W b.num.natAbs) d2)
  rw [HW0.out] at C0
  rw [hn2] at C0 TN HF2 F2
  try rw [hn2]
  obtain ⟨m2', hm2'⟩ : ∃ n, (W b.den).length = n := ⟨_, rfl⟩
  rw [hm2'] at TN HF2 F2
  try rw [hm2']
  obtain ⟨t2, ht2⟩ : ∃ n, ng b = n := ⟨_, rfl⟩
  rw [ht2] at TN HF2 F2
  try rw [ht2]
  clear hn2 hm2' ht2
  obtain ⟨y1, y2, y3, _⟩ := HF2.out.cells
  go_wp2_with fail
  refine (C0.out _).mono ?_
  rintro e we ⟨rfl, rfl⟩
  clear y1 y2 y3
  go_wp2_with fail
  go_region_held3 (fun W' => (World.cell? W' ⟨gf, 0, none⟩ = some (.bool t1) ∧ World.cell? W' ⟨gf, 1, none⟩ = some (.slice B1 m1 d1) ∧ World.cell? W' ⟨gf, 2, none⟩ = some (.slice B1' m1' d1') ∧ World.cell? W' ⟨gg, 0, none⟩ = some (.bool t2) ∧ World.cell? W' ⟨gg, 1, none⟩ = some (.slice B2 n2 d2) ∧ World.cell? W' ⟨gg, 2, none⟩ = some (.slice B2' m2' d2') ∧ Hid (N2 w W' (w.heap.size + 1 + 1) gf gg t1 B1 m1 d1 B1' m1' d1' a t2 B2 n2 d2 B2' m2' d2' b)))
    (with_reducible (first | assumption | exact TN.out.drew.cells | exact N2.next (by assumption) (by assumption) | exact N2.nextS (by assumption)))
    (first
     | (go_at_call 88
        refine (Calls.partsF (fInv b _ _ (N2.of (by assumption)).fb HBZ.out)).mono ?_
        rintro e wi ⟨t3, B3, m3, d3, B3', m3', d3', rfl, i3, bi⟩)
     | (go_at_call 90
        refine (Calls.partsF (fMul a b⁻¹ _ _ _ (N2.of (by assumption)).fa i3.out (fit_Wq FA.out (by omega)) (inv_Wq HBZ.out (fit_Wq FB.out (by omega))) (N2.of (by assumption)).tab)).mono ?_
        rw [HRR.out]
        rintro e wm ⟨t4, B4, m4, d4, B4', m4', d4', rfl, i4, bm⟩)
     | (go_at_call 80
        refine (giveF _ r _ i4.out).mono ?_
        rintro e we ⟨s9, A9, n9, c9, A9', n9', c9', k9, rfl, h9, b9⟩
        have hh := (N2.of (by assumption)).below b9
        obtain ⟨z1, z2, z3, hz1, hz2, hz3, k1, k2, k3⟩ := hh.res.cells))
  obtain ⟨q0, q1, q2, hs, hb⟩ := OutIs.stored h9 hh.res hh.bel hh.n3
  have Q := Lib.hid (And.intro q0 (And.intro q1 q2))
  have HS := Lib.hid hs
  have HBB := Lib.hid hb
  clear q0 q1 q2 hs hb h9
  go_wp2
  obtain ⟨q0, q1, q2⟩ := Q.out
  refine bodyPost_ret (v := .tuple #[.agg #[.bool s9, .slice A9 n9 c9, .slice A9' n9' c9'], .int .i64 k9]) (by simp [results, Tryd.results37, go_sem, q0, q1, q2]) rfl ?_
  exact ⟨_, _, _, _, _, _, _, _, rfl, HS.out, HBB.out⟩
/-- what Div returns -/
def divOut (L : Bool) (a b : Rat) : Out := if L = true then .err 1 else if b = 0 then .err 10 else give (a / b)
theorem nDiv (s1 : Bool) (X1 Y1 : Nat) (s2 : Bool) (X2 Y2 : Nat) (w : World) (v1 v2 : Value) (h1 : RawV w v1 s1 X1 Y1) (h2 : RawV w v2 s2 X2 Y2) (hT : Tab w) :
    Calls Tryd.prog 37 #[v1, v2] w (OutPost w (divOut (largeB s1 X1 Y1 || largeB s2 X2 Y2) (ratOf s1 X1 Y1) (ratOf s2 X2 Y2))) := by
  unfold divOut
  cases e1 : largeB s1 X1 Y1 <;> cases e2 : largeB s2 X2 Y2
  · rw [if_neg (by simp)]
    by_cases hz : ratOf s2 X2 Y2 = 0
    · rw [if_pos hz]; exact nDiv_zero s1 X1 Y1 s2 X2 Y2 hz w v1 v2 h1 h2 hT _ _ rfl rfl e1 e2
    · rw [if_neg hz]; exact nDiv_fit s1 X1 Y1 s2 X2 Y2 hz _ rfl w v1 v2 h1 h2 hT _ _ rfl rfl e1 e2
  · exact nDiv_false_true s1 X1 Y1 s2 X2 Y2 w v1 v2 h1 h2 hT _ _ rfl rfl e1 e2
  · exact nDiv_true_false s1 X1 Y1 s2 X2 Y2 w v1 v2 h1 h2 hT _ _ rfl rfl e1 e2
  · exact nDiv_true_true s1 X1 Y1 s2 X2 Y2 w v1 v2 h1 h2 hT _ _ rfl rfl e1 e2
end Go.Proofs.YtfmhplcpejmkhaaDoor

namespace Go.Proofs.YtfmhplcpejmkhaaDoor
open Go.RowKit Dig
set_option linter.unusedVariables false
set_option linter.unusedSimpArgs false
/-- a value: is it large, and its number -/
def Vl (w : World) (v : Value) (L : Bool) (q : Rat) : Prop := ∃ s N D, RawV w v s N D ∧ largeB s N D = L ∧ ratOf s N D = q
theorem Vl.below {w w' : World} {v : Value} {L : Bool} {q : Rat} (h : Vl w v L q) (hb : Below w.heap.size w w') : Vl w' v L q := by
  obtain ⟨s, N, D, h1, h2, h3⟩ := h
  exact ⟨s, N, D, h1.below hb, h2, h3⟩
theorem OutIs.vl {w : World} {o : Out} {u : Value} {k : Int} (h : OutIs w o u k) : Vl w u false (valO o) := ⟨_, _, _, h.rawV, large_self h.fit, ratOf_self _⟩
/-- an operation's post: a value, a code, and what the value is where the code is 0 -/
def VPost (w : World) (P : Rat → Prop) (e : Ending) (w' : World) : Prop :=
  ∃ s A n c A' n' c' k t, e = .returned (.tuple #[.agg #[.bool s, .slice A n c, .slice A' n' c'], .int .i64 k]) ∧ Hid (Vl w' (.agg #[.bool s, .slice A n c, .slice A' n' c']) false t) ∧ Hid (k = 0 → P t) ∧ Below w.heap.size w w'
theorem OutPost.vp {w : World} {o : Out} {P : Rat → Prop} {e : Ending} {w' : World} (h : OutPost w o e w') (hp : ∀ q, o = .ok q → P q) : VPost w P e w' := by
  obtain ⟨s, A, n, c, A', n', c', k, he, ho, hb⟩ := h
  refine ⟨s, A, n, c, A', n', c', k, valO o, he, ho.vl, fun hk => ?_, hb⟩
  cases o with
  | ok q => exact hp q rfl
  | err j =>
    obtain ⟨h1, _, h2, _⟩ := ho
    omega
theorem op_ok {L : Bool} {v q : Rat} (h : (if L = true then Out.err 1 else give v) = .ok q) : q = v := by
  cases L
  · simp only [Bool.false_eq_true, if_false] at h
    unfold give at h
    split at h
    · exact (Out.ok.inj h).symm
    · cases h
  · simp at h
theorem vAdd (L1 L2 : Bool) (q1 q2 : Rat) (w : World) (v1 v2 : Value) (h1 : Vl w v1 L1 q1) (h2 : Vl w v2 L2 q2) (hT : Tab w) : Calls Tryd.prog 19 #[v1, v2] w (VPost w (fun t => t = q1 + q2)) := by
  obtain ⟨s1, N1, D1, r1, rfl, rfl⟩ := h1
  obtain ⟨s2, N2, D2, r2, rfl, rfl⟩ := h2
  exact (nAdd _ _ _ _ _ _ w _ _ r1 r2 hT).mono fun e w' h => h.vp fun q hq => op_ok hq
theorem vSub (L1 L2 : Bool) (q1 q2 : Rat) (w : World) (v1 v2 : Value) (h1 : Vl w v1 L1 q1) (h2 : Vl w v2 L2 q2) (hT : Tab w) : Calls Tryd.prog 20 #[v1, v2] w (VPost w (fun t => t = q1 - q2)) := by
  obtain ⟨s1, N1, D1, r1, rfl, rfl⟩ := h1
  obtain ⟨s2, N2, D2, r2, rfl, rfl⟩ := h2
  exact (nSub _ _ _ _ _ _ w _ _ r1 r2 hT).mono fun e w' h => h.vp fun q hq => op_ok hq
theorem vMul (L1 L2 : Bool) (q1 q2 : Rat) (w : World) (v1 v2 : Value) (h1 : Vl w v1 L1 q1) (h2 : Vl w v2 L2 q2) (hT : Tab w) : Calls Tryd.prog 39 #[v1, v2] w (VPost w (fun t => t = q1 * q2)) := by
  obtain ⟨s1, N1, D1, r1, rfl, rfl⟩ := h1
  obtain ⟨s2, N2, D2, r2, rfl, rfl⟩ := h2
  exact (nMul _ _ _ _ _ _ w _ _ r1 r2 hT).mono fun e w' h => h.vp fun q hq => op_ok hq
theorem vDiv (L1 L2 : Bool) (q1 q2 : Rat) (w : World) (v1 v2 : Value) (h1 : Vl w v1 L1 q1) (h2 : Vl w v2 L2 q2) (hT : Tab w) : Calls Tryd.prog 37 #[v1, v2] w (VPost w (fun t => q2 ≠ 0 ∧ t = q1 / q2)) := by
  obtain ⟨s1, N1, D1, r1, rfl, rfl⟩ := h1
  obtain ⟨s2, N2, D2, r2, rfl, rfl⟩ := h2
  refine (nDiv _ _ _ _ _ _ w _ _ r1 r2 hT).mono fun e w' h => h.vp fun q hq => ?_
  unfold divOut at hq
  split at hq
  · cases hq
  · split at hq
    · cases hq
    · rename_i hz
      exact ⟨hz, op_ok (L := false) (by simpa using hq)⟩
theorem vEqual (L1 L2 : Bool) (q1 q2 : Rat) (w : World) (v1 v2 : Value) (h1 : Vl w v1 L1 q1) (h2 : Vl w v2 L2 q2) (hq : q1 = q2) : Calls Tryd.prog 32 #[v1, v2] w fun e w' => e = .returned (.bool true) ∧ Below w.heap.size w w' := by
  obtain ⟨s1, N1, D1, ⟨A1, c1, l1, A2, c2, l2, rfl, r1, r2, o1, o2, e1, e2, z1, z2⟩, rfl, rfl⟩ := h1
  obtain ⟨s2, N2, D2, ⟨A3, c3, l3, A4, c4, l4, rfl, r3, r4, o3, o4, e3, e4, z3, z4⟩, rfl, rfl⟩ := h2
  refine (rEqual s1 l1 l2 N1 D1 s2 l3 l4 N2 D2 w _ _ _ _ _ _ _ _ r1 r2 r3 r4 o1 o2 o3 o4 e1 e2 e3 e4 z1 z2 z3 z4).mono ?_
  rintro e w' ⟨rfl, hb⟩
  exact ⟨by rw [decide_eq_true hq], hb⟩
end Go.Proofs.YtfmhplcpejmkhaaDoor

namespace Go.Proofs.YtfmhplcpejmkhaaDoor
open Go.RowKit Dig
set_option linter.unusedVariables false
set_option linter.unusedSimpArgs false
theorem W_single {n : Nat} (h0 : n ≠ 0) (h : n < 4294967296) : W n = [(n : Int)] := by
  unfold W
  rw [dig_pos B32_two h0]
  have h1 : n < B32 := by unfold B32; exact h
  rw [Nat.div_eq_of_lt h1, dig_zero, Nat.mod_eq_of_lt h1]
theorem half_third : ratOf false 1 2 + ratOf false 1 3 = mkRat 5 6 := by
  show mkRat 1 2 + mkRat 1 3 = mkRat 5 6
  rw [Rat.mkRat_add_mkRat _ _ (by omega) (by omega)]
  rfl
theorem five_sixths : ng (mkRat 5 6) = false ∧ (mkRat 5 6).num.natAbs = 5 ∧ (mkRat 5 6).den = 6 := by
  have h1 : (mkRat 5 6).num = 5 := by rw [Rat.num_mkRat, if_neg (by omega)]; rfl
  have h2 : (mkRat 5 6).den = 6 := by rw [Rat.den_mkRat, if_neg (by omega)]; rfl
  refine ⟨?_, ?_, h2⟩
  · unfold ng; rw [h1]; rfl
  · rw [h1]; rfl
theorem fit_half (d : Nat) (h0 : d ≠ 0) (h : d < 4294967296) : fitQ (ratOf false 1 d) := by
  have e : ratOf false 1 d = mkRat 1 d := by unfold ratOf sg; rw [if_neg h0]; rfl
  rw [e]
  have h1 : (mkRat 1 d).num.natAbs ≤ 1 := by
    rw [Rat.num_mkRat, if_neg h0]; simp
  have h2 : (mkRat 1 d).den ≤ d := by
    rw [Rat.den_mkRat, if_neg h0]; exact Nat.div_le_self _ _
  exact ⟨Nat.le_trans (W_le_one (by omega)) (by omega), Nat.le_trans (W_le_one (by omega)) (by omega)⟩
theorem small_large (d : Nat) (h0 : d ≠ 0) (h : d < 4294967296) : largeB false 1 d = false := by
  unfold largeB
  rw [decide_eq_true ⟨Nat.le_trans (W_le_one (by omega)) (by omega), Nat.le_trans (W_le_one (by omega)) (by omega), fit_half d h0 h⟩]
  rfl
theorem rd_one (w : World) (g : Nat) (x : Int) (h : w.cell? ⟨g, 0, none⟩ = some (.int .u32 x)) : Rd w (some ⟨g, 0, none⟩) 1 [x] :=
  ⟨by simp, by omega, fun j hj => by
    have : j = 0 := by simpa using hj
    subst this
    exact ⟨_, rfl, by simpa [Addr.add, rd] using h⟩⟩
theorem raw_one {w : World} {g g' : Nat} {d : Nat} (h1 : w.cell? ⟨g, 0, none⟩ = some (.int .u32 1)) (h2 : w.cell? ⟨g', 0, none⟩ = some (.int .u32 d)) (h : d < 4294967296) :
    RawV w (.agg #[.bool false, .slice (some ⟨g, 0, none⟩) 1 1, .slice (some ⟨g', 0, none⟩) 1 1]) false 1 d := by
  refine ⟨_, _, [1], _, _, [(d : Int)], rfl, rd_one _ _ _ h1, rd_one _ _ _ h2, ?_, ?_, by simp [val], by simp [val], by simp, by simp⟩
  · exact Ok.cons (by omega) (by rw [B32_cast]; omega) (Ok.nil _)
  · exact Ok.cons (by omega) (by rw [B32_cast]; omega) (Ok.nil _)
theorem four_new (w : World) (a b c d : Value) (t : TypeId) : ∃ M, M = ((((w.alloc (.cells #[a] t)).alloc (.cells #[b] t)).alloc (.cells #[c] t)).alloc (.cells #[d] t)) ∧
    M.cell? ⟨w.heap.size, 0, none⟩ = some a ∧ M.cell? ⟨w.heap.size + 1, 0, none⟩ = some b ∧ M.cell? ⟨w.heap.size + 1 + 1, 0, none⟩ = some c ∧ M.cell? ⟨w.heap.size + 1 + 1 + 1, 0, none⟩ = some d ∧ Below w.heap.size w M := by
  refine ⟨_, rfl, ?_⟩
  have key : ∀ (w : World) (x : Value), (w.alloc (.cells #[x] t)).cell? ⟨w.heap.size, 0, none⟩ = some x ∧ Below w.heap.size w (w.alloc (.cells #[x] t)) ∧ (w.alloc (.cells #[x] t)).heap.size = w.heap.size + 1 := by
    intro w x
    refine ⟨?_, below_alloc _ _, by simp⟩
    exact (cell_of_row _ _ 0 _ _ (0, 0) (heap_alloc_new w (.cells #[x] t))).trans rfl
  obtain ⟨a1, b1, s1⟩ := key w a
  generalize w.alloc (.cells #[a] t) = w1 at *
  obtain ⟨a2, b2, s2⟩ := key w1 b
  generalize w1.alloc (.cells #[b] t) = w2 at *
  obtain ⟨a3, b3, s3⟩ := key w2 c
  generalize w2.alloc (.cells #[c] t) = w3 at *
  obtain ⟨a4, b4, s4⟩ := key w3 d
  generalize w3.alloc (.cells #[d] t) = w4 at *
  rw [s1] at a2 s2
  rw [s2] at a3 s3
  rw [s3] at a4
  exact ⟨cell_later b4 (cell_later b3 (cell_later b2 a1)), cell_later b4 (cell_later b3 a2), cell_later b4 a3, a4, below_step b1 b1.size (below_step b2 b2.size (below_step b3 b3.size b4))⟩
set_option maxHeartbeats 1000000 in
set_option maxRecDepth 100000 in
theorem lAwake (w : World) (hT : Tab w) : Calls Tryd.prog 18 #[] w fun e w' => e = .returned (.bool true) ∧ Below w.heap.size w w' := by
  obtain ⟨M, hM, k1, k2, k3, k4, bM⟩ := four_new w (.int .u32 1) (.int .u32 2) (.int .u32 1) (.int .u32 3) 68
  have C := Lib.hid (nAdd false 1 2 false 1 3 M _ _ (raw_one k1 k2 (by omega)) (raw_one k3 k4 (by omega)) (hT.below bM))
  rw [small_large 2 (by omega) (by omega), small_large 3 (by omega) (by omega), half_third] at C
  have BM := Lib.hid bM
  clear k1 k2 k3 k4 bM hT
  go_enter Tryd.func18, Tryd.ntmps18
  go_wp2_with fail
  rw [← hM]
  clear hM
  refine C.out.mono ?_
  rintro e wa ⟨s9, A9, n9, c9, A9', n9', c9', k9, rfl, h9, b9⟩
  have BA := Lib.hid (below_step BM.out BM.out.size b9)
  have hf : fitQ (mkRat 5 6) := by
    obtain ⟨_, h2, h3⟩ := five_sixths
    unfold fitQ
    rw [h2, h3]
    exact ⟨Nat.le_trans (W_le_one (by omega)) (by omega), Nat.le_trans (W_le_one (by omega)) (by omega)⟩
  have hg : (if (false || false) = true then Out.err 1 else give (mkRat 5 6)) = .ok (mkRat 5 6) := by
    show give (mkRat 5 6) = _
    unfold give
    rw [if_pos hf]
  rw [hg] at h9
  obtain ⟨rfl, ⟨B1, b1, B2, b2, e, r1, r2⟩, _⟩ := h9
  obtain ⟨h1, h2, h3⟩ := five_sixths
  rw [h1, h2, h3] at e
  rw [h2, W_single (by omega) (by omega)] at r1
  rw [h3, DW, if_neg (by omega), W_single (by omega) (by omega)] at r2
  rw [W_single (by omega) (by omega), DW, if_neg (by omega), W_single (by omega) (by omega)] at e
  obtain ⟨p1, rfl⟩ := r1.some_ (by simp)
  obtain ⟨p2, rfl⟩ := r2.some_ (by simp)
  simp only [Value.agg.injEq, Array.mk.injEq, List.cons.injEq, Value.bool.injEq, Value.slice.injEq, and_true, List.length_cons, List.length_nil] at e
  obtain ⟨rfl, ⟨rfl, rfl, rfl⟩, rfl, rfl, rfl⟩ := e
  have q1 := r1.cell 0 (by simp)
  have q2 := r2.cell 0 (by simp)
  have e1 := r1.le
  have e2 := r2.le
  have e3 := r1.max
  have e4 := r2.max
  replace q1 : wa.cell? p1 = some (.int .u32 5) := by simpa [Addr.add, rd] using q1
  replace q2 : wa.cell? p2 = some (.int .u32 6) := by simpa [Addr.add, rd] using q2
  simp only [List.length_cons, List.length_nil] at e1 e2
  have ba := below_alloc wa (.cells #[.bool false, .slice (some p1) 1 c9, .slice (some p2) 1 c9'] 24)
  have q3 := cell_later ba q1
  have q4 := cell_later ba q2
  have BB := Lib.hid (below_step BA.out BA.out.size ba)
  clear r1 r2 ba C
  go_wp2
  go_ret
  exact ⟨rfl, BB.out⟩
end Go.Proofs.YtfmhplcpejmkhaaDoor

namespace Go.Proofs.YtfmhplcpejmkhaaDoor
open Go.RowKit Dig
set_option linter.unusedVariables false
set_option linter.unusedSimpArgs false
theorem fld1 {x y z a b c d : Rat} (h1 : a = x + y) (h2 : b = a + z) (h3 : c = y + z) (h4 : d = c + x) : b = d := by grind
theorem fld2 {x y z f g h i : Rat} (h1 : f = x * y) (h2 : g = f * z) (h3 : h = z * y) (h4 : i = h * x) : g = i := by grind
theorem fld3 {x y z c f j k l : Rat} (h1 : c = y + z) (h2 : f = x * y) (h3 : j = x * c) (h4 : k = x * z) (h5 : l = f + k) : j = l := by grind
theorem fld4 {x y a m : Rat} (h1 : a = x + y) (h2 : m = a - y) : m = x := by grind
theorem fld5 {x y f n : Rat} (h1 : f = x * y) (h2 : y ≠ 0 ∧ n = f / y) : n = x := by
  obtain ⟨e0, e2⟩ := h2
  rw [e2, h1, Rat.div_def, Rat.mul_assoc, Rat.mul_inv_cancel _ e0, Rat.mul_one]
set_option maxHeartbeats 8000000 in
set_option maxRecDepth 100000 in
theorem wNumberField (s1 : Bool) (N1 D1 : Nat) (s2 : Bool) (N2 D2 : Nat) (s3 : Bool) (N3 D3 : Nat) (w : World) (v1 v2 v3 : Value) (h1 : RawV w v1 s1 N1 D1) (h2 : RawV w v2 s2 N2 D2) (h3 : RawV w v3 s3 N3 D3) (hT : Tab w) :
    Calls Tryd.prog 13 #[v1, v2, v3] w fun e w' => e = .returned (.bool true) ∧ Below w.heap.size w w' := by
  obtain ⟨A1, n1, c1, A1', n1', c1', rfl⟩ := h1.shape
  obtain ⟨A2, n2, c2, A2', n2', c2', rfl⟩ := h2.shape
  obtain ⟨A3, n3, c3, A3', n3', c3', rfl⟩ := h3.shape
  obtain ⟨M, hM, k1, k2, k3, bM⟩ := start2 w (.bool s1) (.slice A1 n1 c1) (.slice A1' n1' c1') (.bool s2) (.slice A2 n2 c2) (.slice A2' n2' c2') (.bool s3) (.slice A3 n3 c3) (.slice A3' n3' c3') 24 24 24
  obtain ⟨qx, hqx⟩ : ∃ t, ratOf s1 N1 D1 = t := ⟨_, rfl⟩
  obtain ⟨Lx, hLx⟩ : ∃ t, largeB s1 N1 D1 = t := ⟨_, rfl⟩
  have Zx := Lib.hid k1
  have Vx := Lib.hid (show Vl M (.agg #[.bool s1, .slice A1 n1 c1, .slice A1' n1' c1']) Lx qx from ⟨s1, N1, D1, h1.below bM, hLx, hqx⟩)
  obtain ⟨qy, hqy⟩ : ∃ t, ratOf s2 N2 D2 = t := ⟨_, rfl⟩
  obtain ⟨Ly, hLy⟩ : ∃ t, largeB s2 N2 D2 = t := ⟨_, rfl⟩
  have Zy := Lib.hid k2
  have Vy := Lib.hid (show Vl M (.agg #[.bool s2, .slice A2 n2 c2, .slice A2' n2' c2']) Ly qy from ⟨s2, N2, D2, h2.below bM, hLy, hqy⟩)
  obtain ⟨qz, hqz⟩ : ∃ t, ratOf s3 N3 D3 = t := ⟨_, rfl⟩
  obtain ⟨Lz, hLz⟩ : ∃ t, largeB s3 N3 D3 = t := ⟨_, rfl⟩
  have Zz := Lib.hid k3
  have Vz := Lib.hid (show Vl M (.agg #[.bool s3, .slice A3 n3 c3, .slice A3' n3' c3']) Lz qz from ⟨s3, N3, D3, h3.below bM, hLz, hqz⟩)
  have HT := Lib.hid (hT.below bM)
  have BM := Lib.hid bM
  clear hT h1 h2 h3 k1 k2 k3 bM hqx hqy hqz hLx hLy hLz
  go_enter Tryd.func13, Tryd.ntmps13
  go_upto_region 1 with (fail)
  rw [← hM]
  clear hM
  obtain ⟨x1, y1, z1, f11, f12, f13⟩ := Zx.out.cells
  obtain ⟨x2, y2, z2, f21, f22, f23⟩ := Zy.out.cells
  go_wp2_with fail
  refine (vAdd Lx Ly qx qy _ _ _ Vx.out Vy.out HT.out).mono ?_
  rintro e wa ⟨pa, Pa, ma, da, Pa', ma', da', ka, ta, rfl, hva, Fa, bw⟩
  have bq := below_step bw bw.size (below_alloc wa (.cells #[.bool pa, .slice Pa ma da, .slice Pa' ma' da'] 24))
  have Va := Lib.hid (hva.out.below (below_alloc wa (.cells #[.bool pa, .slice Pa ma da, .slice Pa' ma' da'] 24)))
  have Za := Lib.hid (Box.new wa (.bool pa) (.slice Pa ma da) (.slice Pa' ma' da') 24)
  replace HT := Lib.hid (HT.out.below bq)
  replace Zx := Lib.hid (Zx.out.below bq)
  replace Vx := Lib.hid (Vx.out.below bq)
  replace Zy := Lib.hid (Zy.out.below bq)
  replace Vy := Lib.hid (Vy.out.below bq)
  replace Zz := Lib.hid (Zz.out.below bq)
  replace Vz := Lib.hid (Vz.out.below bq)
  replace BM := Lib.hid (below_step BM.out BM.out.size bq)
  obtain ⟨wv, hv⟩ : ∃ v, wa.alloc (.cells #[.bool pa, .slice Pa ma da, .slice Pa' ma' da'] 24) = v := ⟨_, rfl⟩
  clear bq bw hva x1 y1 z1 x2 y2 z2 f11 f12 f13 f21 f22 f23
  go_upto_region 2 with (fail)
  rw [hv] at BM HT Zx Vx Zy Vy Zz Vz Va Za
  try rw [hv]
  clear hv
  obtain ⟨x1, y1, z1, f11, f12, f13⟩ := Za.out.cells
  obtain ⟨x2, y2, z2, f21, f22, f23⟩ := Zz.out.cells
  go_wp2_with fail
  refine (vAdd false Lz ta qz _ _ _ Va.out Vz.out HT.out).mono ?_
  rintro e wb ⟨pb, Pb, mb, db, Pb', mb', db', kb, tb, rfl, hvb, Fb, bw⟩
  have bq := below_step bw bw.size (below_alloc wb (.cells #[.bool pb, .slice Pb mb db, .slice Pb' mb' db'] 24))
  have Vb := Lib.hid (hvb.out.below (below_alloc wb (.cells #[.bool pb, .slice Pb mb db, .slice Pb' mb' db'] 24)))
  have Zb := Lib.hid (Box.new wb (.bool pb) (.slice Pb mb db) (.slice Pb' mb' db') 24)
  replace HT := Lib.hid (HT.out.below bq)
  replace Zx := Lib.hid (Zx.out.below bq)
  replace Vx := Lib.hid (Vx.out.below bq)
  replace Zy := Lib.hid (Zy.out.below bq)
  replace Vy := Lib.hid (Vy.out.below bq)
  replace Zz := Lib.hid (Zz.out.below bq)
  replace Vz := Lib.hid (Vz.out.below bq)
  replace Va := Lib.hid (Va.out.below bq)
  replace Za := Lib.hid (Za.out.below bq)
  replace BM := Lib.hid (below_step BM.out BM.out.size bq)
  obtain ⟨wv, hv⟩ : ∃ v, wb.alloc (.cells #[.bool pb, .slice Pb mb db, .slice Pb' mb' db'] 24) = v := ⟨_, rfl⟩
  clear bq bw hvb x1 y1 z1 x2 y2 z2 f11 f12 f13 f21 f22 f23
  go_upto_region 3 with (fail)
  rw [hv] at BM HT Zx Vx Zy Vy Zz Vz Va Za Vb Zb
  try rw [hv]
  clear hv
  obtain ⟨x1, y1, z1, f11, f12, f13⟩ := Zy.out.cells
  obtain ⟨x2, y2, z2, f21, f22, f23⟩ := Zz.out.cells
  go_wp2_with fail
  refine (vAdd Ly Lz qy qz _ _ _ Vy.out Vz.out HT.out).mono ?_
  rintro e wc ⟨pc, Pc, mc, dc, Pc', mc', dc', kc, tc, rfl, hvc, Fc, bw⟩
  have bq := below_step bw bw.size (below_alloc wc (.cells #[.bool pc, .slice Pc mc dc, .slice Pc' mc' dc'] 24))
  have Vc := Lib.hid (hvc.out.below (below_alloc wc (.cells #[.bool pc, .slice Pc mc dc, .slice Pc' mc' dc'] 24)))
  have Zc := Lib.hid (Box.new wc (.bool pc) (.slice Pc mc dc) (.slice Pc' mc' dc') 24)
  replace HT := Lib.hid (HT.out.below bq)
  replace Zx := Lib.hid (Zx.out.below bq)
  replace Vx := Lib.hid (Vx.out.below bq)
  replace Zy := Lib.hid (Zy.out.below bq)
  replace Vy := Lib.hid (Vy.out.below bq)
  replace Zz := Lib.hid (Zz.out.below bq)
  replace Vz := Lib.hid (Vz.out.below bq)
  replace Va := Lib.hid (Va.out.below bq)
  replace Za := Lib.hid (Za.out.below bq)
  replace Vb := Lib.hid (Vb.out.below bq)
  replace Zb := Lib.hid (Zb.out.below bq)
  replace BM := Lib.hid (below_step BM.out BM.out.size bq)
  obtain ⟨wv, hv⟩ : ∃ v, wc.alloc (.cells #[.bool pc, .slice Pc mc dc, .slice Pc' mc' dc'] 24) = v := ⟨_, rfl⟩
  clear bq bw hvc x1 y1 z1 x2 y2 z2 f11 f12 f13 f21 f22 f23
  go_upto_region 4 with (fail)
  rw [hv] at BM HT Zx Vx Zy Vy Zz Vz Va Za Vb Zb Vc Zc
  try rw [hv]
  clear hv
  obtain ⟨x1, y1, z1, f11, f12, f13⟩ := Zc.out.cells
  obtain ⟨x2, y2, z2, f21, f22, f23⟩ := Zx.out.cells
  go_wp2_with fail
  refine (vAdd false Lx tc qx _ _ _ Vc.out Vx.out HT.out).mono ?_
  rintro e wd ⟨pd, Pd, md, dd, Pd', md', dd', kd, td, rfl, hvd, Fd, bw⟩
  have bq := below_step bw bw.size (below_alloc wd (.cells #[.bool pd, .slice Pd md dd, .slice Pd' md' dd'] 24))
  have Vd := Lib.hid (hvd.out.below (below_alloc wd (.cells #[.bool pd, .slice Pd md dd, .slice Pd' md' dd'] 24)))
  have Zd := Lib.hid (Box.new wd (.bool pd) (.slice Pd md dd) (.slice Pd' md' dd') 24)
  replace HT := Lib.hid (HT.out.below bq)
  replace Zx := Lib.hid (Zx.out.below bq)
  replace Vx := Lib.hid (Vx.out.below bq)
  replace Zy := Lib.hid (Zy.out.below bq)
  replace Vy := Lib.hid (Vy.out.below bq)
  replace Zz := Lib.hid (Zz.out.below bq)
  replace Vz := Lib.hid (Vz.out.below bq)
  replace Va := Lib.hid (Va.out.below bq)
  replace Za := Lib.hid (Za.out.below bq)
  replace Vb := Lib.hid (Vb.out.below bq)
  replace Zb := Lib.hid (Zb.out.below bq)
  replace Vc := Lib.hid (Vc.out.below bq)
  replace Zc := Lib.hid (Zc.out.below bq)
  replace BM := Lib.hid (below_step BM.out BM.out.size bq)
  obtain ⟨wv, hv⟩ : ∃ v, wd.alloc (.cells #[.bool pd, .slice Pd md dd, .slice Pd' md' dd'] 24) = v := ⟨_, rfl⟩
  clear bq bw hvd x1 y1 z1 x2 y2 z2 f11 f12 f13 f21 f22 f23
  go_upto_region 5 with (fail)
  rw [hv] at BM HT Zx Vx Zy Vy Zz Vz Va Za Vb Zb Vc Zc Vd Zd
  try rw [hv]
  clear hv
  go_cut [76] (fun vs wc => vs = .bool false ∧ Hid (Below wv.heap.size wv wc))
  case first =>
    by_cases hka : ka = 0
    · subst hka
      by_cases hkb : kb = 0
      · subst hkb
        by_cases hkc : kc = 0
        · subst hkc
          by_cases hkd : kd = 0
          · subst hkd
            have eq : tb = td := by
              exact fld1 (Fa.out rfl) (Fb.out rfl) (Fc.out rfl) (Fd.out rfl)
            obtain ⟨x1, y1, z1, f11, f12, f13⟩ := Zb.out.cells
            obtain ⟨x2, y2, z2, f21, f22, f23⟩ := Zd.out.cells
            have EQ := Lib.hid eq
            clear eq
            go_wp2_with fail
            refine (vEqual false false tb td _ _ _ Vb.out Vd.out EQ.out).mono ?_
            rintro e we ⟨rfl, be⟩
            have BE := Lib.hid be
            clear be
            go_wp2_with fail
            go_meet
            case rel => exact ⟨rfl, BE⟩
          · have f1 : (kd == 0) = false := beq_eq_false_iff_ne.2 hkd
            have f2 : decide (kd = 0) = false := decide_eq_false hkd
            clear hkd
            go_wp2_with fail
            go_meet
            case rel => exact ⟨rfl, Lib.hid (Below.refl _ _)⟩
        · have f1 : (kc == 0) = false := beq_eq_false_iff_ne.2 hkc
          have f2 : decide (kc = 0) = false := decide_eq_false hkc
          clear hkc
          go_wp2_with fail
          go_meet
          case rel => exact ⟨rfl, Lib.hid (Below.refl _ _)⟩
      · have f1 : (kb == 0) = false := beq_eq_false_iff_ne.2 hkb
        have f2 : decide (kb = 0) = false := decide_eq_false hkb
        clear hkb
        go_wp2_with fail
        go_meet
        case rel => exact ⟨rfl, Lib.hid (Below.refl _ _)⟩
    · have f1 : (ka == 0) = false := beq_eq_false_iff_ne.2 hka
      have f2 : decide (ka = 0) = false := decide_eq_false hka
      clear hka
      go_wp2_with fail
      go_meet
      case rel => exact ⟨rfl, Lib.hid (Below.refl _ _)⟩
  case rest => as_aux_lemma =>
    obtain ⟨rfl, hb⟩ := hcut
    clear Vb Zb Vd Zd
    have bq := hb.out
    clear hb
    replace HT := Lib.hid (HT.out.below bq)
    replace Zx := Lib.hid (Zx.out.below bq)
    replace Vx := Lib.hid (Vx.out.below bq)
    replace Zy := Lib.hid (Zy.out.below bq)
    replace Vy := Lib.hid (Vy.out.below bq)
    replace Zz := Lib.hid (Zz.out.below bq)
    replace Vz := Lib.hid (Vz.out.below bq)
    replace Va := Lib.hid (Va.out.below bq)
    replace Za := Lib.hid (Za.out.below bq)
    replace Vc := Lib.hid (Vc.out.below bq)
    replace Zc := Lib.hid (Zc.out.below bq)
    replace BM := Lib.hid (below_step BM.out BM.out.size bq)
    clear bq
    go_upto_region 7 with (fail)
    obtain ⟨x1, y1, z1, f11, f12, f13⟩ := Zx.out.cells
    obtain ⟨x2, y2, z2, f21, f22, f23⟩ := Zy.out.cells
    go_wp2_with fail
    refine (vMul Lx Ly qx qy _ _ _ Vx.out Vy.out HT.out).mono ?_
    rintro e wf ⟨pf, Pf, mf, df, Pf', mf', df', kf, tf, rfl, hvf, Ff, bw⟩
    have bq := below_step bw bw.size (below_alloc wf (.cells #[.bool pf, .slice Pf mf df, .slice Pf' mf' df'] 24))
    have Vf := Lib.hid (hvf.out.below (below_alloc wf (.cells #[.bool pf, .slice Pf mf df, .slice Pf' mf' df'] 24)))
    have Zf := Lib.hid (Box.new wf (.bool pf) (.slice Pf mf df) (.slice Pf' mf' df') 24)
    replace HT := Lib.hid (HT.out.below bq)
    replace Zx := Lib.hid (Zx.out.below bq)
    replace Vx := Lib.hid (Vx.out.below bq)
    replace Zy := Lib.hid (Zy.out.below bq)
    replace Vy := Lib.hid (Vy.out.below bq)
    replace Zz := Lib.hid (Zz.out.below bq)
    replace Vz := Lib.hid (Vz.out.below bq)
    replace Va := Lib.hid (Va.out.below bq)
    replace Za := Lib.hid (Za.out.below bq)
    replace Vc := Lib.hid (Vc.out.below bq)
    replace Zc := Lib.hid (Zc.out.below bq)
    replace BM := Lib.hid (below_step BM.out BM.out.size bq)
    obtain ⟨wv, hv⟩ : ∃ v, wf.alloc (.cells #[.bool pf, .slice Pf mf df, .slice Pf' mf' df'] 24) = v := ⟨_, rfl⟩
    clear bq bw hvf x1 y1 z1 x2 y2 z2 f11 f12 f13 f21 f22 f23
    go_upto_region 8 with (fail)
    rw [hv] at BM HT Zx Vx Zy Vy Zz Vz Va Za Vc Zc Vf Zf
    try rw [hv]
    clear hv
    obtain ⟨x1, y1, z1, f11, f12, f13⟩ := Zf.out.cells
    obtain ⟨x2, y2, z2, f21, f22, f23⟩ := Zz.out.cells
    go_wp2_with fail
    refine (vMul false Lz tf qz _ _ _ Vf.out Vz.out HT.out).mono ?_
    rintro e wg ⟨pg, Pg, mg, dg, Pg', mg', dg', kg, tg, rfl, hvg, Fg, bw⟩
    have bq := below_step bw bw.size (below_alloc wg (.cells #[.bool pg, .slice Pg mg dg, .slice Pg' mg' dg'] 24))
    have Vg := Lib.hid (hvg.out.below (below_alloc wg (.cells #[.bool pg, .slice Pg mg dg, .slice Pg' mg' dg'] 24)))
    have Zg := Lib.hid (Box.new wg (.bool pg) (.slice Pg mg dg) (.slice Pg' mg' dg') 24)
    replace HT := Lib.hid (HT.out.below bq)
    replace Zx := Lib.hid (Zx.out.below bq)
    replace Vx := Lib.hid (Vx.out.below bq)
    replace Zy := Lib.hid (Zy.out.below bq)
    replace Vy := Lib.hid (Vy.out.below bq)
    replace Zz := Lib.hid (Zz.out.below bq)
    replace Vz := Lib.hid (Vz.out.below bq)
    replace Va := Lib.hid (Va.out.below bq)
    replace Za := Lib.hid (Za.out.below bq)
    replace Vc := Lib.hid (Vc.out.below bq)
    replace Zc := Lib.hid (Zc.out.below bq)
    replace Vf := Lib.hid (Vf.out.below bq)
    replace Zf := Lib.hid (Zf.out.below bq)
    replace BM := Lib.hid (below_step BM.out BM.out.size bq)
    obtain ⟨wv, hv⟩ : ∃ v, wg.alloc (.cells #[.bool pg, .slice Pg mg dg, .slice Pg' mg' dg'] 24) = v := ⟨_, rfl⟩
    clear bq bw hvg x1 y1 z1 x2 y2 z2 f11 f12 f13 f21 f22 f23
    go_upto_region 9 with (fail)
    rw [hv] at BM HT Zx Vx Zy Vy Zz Vz Va Za Vc Zc Vf Zf Vg Zg
    try rw [hv]
    clear hv
    obtain ⟨x1, y1, z1, f11, f12, f13⟩ := Zz.out.cells
    obtain ⟨x2, y2, z2, f21, f22, f23⟩ := Zy.out.cells
    go_wp2_with fail
    refine (vMul Lz Ly qz qy _ _ _ Vz.out Vy.out HT.out).mono ?_
    rintro e wh ⟨ph, Ph, mh, dh, Ph', mh', dh', kh, th, rfl, hvh, Fh, bw⟩
    have bq := below_step bw bw.size (below_alloc wh (.cells #[.bool ph, .slice Ph mh dh, .slice Ph' mh' dh'] 24))
    have Vh := Lib.hid (hvh.out.below (below_alloc wh (.cells #[.bool ph, .slice Ph mh dh, .slice Ph' mh' dh'] 24)))
    have Zh := Lib.hid (Box.new wh (.bool ph) (.slice Ph mh dh) (.slice Ph' mh' dh') 24)
    replace HT := Lib.hid (HT.out.below bq)
    replace Zx := Lib.hid (Zx.out.below bq)
    replace Vx := Lib.hid (Vx.out.below bq)
    replace Zy := Lib.hid (Zy.out.below bq)
    replace Vy := Lib.hid (Vy.out.below bq)
    replace Zz := Lib.hid (Zz.out.below bq)
    replace Vz := Lib.hid (Vz.out.below bq)
    replace Va := Lib.hid (Va.out.below bq)
    replace Za := Lib.hid (Za.out.below bq)
    replace Vc := Lib.hid (Vc.out.below bq)
    replace Zc := Lib.hid (Zc.out.below bq)
    replace Vf := Lib.hid (Vf.out.below bq)
    replace Zf := Lib.hid (Zf.out.below bq)
    replace Vg := Lib.hid (Vg.out.below bq)
    replace Zg := Lib.hid (Zg.out.below bq)
    replace BM := Lib.hid (below_step BM.out BM.out.size bq)
    obtain ⟨wv, hv⟩ : ∃ v, wh.alloc (.cells #[.bool ph, .slice Ph mh dh, .slice Ph' mh' dh'] 24) = v := ⟨_, rfl⟩
    clear bq bw hvh x1 y1 z1 x2 y2 z2 f11 f12 f13 f21 f22 f23
    go_upto_region 10 with (fail)
    rw [hv] at BM HT Zx Vx Zy Vy Zz Vz Va Za Vc Zc Vf Zf Vg Zg Vh Zh
    try rw [hv]
    clear hv
    obtain ⟨x1, y1, z1, f11, f12, f13⟩ := Zh.out.cells
    obtain ⟨x2, y2, z2, f21, f22, f23⟩ := Zx.out.cells
    go_wp2_with fail
    refine (vMul false Lx th qx _ _ _ Vh.out Vx.out HT.out).mono ?_
    rintro e wi ⟨pi, Pi, mi, di, Pi', mi', di', ki, ti, rfl, hvi, Fi, bw⟩
    have bq := below_step bw bw.size (below_alloc wi (.cells #[.bool pi, .slice Pi mi di, .slice Pi' mi' di'] 24))
    have Vi := Lib.hid (hvi.out.below (below_alloc wi (.cells #[.bool pi, .slice Pi mi di, .slice Pi' mi' di'] 24)))
    have Zi := Lib.hid (Box.new wi (.bool pi) (.slice Pi mi di) (.slice Pi' mi' di') 24)
    replace HT := Lib.hid (HT.out.below bq)
    replace Zx := Lib.hid (Zx.out.below bq)
    replace Vx := Lib.hid (Vx.out.below bq)
    replace Zy := Lib.hid (Zy.out.below bq)
    replace Vy := Lib.hid (Vy.out.below bq)
    replace Zz := Lib.hid (Zz.out.below bq)
    replace Vz := Lib.hid (Vz.out.below bq)
    replace Va := Lib.hid (Va.out.below bq)
    replace Za := Lib.hid (Za.out.below bq)
    replace Vc := Lib.hid (Vc.out.below bq)
    replace Zc := Lib.hid (Zc.out.below bq)
    replace Vf := Lib.hid (Vf.out.below bq)
    replace Zf := Lib.hid (Zf.out.below bq)
    replace Vg := Lib.hid (Vg.out.below bq)
    replace Zg := Lib.hid (Zg.out.below bq)
    replace Vh := Lib.hid (Vh.out.below bq)
    replace Zh := Lib.hid (Zh.out.below bq)
    replace BM := Lib.hid (below_step BM.out BM.out.size bq)
    obtain ⟨wv, hv⟩ : ∃ v, wi.alloc (.cells #[.bool pi, .slice Pi mi di, .slice Pi' mi' di'] 24) = v := ⟨_, rfl⟩
    clear bq bw hvi x1 y1 z1 x2 y2 z2 f11 f12 f13 f21 f22 f23
    go_upto_region 11 with (fail)
    rw [hv] at BM HT Zx Vx Zy Vy Zz Vz Va Za Vc Zc Vf Zf Vg Zg Vh Zh Vi Zi
    try rw [hv]
    clear hv
    go_cut [120] (fun vs wc => vs = .bool false ∧ Hid (Below wv.heap.size wv wc))
    case first =>
      by_cases hkf : kf = 0
      · subst hkf
        by_cases hkg : kg = 0
        · subst hkg
          by_cases hkh : kh = 0
          · subst hkh
            by_cases hki : ki = 0
            · subst hki
              have eq : tg = ti := by
                exact fld2 (Ff.out rfl) (Fg.out rfl) (Fh.out rfl) (Fi.out rfl)
              obtain ⟨x1, y1, z1, f11, f12, f13⟩ := Zg.out.cells
              obtain ⟨x2, y2, z2, f21, f22, f23⟩ := Zi.out.cells
              have EQ := Lib.hid eq
              clear eq
              go_wp2_with fail
              refine (vEqual false false tg ti _ _ _ Vg.out Vi.out EQ.out).mono ?_
              rintro e we ⟨rfl, be⟩
              have BE := Lib.hid be
              clear be
              go_wp2_with fail
              go_meet
              case rel => exact ⟨rfl, BE⟩
            · have f1 : (ki == 0) = false := beq_eq_false_iff_ne.2 hki
              have f2 : decide (ki = 0) = false := decide_eq_false hki
              clear hki
              go_wp2_with fail
              go_meet
              case rel => exact ⟨rfl, Lib.hid (Below.refl _ _)⟩
          · have f1 : (kh == 0) = false := beq_eq_false_iff_ne.2 hkh
            have f2 : decide (kh = 0) = false := decide_eq_false hkh
            clear hkh
            go_wp2_with fail
            go_meet
            case rel => exact ⟨rfl, Lib.hid (Below.refl _ _)⟩
        · have f1 : (kg == 0) = false := beq_eq_false_iff_ne.2 hkg
          have f2 : decide (kg = 0) = false := decide_eq_false hkg
          clear hkg
          go_wp2_with fail
          go_meet
          case rel => exact ⟨rfl, Lib.hid (Below.refl _ _)⟩
      · have f1 : (kf == 0) = false := beq_eq_false_iff_ne.2 hkf
        have f2 : decide (kf = 0) = false := decide_eq_false hkf
        clear hkf
        go_wp2_with fail
        go_meet
        case rel => exact ⟨rfl, Lib.hid (Below.refl _ _)⟩
    case rest => as_aux_lemma =>
      obtain ⟨rfl, hb⟩ := hcut
      clear Vg Zg Vh Zh Vi Zi
      have bq := hb.out
      clear hb
      replace HT := Lib.hid (HT.out.below bq)
      replace Zx := Lib.hid (Zx.out.below bq)
      replace Vx := Lib.hid (Vx.out.below bq)
      replace Zy := Lib.hid (Zy.out.below bq)
      replace Vy := Lib.hid (Vy.out.below bq)
      replace Zz := Lib.hid (Zz.out.below bq)
      replace Vz := Lib.hid (Vz.out.below bq)
      replace Va := Lib.hid (Va.out.below bq)
      replace Za := Lib.hid (Za.out.below bq)
      replace Vc := Lib.hid (Vc.out.below bq)
      replace Zc := Lib.hid (Zc.out.below bq)
      replace Vf := Lib.hid (Vf.out.below bq)
      replace Zf := Lib.hid (Zf.out.below bq)
      replace BM := Lib.hid (below_step BM.out BM.out.size bq)
      clear bq
      go_upto_region 13 with (fail)
      obtain ⟨x1, y1, z1, f11, f12, f13⟩ := Zx.out.cells
      obtain ⟨x2, y2, z2, f21, f22, f23⟩ := Zc.out.cells
      go_wp2_with fail
      refine (vMul Lx false qx tc _ _ _ Vx.out Vc.out HT.out).mono ?_
      rintro e wj ⟨pj, Pj, mj, dj, Pj', mj', dj', kj, tj, rfl, hvj, Fj, bw⟩
      have bq := below_step bw bw.size (below_alloc wj (.cells #[.bool pj, .slice Pj mj dj, .slice Pj' mj' dj'] 24))
      have Vj := Lib.hid (hvj.out.below (below_alloc wj (.cells #[.bool pj, .slice Pj mj dj, .slice Pj' mj' dj'] 24)))
      have Zj := Lib.hid (Box.new wj (.bool pj) (.slice Pj mj dj) (.slice Pj' mj' dj') 24)
      replace HT := Lib.hid (HT.out.below bq)
      replace Zx := Lib.hid (Zx.out.below bq)
      replace Vx := Lib.hid (Vx.out.below bq)
      replace Zy := Lib.hid (Zy.out.below bq)
      replace Vy := Lib.hid (Vy.out.below bq)
      replace Zz := Lib.hid (Zz.out.below bq)
      replace Vz := Lib.hid (Vz.out.below bq)
      replace Va := Lib.hid (Va.out.below bq)
      replace Za := Lib.hid (Za.out.below bq)
      replace Vc := Lib.hid (Vc.out.below bq)
      replace Zc := Lib.hid (Zc.out.below bq)
      replace Vf := Lib.hid (Vf.out.below bq)
      replace Zf := Lib.hid (Zf.out.below bq)
      replace BM := Lib.hid (below_step BM.out BM.out.size bq)
      obtain ⟨wv, hv⟩ : ∃ v, wj.alloc (.cells #[.bool pj, .slice Pj mj dj, .slice Pj' mj' dj'] 24) = v := ⟨_, rfl⟩
      clear bq bw hvj x1 y1 z1 x2 y2 z2 f11 f12 f13 f21 f22 f23
      go_upto_region 14 with (fail)
      rw [hv] at BM HT Zx Vx Zy Vy Zz Vz Va Za Vc Zc Vf Zf Vj Zj
      try rw [hv]
      clear hv
      obtain ⟨x1, y1, z1, f11, f12, f13⟩ := Zx.out.cells
      obtain ⟨x2, y2, z2, f21, f22, f23⟩ := Zz.out.cells
      go_wp2_with fail
      refine (vMul Lx Lz qx qz _ _ _ Vx.out Vz.out HT.out).mono ?_
      rintro e wk ⟨pk, Pk, mk, dk, Pk', mk', dk', kk, tk, rfl, hvk, Fk, bw⟩
      have bq := below_step bw bw.size (below_alloc wk (.cells #[.bool pk, .slice Pk mk dk, .slice Pk' mk' dk'] 24))
      have Vk := Lib.hid (hvk.out.below (below_alloc wk (.cells #[.bool pk, .slice Pk mk dk, .slice Pk' mk' dk'] 24)))
      have Zk := Lib.hid (Box.new wk (.bool pk) (.slice Pk mk dk) (.slice Pk' mk' dk') 24)
      replace HT := Lib.hid (HT.out.below bq)
      replace Zx := Lib.hid (Zx.out.below bq)
      replace Vx := Lib.hid (Vx.out.below bq)
      replace Zy := Lib.hid (Zy.out.below bq)
      replace Vy := Lib.hid (Vy.out.below bq)
      replace Zz := Lib.hid (Zz.out.below bq)
      replace Vz := Lib.hid (Vz.out.below bq)
      replace Va := Lib.hid (Va.out.below bq)
      replace Za := Lib.hid (Za.out.below bq)
      replace Vc := Lib.hid (Vc.out.below bq)
      replace Zc := Lib.hid (Zc.out.below bq)
      replace Vf := Lib.hid (Vf.out.below bq)
      replace Zf := Lib.hid (Zf.out.below bq)
      replace Vj := Lib.hid (Vj.out.below bq)
      replace Zj := Lib.hid (Zj.out.below bq)
      replace BM := Lib.hid (below_step BM.out BM.out.size bq)
      obtain ⟨wv, hv⟩ : ∃ v, wk.alloc (.cells #[.bool pk, .slice Pk mk dk, .slice Pk' mk' dk'] 24) = v := ⟨_, rfl⟩
      clear bq bw hvk x1 y1 z1 x2 y2 z2 f11 f12 f13 f21 f22 f23
      go_upto_region 15 with (fail)
      rw [hv] at BM HT Zx Vx Zy Vy Zz Vz Va Za Vc Zc Vf Zf Vj Zj Vk Zk
      try rw [hv]
      clear hv
      obtain ⟨x1, y1, z1, f11, f12, f13⟩ := Zf.out.cells
      obtain ⟨x2, y2, z2, f21, f22, f23⟩ := Zk.out.cells
      go_wp2_with fail
      refine (vAdd false false tf tk _ _ _ Vf.out Vk.out HT.out).mono ?_
      rintro e wl ⟨pl, Pl, ml, dl, Pl', ml', dl', kl, tl, rfl, hvl, Fl, bw⟩
      have bq := below_step bw bw.size (below_alloc wl (.cells #[.bool pl, .slice Pl ml dl, .slice Pl' ml' dl'] 24))
      have Vl := Lib.hid (hvl.out.below (below_alloc wl (.cells #[.bool pl, .slice Pl ml dl, .slice Pl' ml' dl'] 24)))
      have Zl := Lib.hid (Box.new wl (.bool pl) (.slice Pl ml dl) (.slice Pl' ml' dl') 24)
      replace HT := Lib.hid (HT.out.below bq)
      replace Zx := Lib.hid (Zx.out.below bq)
      replace Vx := Lib.hid (Vx.out.below bq)
      replace Zy := Lib.hid (Zy.out.below bq)
      replace Vy := Lib.hid (Vy.out.below bq)
      replace Zz := Lib.hid (Zz.out.below bq)
      replace Vz := Lib.hid (Vz.out.below bq)
      replace Va := Lib.hid (Va.out.below bq)
      replace Za := Lib.hid (Za.out.below bq)
      replace Vc := Lib.hid (Vc.out.below bq)
      replace Zc := Lib.hid (Zc.out.below bq)
      replace Vf := Lib.hid (Vf.out.below bq)
      replace Zf := Lib.hid (Zf.out.below bq)
      replace Vj := Lib.hid (Vj.out.below bq)
      replace Zj := Lib.hid (Zj.out.below bq)
      replace Vk := Lib.hid (Vk.out.below bq)
      replace Zk := Lib.hid (Zk.out.below bq)
      replace BM := Lib.hid (below_step BM.out BM.out.size bq)
      obtain ⟨wv, hv⟩ : ∃ v, wl.alloc (.cells #[.bool pl, .slice Pl ml dl, .slice Pl' ml' dl'] 24) = v := ⟨_, rfl⟩
      clear bq bw hvl x1 y1 z1 x2 y2 z2 f11 f12 f13 f21 f22 f23
      go_upto_region 16 with (fail)
      rw [hv] at BM HT Zx Vx Zy Vy Zz Vz Va Za Vc Zc Vf Zf Vj Zj Vk Zk Vl Zl
      try rw [hv]
      clear hv
      go_cut [162] (fun vs wc => vs = .bool false ∧ Hid (Below wv.heap.size wv wc))
      case first =>
        by_cases hkc : kc = 0
        · subst hkc
          by_cases hkf : kf = 0
          · subst hkf
            by_cases hkj : kj = 0
            · subst hkj
              by_cases hkk : kk = 0
              · subst hkk
                by_cases hkl : kl = 0
                · subst hkl
                  have eq : tj = tl := by
                    exact fld3 (Fc.out rfl) (Ff.out rfl) (Fj.out rfl) (Fk.out rfl) (Fl.out rfl)
                  obtain ⟨x1, y1, z1, f11, f12, f13⟩ := Zj.out.cells
                  obtain ⟨x2, y2, z2, f21, f22, f23⟩ := Zl.out.cells
                  have EQ := Lib.hid eq
                  clear eq
                  go_wp2_with fail
                  refine (vEqual false false tj tl _ _ _ Vj.out Vl.out EQ.out).mono ?_
                  rintro e we ⟨rfl, be⟩
                  have BE := Lib.hid be
                  clear be
                  go_wp2_with fail
                  go_meet
                  case rel => exact ⟨rfl, BE⟩
                · have f1 : (kl == 0) = false := beq_eq_false_iff_ne.2 hkl
                  have f2 : decide (kl = 0) = false := decide_eq_false hkl
                  clear hkl
                  go_wp2_with fail
                  go_meet
                  case rel => exact ⟨rfl, Lib.hid (Below.refl _ _)⟩
              · have f1 : (kk == 0) = false := beq_eq_false_iff_ne.2 hkk
                have f2 : decide (kk = 0) = false := decide_eq_false hkk
                clear hkk
                go_wp2_with fail
                go_meet
                case rel => exact ⟨rfl, Lib.hid (Below.refl _ _)⟩
            · have f1 : (kj == 0) = false := beq_eq_false_iff_ne.2 hkj
              have f2 : decide (kj = 0) = false := decide_eq_false hkj
              clear hkj
              go_wp2_with fail
              go_meet
              case rel => exact ⟨rfl, Lib.hid (Below.refl _ _)⟩
          · have f1 : (kf == 0) = false := beq_eq_false_iff_ne.2 hkf
            have f2 : decide (kf = 0) = false := decide_eq_false hkf
            clear hkf
            go_wp2_with fail
            go_meet
            case rel => exact ⟨rfl, Lib.hid (Below.refl _ _)⟩
        · have f1 : (kc == 0) = false := beq_eq_false_iff_ne.2 hkc
          have f2 : decide (kc = 0) = false := decide_eq_false hkc
          clear hkc
          go_wp2_with fail
          go_meet
          case rel => exact ⟨rfl, Lib.hid (Below.refl _ _)⟩
      case rest => as_aux_lemma =>
        obtain ⟨rfl, hb⟩ := hcut
        clear Vc Zc Vj Zj Vk Zk Vl Zl Vz Zz
        have bq := hb.out
        clear hb
        replace HT := Lib.hid (HT.out.below bq)
        replace Zx := Lib.hid (Zx.out.below bq)
        replace Vx := Lib.hid (Vx.out.below bq)
        replace Zy := Lib.hid (Zy.out.below bq)
        replace Vy := Lib.hid (Vy.out.below bq)
        replace Va := Lib.hid (Va.out.below bq)
        replace Za := Lib.hid (Za.out.below bq)
        replace Vf := Lib.hid (Vf.out.below bq)
        replace Zf := Lib.hid (Zf.out.below bq)
        replace BM := Lib.hid (below_step BM.out BM.out.size bq)
        clear bq
        go_upto_region 18 with (fail)
        obtain ⟨x1, y1, z1, f11, f12, f13⟩ := Za.out.cells
        obtain ⟨x2, y2, z2, f21, f22, f23⟩ := Zy.out.cells
        go_wp2_with fail
        refine (vSub false Ly ta qy _ _ _ Va.out Vy.out HT.out).mono ?_
        rintro e wm ⟨pm, Pm, mm, dm, Pm', mm', dm', km, tm, rfl, hvm, Fm, bw⟩
        have bq := below_step bw bw.size (below_alloc wm (.cells #[.bool pm, .slice Pm mm dm, .slice Pm' mm' dm'] 24))
        have Vm := Lib.hid (hvm.out.below (below_alloc wm (.cells #[.bool pm, .slice Pm mm dm, .slice Pm' mm' dm'] 24)))
        have Zm := Lib.hid (Box.new wm (.bool pm) (.slice Pm mm dm) (.slice Pm' mm' dm') 24)
        replace HT := Lib.hid (HT.out.below bq)
        replace Zx := Lib.hid (Zx.out.below bq)
        replace Vx := Lib.hid (Vx.out.below bq)
        replace Zy := Lib.hid (Zy.out.below bq)
        replace Vy := Lib.hid (Vy.out.below bq)
        replace Va := Lib.hid (Va.out.below bq)
        replace Za := Lib.hid (Za.out.below bq)
        replace Vf := Lib.hid (Vf.out.below bq)
        replace Zf := Lib.hid (Zf.out.below bq)
        replace BM := Lib.hid (below_step BM.out BM.out.size bq)
        obtain ⟨wv, hv⟩ : ∃ v, wm.alloc (.cells #[.bool pm, .slice Pm mm dm, .slice Pm' mm' dm'] 24) = v := ⟨_, rfl⟩
        clear bq bw hvm x1 y1 z1 x2 y2 z2 f11 f12 f13 f21 f22 f23
        go_upto_region 19 with (fail)
        rw [hv] at BM HT Zx Vx Zy Vy Va Za Vf Zf Vm Zm
        try rw [hv]
        clear hv
        go_cut [180] (fun vs wc => vs = .bool false ∧ Hid (Below wv.heap.size wv wc))
        case first =>
          by_cases hka : ka = 0
          · subst hka
            by_cases hkm : km = 0
            · subst hkm
              have eq : tm = qx := by
                exact fld4 (Fa.out rfl) (Fm.out rfl)
              obtain ⟨x1, y1, z1, f11, f12, f13⟩ := Zm.out.cells
              obtain ⟨x2, y2, z2, f21, f22, f23⟩ := Zx.out.cells
              have EQ := Lib.hid eq
              clear eq
              go_wp2_with fail
              refine (vEqual false Lx tm qx _ _ _ Vm.out Vx.out EQ.out).mono ?_
              rintro e we ⟨rfl, be⟩
              have BE := Lib.hid be
              clear be
              go_wp2_with fail
              go_meet
              case rel => exact ⟨rfl, BE⟩
            · have f1 : (km == 0) = false := beq_eq_false_iff_ne.2 hkm
              have f2 : decide (km = 0) = false := decide_eq_false hkm
              clear hkm
              go_wp2_with fail
              go_meet
              case rel => exact ⟨rfl, Lib.hid (Below.refl _ _)⟩
          · have f1 : (ka == 0) = false := beq_eq_false_iff_ne.2 hka
            have f2 : decide (ka = 0) = false := decide_eq_false hka
            clear hka
            go_wp2_with fail
            go_meet
            case rel => exact ⟨rfl, Lib.hid (Below.refl _ _)⟩
        case rest => as_aux_lemma =>
          obtain ⟨rfl, hb⟩ := hcut
          clear Va Za Vm Zm
          have bq := hb.out
          clear hb
          replace HT := Lib.hid (HT.out.below bq)
          replace Zx := Lib.hid (Zx.out.below bq)
          replace Vx := Lib.hid (Vx.out.below bq)
          replace Zy := Lib.hid (Zy.out.below bq)
          replace Vy := Lib.hid (Vy.out.below bq)
          replace Vf := Lib.hid (Vf.out.below bq)
          replace Zf := Lib.hid (Zf.out.below bq)
          replace BM := Lib.hid (below_step BM.out BM.out.size bq)
          clear bq
          go_upto_region 21 with (fail)
          obtain ⟨x1, y1, z1, f11, f12, f13⟩ := Zf.out.cells
          obtain ⟨x2, y2, z2, f21, f22, f23⟩ := Zy.out.cells
          go_wp2_with fail
          refine (vDiv false Ly tf qy _ _ _ Vf.out Vy.out HT.out).mono ?_
          rintro e wn ⟨pn, Pn, mn, dn, Pn', mn', dn', kn, tn, rfl, hvn, Fn, bw⟩
          have bq := below_step bw bw.size (below_alloc wn (.cells #[.bool pn, .slice Pn mn dn, .slice Pn' mn' dn'] 24))
          have Vn := Lib.hid (hvn.out.below (below_alloc wn (.cells #[.bool pn, .slice Pn mn dn, .slice Pn' mn' dn'] 24)))
          have Zn := Lib.hid (Box.new wn (.bool pn) (.slice Pn mn dn) (.slice Pn' mn' dn') 24)
          replace HT := Lib.hid (HT.out.below bq)
          replace Zx := Lib.hid (Zx.out.below bq)
          replace Vx := Lib.hid (Vx.out.below bq)
          replace Zy := Lib.hid (Zy.out.below bq)
          replace Vy := Lib.hid (Vy.out.below bq)
          replace Vf := Lib.hid (Vf.out.below bq)
          replace Zf := Lib.hid (Zf.out.below bq)
          replace BM := Lib.hid (below_step BM.out BM.out.size bq)
          obtain ⟨wv, hv⟩ : ∃ v, wn.alloc (.cells #[.bool pn, .slice Pn mn dn, .slice Pn' mn' dn'] 24) = v := ⟨_, rfl⟩
          clear bq bw hvn x1 y1 z1 x2 y2 z2 f11 f12 f13 f21 f22 f23
          go_upto_region 22 with (fail)
          rw [hv] at BM HT Zx Vx Zy Vy Vf Zf Vn Zn
          try rw [hv]
          clear hv
          by_cases hkf : kf = 0
          · subst hkf
            by_cases hkn : kn = 0
            · subst hkn
              have EQ := Lib.hid (show tn = qx from fld5 (Ff.out rfl) (Fn.out rfl))
              obtain ⟨x1, y1, z1, f11, f12, f13⟩ := Zn.out.cells
              obtain ⟨x2, y2, z2, f21, f22, f23⟩ := Zx.out.cells
              go_wp2_with fail
              refine (vEqual false Lx tn qx _ _ _ Vn.out Vx.out EQ.out).mono ?_
              rintro e we ⟨rfl, be⟩
              replace HT := Lib.hid (HT.out.below be)
              replace BM := Lib.hid (below_step BM.out BM.out.size be)
              clear be x1 y1 z1 x2 y2 z2 f11 f12 f13 f21 f22 f23
              go_wp2_with fail
              refine (lAwake _ HT.out).mono ?_
              rintro e w9 ⟨rfl, b9⟩
              replace BM := Lib.hid (below_step BM.out BM.out.size b9)
              clear b9
              go_wp2
              go_ret
              exact ⟨rfl, BM.out⟩
            · have f1 : (kn == 0) = false := beq_eq_false_iff_ne.2 hkn
              have f2 : decide (kn = 0) = false := decide_eq_false hkn
              have f3 : (kn != 0) = true := by simp [bne, f1]
              clear hkn
              go_wp2_with fail
              refine (lAwake _ HT.out).mono ?_
              rintro e w9 ⟨rfl, b9⟩
              replace BM := Lib.hid (below_step BM.out BM.out.size b9)
              clear b9
              go_wp2
              go_ret
              exact ⟨rfl, BM.out⟩
          · have f1 : (kf == 0) = false := beq_eq_false_iff_ne.2 hkf
            have f2 : decide (kf = 0) = false := decide_eq_false hkf
            have f3 : (kf != 0) = true := by simp [bne, f1]
            clear hkf
            go_wp2_with fail
            refine (lAwake _ HT.out).mono ?_
            rintro e w9 ⟨rfl, b9⟩
            replace BM := Lib.hid (below_step BM.out BM.out.size b9)
            clear b9
            go_wp2
            go_ret
            exact ⟨rfl, BM.out⟩
end Go.Proofs.YtfmhplcpejmkhaaDoor

namespace Go.Proofs.YtfmhplcpejmkhaaDoor
open Go.ChangeShapes Go.WideShapes Go.ChangeAt Go.RowKit Dig
set_option linter.unusedVariables false
set_option linter.unusedSimpArgs false
theorem own : ownKnob Tryd.prog.godebug = none := by kernel_rfl
theorem gTab : Tryd.prog.globalNamed "math/bits.deBruijn32tab" = some 0 := by kernel_rfl
theorem gTabType : (Tryd.prog.globals[0]?).map (·.type) = some 116 := by kernel_rfl
theorem cellsTab : Tryd.prog.cellsOf 116 = 32 := by kernel_rfl
theorem cellsU8 : Tryd.prog.cellsOf 5 = 1 := by kernel_rfl
theorem cellsU32 : Tryd.prog.cellsOf 68 = 1 := by kernel_rfl
theorem cellsRat : Tryd.prog.cellsOf 24 = 3 := by kernel_rfl
theorem laidOut : laidOutB Tryd.prog = true := by kernel_rfl
theorem tab_of {W : World} (h : laidMetH Tryd.prog [("math/bits.deBruijn32tab", Rows.laid_math_bits_deBruijn32tab)] W) : Tab W := by
  have t : Lib.TabIs Tryd.prog W "math/bits.deBruijn32tab" .u8 (Lib.deBruijn32tab.map Int.ofNat) :=
    Lib.tabIs_of_head (rest := []) gTab gTabType Tryd.underlying116 Tryd.underlying5 cellsU8 cellsTab h
  intro j hj
  have hc := t.cell gTab j (by simpa using hj)
  rw [hc]
  congr 2
  simp [List.getD, hj]
set_option maxRecDepth 100000 in
/-- a slice of words that comes in -/
theorem open_rd {H : Type} {enc : TypeId × Value → H} {W : World} {n : Nat} {v : Value} {y : DataW H × List MemPlace} (h : DataW.trod enc Tryd.prog W 0 (fun _ => true) true n 22 [v] = some y) :
    ∃ A c l, v = .slice A l.length c ∧ Rd W A c l ∧ Ok B32 l ∧ l.length < Rows.uptoBulk y.1 := by
  rcases open_ints Tryd.underlying22 Tryd.underlying68 cellsU32 h with ⟨e, rfl⟩ | ⟨a, len, cap, zs, e, _, hl, hm, hz, rfl, hc, hw⟩
  · obtain rfl : v = .slice none 0 0 := by simpa using e
    exact ⟨none, 0, [], rfl, ⟨Nat.le_refl _, Nat.zero_le _, fun j hj => absurd hj (Nat.not_lt_zero _)⟩, (fun x (hx : x ∈ []) => by simp at hx), by simp [Rows.uptoBulk]⟩
  · obtain rfl : v = .slice (some a) len cap := by simpa using e
    rw [if_pos rfl] at hz
    refine ⟨some a, cap, zs.take len, by simp [hz, Nat.min_eq_left hl], ⟨by simp [hz]; omega, by unfold maxLen at hm; omega, ?_⟩, ?_, ?_⟩
    · intro j hj
      have hj' : j < len := by simp [hz] at hj; omega
      refine ⟨a, rfl, ?_⟩
      rw [hc j (by omega)]
      have : j < zs.length := by omega
      simp [rd, List.getD, hj', List.getElem?_take]
    · intro x hx
      have := hw x (List.mem_of_mem_take hx)
      simp only [Lit.wf, Bool.and_eq_true, decide_eq_true_eq] at this
      have e1 : IntKind.min .u32 = 0 := by decide
      have e2 : IntKind.max .u32 = 4294967295 := by decide
      rw [e1, e2] at this
      unfold B32
      omega
    · have : ∀ l : List (DataW H), l.length ≤ Rows.uptoBulkAll l := by
        intro l
        induction l with
        | nil => simp [Rows.uptoBulkAll]
        | cons x r ih =>
          have h1 : 1 ≤ Rows.uptoBulk x := by
            cases x with
            | lit l => cases l <;> simp [Rows.uptoBulk]
            | _ => simp [Rows.uptoBulk]
          simp only [Rows.uptoBulkAll, List.length_cons]
          omega
      have h2 := this (lits (H := H) .u32 (zs.take len))
      have h3 : (lits (H := H) .u32 (zs.take len)).length = (zs.take len).length := by simp [lits]
      simp only [Rows.uptoBulk]
      omega
theorem fin_agg3 {H : Type} (a b c : DataW H) : Rows.uptoBulk b < Rows.uptoBulk (.agg [a, b, c]) ∧ Rows.uptoBulk c < Rows.uptoBulk (.agg [a, b, c]) := by
  have h1 : ∀ x : DataW H, 1 ≤ Rows.uptoBulk x := by
    intro x
    cases x with
    | lit l => cases l <;> simp [Rows.uptoBulk]
    | _ => simp [Rows.uptoBulk]
  have ha := h1 a
  have hb := h1 b
  have hc := h1 c
  simp only [Rows.uptoBulk, Rows.uptoBulkAll]
  omega
set_option maxRecDepth 100000 in
/-- a number that comes in, whatever its length -/
theorem open_rat {H : Type} {enc : TypeId × Value → H} {W : World} {b0 : Nat} {v : Value} {d : DataW H} {p : List MemPlace} (hv : Value.okWide Tryd.prog W .any b0 24 v) (h : DataW.Trod enc Tryd.prog W 0 (fun _ => true) true 24 v d p) :
    ∃ s A1 c1 l1 A2 c2 l2, v = .agg #[.bool s, .slice A1 l1.length c1, .slice A2 l2.length c2] ∧ Rd W A1 c1 l1 ∧ Rd W A2 c2 l2 ∧ Ok B32 l1 ∧ Ok B32 l2 ∧ l1.length + 1 < Rows.uptoBulk d ∧ l2.length + 1 < Rows.uptoBulk d := by
  obtain ⟨v0, v1, v2, y0, y1, y2, n, rfl, rfl, rfl, h0, h1, h2⟩ := Joins.open_agg3 Tryd.underlying24 (by kernel_rfl) cellsRat hv h
  obtain ⟨A1, c1, l1, rfl, r1, o1, k1⟩ := open_rd h1
  obtain ⟨A2, c2, l2, rfl, r2, o2, k2⟩ := open_rd h2
  have hb : ∃ s, v0 = .bool s := by
    obtain ⟨s, h', _⟩ := DataW.trod_bool Tryd.underlying4 h0
    exact ⟨s, by simpa using h'⟩
  obtain ⟨s, rfl⟩ := hb
  obtain ⟨q1, q2⟩ := fin_agg3 y0.1 y1.1 y2.1
  exact ⟨s, A1, c1, l1, A2, c2, l2, rfl, r1, r2, o1, o2, by omega, by omega⟩
set_option maxRecDepth 100000 in
theorem open_raw {H : Type} {enc : TypeId × Value → H} {W : World} {b0 : Nat} {v : Value} {d : DataW H} {p : List MemPlace} (hv : Value.okWide Tryd.prog W .any b0 24 v) (h : DataW.Trod enc Tryd.prog W 0 (fun _ => true) true 24 v d p)
    (hk : Rows.uptoBulk d ≤ 1048576) : ∃ s N D, RawV W v s N D := by
  obtain ⟨s, A1, c1, l1, A2, c2, l2, e, r1, r2, o1, o2, k1, k2⟩ := open_rat hv h
  obtain ⟨N, hN⟩ := Int.eq_ofNat_of_zero_le (val_nonneg o1)
  obtain ⟨D, hD⟩ := Int.eq_ofNat_of_zero_le (val_nonneg o2)
  exact ⟨s, N, D, A1, c1, l1, A2, c2, l2, e, r1, r2, o1, o2, hN, hD, by omega, by omega⟩
set_option maxRecDepth 100000 in
/-- the arguments read behind the call as they did -/
theorem stays {H : Type} {enc : TypeId × Value → H} {W W' : World} (hb : Below W.heap.size W W') {sp : Nat → Bool} :
    ∀ {ts : List TypeId} {vs : List Value} {ds : List (DataW H)} {ps : List MemPlace}, (∀ t ∈ ts, Tryd.prog.readableRec t = true ∧ t < Tryd.prog.types.size) →
      DataW.TrodAll enc Tryd.prog W 0 (fun _ => true) true ts vs ds ps → (∀ p ∈ ps, sp p.block = true) → DataW.TrodAll enc Tryd.prog W' 0 sp true ts vs ds ps
  | [], [], [], _, _, h, _ => h
  | _ :: _, _ :: _, _ :: _, _, hT, h, hs => by
    have hlt := h.lt
    obtain ⟨p, q, h1, h2, e⟩ := h
    refine ⟨p, q, ?_, stays hb (fun t ht => hT t (List.mem_cons.2 (Or.inr ht))) h2 (fun x hx => hs x (by rw [e]; exact List.mem_append_right _ hx)), e⟩
    exact WideElems.Trod_stays laidOut (hT _ (List.mem_cons.2 (Or.inl rfl))).1 (hT _ (List.mem_cons.2 (Or.inl rfl))).2 h1
      (fun x hx => hb.same (hlt x (by rw [e]; exact List.mem_append_left _ hx))) (fun x hx => hs x (by rw [e]; exact List.mem_append_left _ hx))
set_option maxRecDepth 100000 in
/-- what the answer true gives, where nothing old has turned -/
theorem said_true {H : Type} {enc : TypeId × Value → H} {f : Func} {s : ChangeSpec} {W W' : World} {args : Array Value} {ds gs : List (DataW H)} {before : List MemPlace}
    (hW : DataW.Whole enc Tryd.prog f.params.toList s.vars false W args.toList ds gs before) (hv : s.vars = []) (hT : ∀ t ∈ f.params.toList, Tryd.prog.readableRec t = true ∧ t < Tryd.prog.types.size)
    (hr : f.resultTypes = #[4]) (e1 : (s.fn H (ds ++ gs)).results = [.lit (.bool true)]) (e2 : (s.fn H (ds ++ gs)).args = ds) (e3 : (s.fn H (ds ++ gs)).vars = []) (hb : Below W.heap.size W W') :
    s.post enc Tryd.prog f false true false false W args (.bool true) W' := by
  have hW' := hW
  obtain ⟨p, q, hA, hV, rfl, _, _⟩ := hW'
  rw [hv] at hV
  obtain ⟨rfl, rfl⟩ := trodVars_none hV
  have lt := hW.lt
  have ok : ∀ (j : Nat) (t : TypeId) (r : Value), f.resultTypes[j]? = some t → ((Value.bool true).resultList f.resultTypes.size)[j]? = some r → Value.okWide Tryd.prog W' .any 0 t r := ok_one hr rfl (okWide_bool_mk Tryd.underlying4 _)
  have res : ∀ (b : Nat) (sp : Nat → Bool) (hd : Bool), DataW.TrodAll enc Tryd.prog W' b sp hd f.resultTypes.toList ((Value.bool true).resultList f.resultTypes.size) (s.fn H (ds ++ [])).results [] := fun _ _ _ => by
    rw [e1, hr]
    exact trodAll_mk1 (shut_bool Tryd.underlying4 _)
  have arg : ∀ sp : Nat → Bool, (∀ x ∈ p ++ [], sp x.block = true) → DataW.TrodAll enc Tryd.prog W' 0 sp true f.params.toList args.toList (s.fn H (ds ++ [])).args p := fun sp hs => by
    rw [e2]
    exact stays hb hT hA (fun x hx => hs x (by simpa using hx))
  have var : ∀ sp : Nat → Bool, DataW.TrodVars enc Tryd.prog W' sp s.vars (s.fn H (ds ++ [])).vars [] := fun _ => by
    rw [e3, hv]
    rfl
  have hold : ∀ x ∈ p ++ [], (fun b => decide (b < W.heap.size)) x.block = true := fun x hx => by simpa using lt x hx
  refine ⟨ds, [], p ++ [], [], p, [], hW, res _ _ _, arg _ hold, var _, hb.frame _, fun h => by cases h⟩
end Go.Proofs.YtfmhplcpejmkhaaDoor

namespace Go.Proofs.YtfmhplcpejmkhaaDoor.lawNumberField
open Go.ChangeShapes Go.WideShapes Go.ChangeAt Go.RowKit Dig
set_option linter.unusedVariables false
set_option linter.unusedSimpArgs false
set_option maxRecDepth 100000 in
theorem contract (H : Type) (enc : TypeId × Value → H) (W : World) (base : Nat) (args : Array Value) (ds gs : List (DataW H)) (before : List MemPlace)
    (hval : ∀ (j : Nat) t v, Tryd.f13.params[j]? = some t → args[j]? = some v → Value.okWide Tryd.prog W .any base t v)
    (hW : DataW.Whole enc Tryd.prog Tryd.f13.params.toList Rows.numberFieldSpec.vars false W args.toList ds gs before) (hL : laidMetH Tryd.prog Rows.numberFieldUptoRow.laid W)
    (hk : Rows.uptoBulkAll (ds ++ gs) ≤ 1048576) :
    Calls Tryd.prog 13 args W fun e W' => ∃ v, e = .returned v ∧ Rows.numberFieldSpec.post enc Tryd.prog Tryd.f13 false true false false W args v W' := by
  have hW' := hW
  obtain ⟨p, q, hA0, hV, rfl, hfz, hnd⟩ := hW
  have hA : DataW.TrodAll enc Tryd.prog W 0 (fun _ => true) true Tryd.f13.params.toList args.toList ds p := hA0
  rw [Tryd.params13] at hA hval
  obtain ⟨v0, vs0, d0, ds0, p0, q0, hv0, rfl, rfl, h0, r0⟩ := trodAll_cons hA
  obtain ⟨v1, vs1, d1, ds1, p1, q1, hv1, rfl, rfl, h1, r1⟩ := trodAll_cons r0
  obtain ⟨v2, vs2, d2, ds2, p2, q2, hv2, rfl, rfl, h2, r2⟩ := trodAll_cons r1
  obtain ⟨hn, rfl, rfl⟩ := trodAll_nil r2
  obtain rfl : args = #[v0, v1, v2] := by cases args; simp_all
  obtain ⟨rfl, rfl⟩ := trodVars_none hV
  have hT := tab_of hL
  simp only [List.append_nil, Rows.uptoBulkAll] at hk
  obtain ⟨s0, N0, D0, k0⟩ := open_raw (hval 0 24 v0 rfl rfl) h0 (by omega)
  obtain ⟨s1, N1, D1, k1⟩ := open_raw (hval 1 24 v1 rfl rfl) h1 (by omega)
  obtain ⟨s2, N2, D2, k2⟩ := open_raw (hval 2 24 v2 rfl rfl) h2 (by omega)
  refine (wNumberField s0 N0 D0 s1 N1 D1 s2 N2 D2 W _ _ _ k0 k1 k2 hT).mono fun e W' ⟨he, hb⟩ => ?_
  subst he
  exact ⟨_, rfl, said_true hW' rfl (by rw [Tryd.params13]; intro t ht; simp at ht; subst ht; exact ⟨by kernel_rfl, of_decide_eq_true (by kernel_rfl)⟩) (by kernel_rfl) rfl rfl rfl hb⟩

noncomputable def laidWorld (os : Os) : World :=
  { World.holding Tryd.prog os ⟨#[], #[], []⟩ with heap := (World.holding Tryd.prog os ⟨#[], #[], []⟩).heap.modify 0 fun
      | .cells _ t frozen => .cells ((Lib.deBruijn32tab.map fun n => Value.int .u8 (Int.ofNat n)).toArray) t frozen
      | o => o }
theorem laid_met (os : Os) : laidMet Tryd.prog Rows.numberFieldUptoRow.laid ((laidWorld os).forCall (fun _ _ => 0) ⟨#[], #[.agg #[.bool false, .slice none 0 0, .slice none 0 0], .agg #[.bool false, .slice none 0 0, .slice none 0 0], .agg #[.bool false, .slice none 0 0, .slice none 0 0]], []⟩).memory :=
  laidMet_of_run' 64 (by kernel_rfl) (by kernel_rfl)
theorem reads (os : Os) {H : Type} (enc : TypeId × Value → H) : ∃ places, DataW.whole enc Tryd.prog ((laidWorld os).forCall (fun _ _ => 0) ⟨#[], #[.agg #[.bool false, .slice none 0 0, .slice none 0 0], .agg #[.bool false, .slice none 0 0, .slice none 0 0], .agg #[.bool false, .slice none 0 0, .slice none 0 0]], []⟩).memory Tryd.f13.params.toList Rows.numberFieldSpec.vars false (#[.agg #[.bool false, .slice none 0 0, .slice none 0 0], .agg #[.bool false, .slice none 0 0, .slice none 0 0], .agg #[.bool false, .slice none 0 0, .slice none 0 0]] : Array Value).toList 64 = some ([.agg [.lit (.bool false), .nil, .nil], .agg [.lit (.bool false), .nil, .nil], .agg [.lit (.bool false), .nil, .nil]], [], places) :=
  ⟨[], by kernel_rfl⟩
set_option maxRecDepth 100000 in
theorem lifted (os : Os) (started : os.Started) (H : Type) (enc : TypeId × Value → H) (F : Stop.Interp) :
    ReturnsInHanded {} Tryd.checked os 13 .any ((Rows.OpenSpec.upto Rows.numberFieldSpec).preRow enc Tryd.prog Tryd.f13 Rows.numberFieldUptoRow.domain false Rows.numberFieldUptoRow.laid) (((Rows.OpenSpec.upto Rows.numberFieldSpec).at F).post enc Tryd.prog Tryd.f13 false true false false) := by
  obtain ⟨places, hx⟩ := reads os enc
  refine returnsInHanded_of_row (C := Tryd.checked) (s := Rows.OpenSpec.upto Rows.numberFieldSpec) own started (by kernel_rfl) Tryd.func13
    (witness_row_at (enc := enc) (C := Tryd.checked) false (laidWorld os) #[.agg #[.bool false, .slice none 0 0, .slice none 0 0], .agg #[.bool false, .slice none 0 0, .slice none 0 0], .agg #[.bool false, .slice none 0 0, .slice none 0 0]] rfl (by kernel_rfl) (by kernel_rfl) (by kernel_rfl)
      (OpenSpec.preRow_of_cond 64 hx (by kernel_rfl) (fun k hk => by cases hk; kernel_rfl) (by kernel_rfl) (laid_met os))) ?_
  intro W base args ds gs before hval hW _ hcond hreach hL _ _
  exact contract H enc W base args ds gs before hval hW hL (by simpa [Rows.uptoSmall] using hcond _ rfl)
theorem said : Rows.NumberFieldUptoSaid :=
  OpenClaim.holds_of_cond 13 Tryd.f13 rfl rfl rfl rfl rfl rfl rfl ⟨rfl, rfl, rfl, rfl, rfl⟩ rfl rfl rfl rfl rfl (by kernel_rfl) Tryd.func13 (by kernel_rfl)
    (of_decide_eq_true (by kernel_rfl)) (by unfold Func.isWrapper; first | (rw [if_pos (by decide +kernel)]; kernel_rfl) | (rw [if_neg (by decide +kernel)]; exact ⟨rfl, rfl⟩))
    (fun os started H enc _ F => by rw [OpenClaim.pre_eq_preRow]; exact lifted os started H enc F)
theorem plain (f : FuncId) (fn : Func) (hf : Tryd.pinned.checked.prog.funcNamed "inequality/inequalitylaw01.NumberField" = some f) (hfn : Tryd.pinned.checked.prog.funcs[f]? = some fn) :
    false = Tryd.pinned.checked.prog.looks [] ∧ ∀ (j : Nat) t, fn.params[j]? = some t → Tryd.pinned.checked.prog.wantsStandIn t = false := by
  obtain rfl : f = 13 := Option.some.inj ((show Tryd.prog.funcNamed "inequality/inequalitylaw01.NumberField" = some 13 by kernel_rfl).symm.trans hf) |>.symm
  obtain rfl : fn = Tryd.f13 := (Option.some.inj (Tryd.func13.symm.trans hfn)).symm
  refine ⟨by kernel_rfl, fun j t ht => ?_⟩
  rw [Tryd.params13] at ht
  have hm := Array.mem_of_getElem? ht
  simp at hm
  subst hm
  exact (show Tryd.prog.wantsStandIn 24 = false by kernel_rfl)
theorem card : Rows.NumberFieldUptoCardSaid :=
  Claim7.holds_tied_plain_at .later [] _ _ _ _ said (fun _ h => by cases h) (by kernel_rfl) (fun _ h => by cases h) numberFieldUpto_row_tie rfl ⟨rfl, rfl⟩ (by kernel_rfl) rfl plain (by kernel_rfl)
end Go.Proofs.YtfmhplcpejmkhaaDoor.lawNumberField
