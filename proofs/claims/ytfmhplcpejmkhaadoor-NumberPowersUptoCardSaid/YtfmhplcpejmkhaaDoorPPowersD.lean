/-
  Contracts of the reference's rational numbers: Bottom, Top, Scaled, GridDown, GridUp.
  The reference's Bottom, Top, Scaled, GridDown, GridUp over rational numbers, and what they are in the program's words.
  Contracts of number.Canon, Neg, Abs, Floor, Ceil. Under the premise that the table of math/bits lies as its initialiser lays it.
  Contracts of the reference's Floor, Ceil, Grid.
  Contracts of number.round, Down, Up. Under the premise that the table of math/bits lies as its initialiser lays it.
  Contracts of two values that have been read.
  How rational numbers compare: plain laws.
  Contracts of number.Compare. Under the premise that the table of math/bits lies as its initialiser lays it.
  Results of operations as values: an error's value is the zero value.
  Contracts of number.Div. Under the premise that the table of math/bits lies as its initialiser lays it.
  The operations over values of whatever kind: what is known of a value is whether it is large and which number it denotes. Under the premise that the table of math/bits lies as its initialiser lays it.
  Contracts of the reference: NatPow, Power of a number that is not negative.
  Powers of rational numbers, as the program and the reference have them.
  Contracts of number.Pow. Under the premise that the table of math/bits lies as its initialiser lays it.
  The program's natural numbers as values of a known number: contracts by what they denote.
  The grid's neighbours: plain laws.
  Roots of rational numbers: plain laws.
-/
import Derived.Test.YtfmhplcpejmkhaaDoorPPowersC
namespace Go.Proofs.YtfmhplcpejmkhaaDoor
open Go.RowKit Dig
set_option linter.unusedVariables false
set_option linter.unusedSimpArgs false
theorem GvR.undrawn {w M : World} {g1 g3 : Nat} {t : TypeId} {s1 : Bool} {A1 : Option Addr} {c1 n1 : Nat} {A2 : Option Addr} {c2 d1 : Nat} (h : GvR w M.drew g1 g3 t s1 A1 c1 n1 A2 c2 d1) : GvR w M g1 g3 t s1 A1 c1 n1 A2 c2 d1 :=
  ⟨⟨h.f.box, ⟨h.f.r1.le, h.f.r1.max, h.f.r1.at_⟩, ⟨h.f.r2.le, h.f.r2.max, h.f.r2.at_⟩⟩, h.res, ⟨h.bel.os, h.bel.tape, h.bel.output, h.bel.size, h.bel.block⟩, h.ne, h.n3⟩
theorem GvR.drew {w M : World} {g1 g3 : Nat} {t : TypeId} {s1 : Bool} {A1 : Option Addr} {c1 n1 : Nat} {A2 : Option Addr} {c2 d1 : Nat} (h : GvR w M g1 g3 t s1 A1 c1 n1 A2 c2 d1) : GvR w M.drew g1 g3 t s1 A1 c1 n1 A2 c2 d1 := h.below (Below.refl _ _).drew
theorem grid_len (s : Bool) (n d p : Nat) (up : Bool) {k : Nat} (h : (R (n * 2 ^ p)).length ≤ k) : (R (gridN s n d p up)).length ≤ k + 1 := by
  rw [R, dig_length_le B16_two] at h ⊢
  have h1 : n * 2 ^ p / d ≤ n * 2 ^ p := Nat.div_le_self _ _
  have h2 : gridN s n d p up ≤ n * 2 ^ p / d + 1 := by unfold gridN; split <;> omega
  have h3 : B16 ^ (k + 1) = B16 ^ k * B16 := Nat.pow_succ ..
  have h4 : B16 ^ k * 2 ≤ B16 ^ k * B16 := Nat.mul_le_mul_left _ B16_two
  omega
set_option maxHeartbeats 4000000 in
set_option maxRecDepth 100000 in
theorem rBottom (s1 : Bool) (n1 d1 : Nat) (w : World) (A1 A2 : Option Addr) (c1 c2 : Nat) (h1 : Rd w A1 c1 (R n1)) (h2 : Rd w A2 c2 (R d1)) (l1 : (R n1).length ≤ 400000) (l2 : (R d1).length ≤ 400000) (hd : d1 ≠ 0) (q : Rat) (hq : mkRat (sg s1 (gridN s1 n1 d1 0 false)) 1 = q) :
    Calls Tryd.prog 101 #[.agg #[.bool s1, .slice A1 (R n1).length c1, .slice A2 (R d1).length c2]] w fun e w' => ∃ s B1 m1 e1 B2 m2 e2, e = .returned (.agg #[.bool s, .slice B1 m1 e1, .slice B2 m2 e2]) ∧ Hid (IsQ w' (.agg #[.bool s, .slice B1 m1 e1, .slice B2 m2 e2]) q) ∧ Below w.heap.size w w' := by
  have T0 := Lib.hid (GvR.start (s1 := s1) (t := 37) h1 h2)
  have Z := Lib.hid hd
  have HQ := Lib.hid hq
  have L1 := Lib.hid (R_len4 (n := 1) (by omega))
  obtain ⟨k, hk⟩ : ∃ k, n1 / d1 = k := ⟨_, rfl⟩
  obtain ⟨r, hr⟩ : ∃ r, n1 % d1 = r := ⟨_, rfl⟩
  have hlk : (R k).length ≤ 400000 := by
    rw [R, dig_length_le B16_two] at l1 ⊢
    have := Nat.div_le_self n1 d1
    omega
  have LK := Lib.hid hlk
  have HK := Lib.hid hk
  have HR := Lib.hid hr
  have G := Lib.hid (show gridN s1 n1 d1 0 false = if s1 = true ∧ r ≠ 0 then k + 1 else k by
    unfold gridN
    simp only [Nat.pow_zero, Nat.mul_one, hk, hr]
    cases s1 <;> simp
    by_cases h0 : r = 0 <;> simp [h0])
  have h5 := R_add_length k 1
  have h6 : (R 1).length = 1 := by rw [R_one]; rfl
  have LK1 := Lib.hid (show (R (k + 1)).length ≤ 400002 by omega)
  clear h5 h6
  clear h1 h2 hd hq hk hr hlk
  go_enter Tryd.func101, Tryd.ntmps101
  go_wp2_with fail
  go_region_held3 (fun W' => (World.cell? W' ⟨(w.heap.size), 0, none⟩ = some (.bool s1) ∧ World.cell? W' ⟨(w.heap.size), 1, none⟩ = some (.slice A1 (R n1).length c1) ∧ World.cell? W' ⟨(w.heap.size), 2, none⟩ = some (.slice A2 (R d1).length c2) ∧ Hid (GvR w W' (w.heap.size) (w.heap.size + 1) 37 s1 A1 c1 n1 A2 c2 d1)))
    (with_reducible (first | assumption | exact T0.out.drew.cells | exact GvR.next (by assumption) (by assumption) | exact GvR.nextS (by assumption)))
    (first
       | (go_at_call 72
          refine (rDen _ _ _ _ _ _ _ _ (GvR.of (by assumption)).f.r2 Z.out).mono ?_
          rintro e wc ⟨Ac, cc, rfl, rc, bc⟩)
       | (go_at_call 123
          refine (rDiv n1 d1 _ _ _ _ _ (GvR.of (by assumption)).f.r1 rc (by omega) (Nat.pos_of_ne_zero Z.out)).mono ?_
          rw [HK.out, HR.out]
          rintro e wa ⟨Aa, ca, Ab, cb, rfl, ra, rb, ba⟩
          have hh := (GvR.of (by assumption)).below ba))
  obtain ⟨bb, hbb⟩ : ∃ bb, decide (0 < (R r).length) = bb := ⟨_, rfl⟩
  have hbb2 : decide ((0 : Int) < ((R r).length : Int)) = bb := by rw [← hbb]; simp
  have HB := Lib.hid (show (!decide (r = 0)) = bb by rw [← R_len_pos, hbb])
  have TT := Lib.hid hh
  have RA := Lib.hid ra
  clear hh ra rb ba bc rc
  rcases s1 with _ | _
  · obtain ⟨a1, a2, a3, _⟩ := TT.out.cells
    rw [if_neg (by simp)] at G
    rw [G.out] at HQ
    go_wp2_with fail
    go_region_held3 (fun W' => (World.cell? W' ⟨(w.heap.size), 0, none⟩ = some (.bool false) ∧ World.cell? W' ⟨(w.heap.size), 1, none⟩ = some (.slice A1 (R n1).length c1) ∧ World.cell? W' ⟨(w.heap.size), 2, none⟩ = some (.slice A2 (R d1).length c2) ∧ Hid (GvR w W' (w.heap.size) (w.heap.size + 1) 37 false A1 c1 n1 A2 c2 d1)))
      (with_reducible (first | assumption | exact TT.out.drew.cells | exact GvR.next (by assumption) (by assumption) | exact GvR.nextS (by assumption)))
      (first
       | (go_at_call 73
          refine (rNatOf1 _).mono ?_
          rintro e wn ⟨An, cn, rfl, rn, bn⟩)
       | (go_at_call 74
          refine (Calls.parts (rMake _ k 1 _ _ _ _ _ ((RA.out.below (Below.refl _ _).drew).below bn) rn (by omega) (Nat.le_trans LK.out (by omega)) L1.out)).mono ?_
          rw [HQ.out]
          rintro e we ⟨t3, B3, m3, e3, B3', m3', e3', rfl, i3, be⟩
          have hh := (GvR.of (by assumption)).below be
          obtain ⟨x, y, z, hx, hy, hz, k1, k2, k3⟩ := hh.res.cells))
    obtain ⟨q0, q1, q2, hs, hb⟩ := IsQ.stored i3.out hh.res hh.bel hh.n3
    have Q := Lib.hid (And.intro q0 (And.intro q1 q2))
    have HS := Lib.hid hs
    have HBB := Lib.hid hb
    clear q0 q1 q2 hs hb
    go_wp2
    obtain ⟨q0, q1, q2⟩ := Q.out
    refine bodyPost_ret (v := .agg #[.bool t3, .slice B3 m3 e3, .slice B3' m3' e3']) (by simp [results, Tryd.results101, go_sem, q0, q1, q2]) rfl ?_
    exact ⟨_, _, _, _, _, _, _, rfl, HS, HBB.out⟩
  · rcases bb with _ | _
    · obtain ⟨a1, a2, a3, _⟩ := TT.out.cells
      have hr0 : r = 0 := by have := HB.out; simpa using this
      rw [if_neg (by simp [hr0])] at G
      rw [G.out] at HQ
      clear hr0
      go_wp2_with fail
      go_region_held3 (fun W' => (World.cell? W' ⟨(w.heap.size), 0, none⟩ = some (.bool true) ∧ World.cell? W' ⟨(w.heap.size), 1, none⟩ = some (.slice A1 (R n1).length c1) ∧ World.cell? W' ⟨(w.heap.size), 2, none⟩ = some (.slice A2 (R d1).length c2) ∧ Hid (GvR w W' (w.heap.size) (w.heap.size + 1) 37 true A1 c1 n1 A2 c2 d1)))
        (with_reducible (first | assumption | exact TT.out.drew.cells | exact GvR.next (by assumption) (by assumption) | exact GvR.nextS (by assumption)))
        (first
         | (go_at_call 73
            refine (rNatOf1 _).mono ?_
            rintro e wn ⟨An, cn, rfl, rn, bn⟩)
         | (go_at_call 74
            refine (Calls.parts (rMake _ k 1 _ _ _ _ _ ((RA.out.below (Below.refl _ _).drew).below bn) rn (by omega) (Nat.le_trans LK.out (by omega)) L1.out)).mono ?_
            rw [HQ.out]
            rintro e we ⟨t3, B3, m3, e3, B3', m3', e3', rfl, i3, be⟩
            have hh := (GvR.of (by assumption)).below be
            obtain ⟨x, y, z, hx, hy, hz, k1, k2, k3⟩ := hh.res.cells))
      obtain ⟨q0, q1, q2, hs, hb⟩ := IsQ.stored i3.out hh.res hh.bel hh.n3
      have Q := Lib.hid (And.intro q0 (And.intro q1 q2))
      have HS := Lib.hid hs
      have HBB := Lib.hid hb
      clear q0 q1 q2 hs hb
      go_wp2
      obtain ⟨q0, q1, q2⟩ := Q.out
      refine bodyPost_ret (v := .agg #[.bool t3, .slice B3 m3 e3, .slice B3' m3' e3']) (by simp [results, Tryd.results101, go_sem, q0, q1, q2]) rfl ?_
      exact ⟨_, _, _, _, _, _, _, rfl, HS, HBB.out⟩
    · obtain ⟨a1, a2, a3, _⟩ := TT.out.cells
      have hr0 : r ≠ 0 := by have := HB.out; simpa using this
      rw [if_pos ⟨rfl, hr0⟩] at G
      rw [G.out] at HQ
      clear hr0
      go_wp2_with fail
      refine (rNatOf1 _).mono ?_
      rintro e wn ⟨An, cn, rfl, rn, bn⟩
      replace RA := Lib.hid (RA.out.below bn)
      have TT := Lib.hid (TT.out.below bn)
      have RN := Lib.hid rn
      clear bn rn a1 a2 a3
      go_wp2_with fail
      refine (rAdd k 1 _ _ _ _ _ RA.out RN.out (Nat.le_trans LK.out (by omega)) (Nat.le_trans L1.out (by omega))).mono ?_
      rintro e wm ⟨Am, cm, rfl, rm, bm⟩
      have TT := Lib.hid (TT.out.below bm)
      have RA := Lib.hid rm
      clear bm rm
      obtain ⟨a1, a2, a3, _⟩ := TT.out.cells
      go_wp2_with fail
      go_region_held3 (fun W' => (World.cell? W' ⟨(w.heap.size), 0, none⟩ = some (.bool true) ∧ World.cell? W' ⟨(w.heap.size), 1, none⟩ = some (.slice A1 (R n1).length c1) ∧ World.cell? W' ⟨(w.heap.size), 2, none⟩ = some (.slice A2 (R d1).length c2) ∧ Hid (GvR w W' (w.heap.size) (w.heap.size + 1) 37 true A1 c1 n1 A2 c2 d1)))
        (with_reducible (first | assumption | exact TT.out.drew.cells | exact GvR.next (by assumption) (by assumption) | exact GvR.nextS (by assumption)))
        (first
         | (go_at_call 73
            refine (rNatOf1 _).mono ?_
            rintro e wn ⟨An, cn, rfl, rn, bn⟩)
         | (go_at_call 74
            refine (Calls.parts (rMake _ (k + 1) 1 _ _ _ _ _ ((RA.out.below (Below.refl _ _).drew).below bn) rn (by omega) (Nat.le_trans LK1.out (by omega)) L1.out)).mono ?_
            rw [HQ.out]
            rintro e we ⟨t3, B3, m3, e3, B3', m3', e3', rfl, i3, be⟩
            have hh := (GvR.of (by assumption)).below be
            obtain ⟨x, y, z, hx, hy, hz, k1, k2, k3⟩ := hh.res.cells))
      obtain ⟨q0, q1, q2, hs, hb⟩ := IsQ.stored i3.out hh.res hh.bel hh.n3
      have Q := Lib.hid (And.intro q0 (And.intro q1 q2))
      have HS := Lib.hid hs
      have HBB := Lib.hid hb
      clear q0 q1 q2 hs hb
      go_wp2
      obtain ⟨q0, q1, q2⟩ := Q.out
      refine bodyPost_ret (v := .agg #[.bool t3, .slice B3 m3 e3, .slice B3' m3' e3']) (by simp [results, Tryd.results101, go_sem, q0, q1, q2]) rfl ?_
      exact ⟨_, _, _, _, _, _, _, rfl, HS, HBB.out⟩
theorem R_two_pow (p : Nat) : (R (2 ^ p)).length ≤ p + 1 := by
  rw [R, dig_length_le B16_two]
  exact Nat.lt_of_lt_of_le (Nat.pow_lt_pow_right (by omega) (Nat.lt_succ_self p)) (Nat.pow_le_pow_left B16_two _)
set_option maxHeartbeats 2000000 in
set_option maxRecDepth 100000 in
theorem rScaledUp (s1 : Bool) (n1 d1 : Nat) (p : Nat) (w : World) (A1 A2 : Option Addr) (c1 c2 : Nat) (h1 : Rd w A1 c1 (R n1)) (h2 : Rd w A2 c2 (R d1)) (l1 : (R n1).length ≤ 400000) (l2 : (R d1).length ≤ 400000) (hd : d1 ≠ 0) (lp : p ≤ 1000000) (q : Rat) (hq : mkRat (sg s1 (n1 * 2 ^ p)) d1 = q) :
    Calls Tryd.prog 127 #[.agg #[.bool s1, .slice A1 (R n1).length c1, .slice A2 (R d1).length c2], .int .i64 (p : Int)] w fun e w' => ∃ s B1 m1 e1 B2 m2 e2, e = .returned (.agg #[.bool s, .slice B1 m1 e1, .slice B2 m2 e2]) ∧ Hid (IsQ w' (.agg #[.bool s, .slice B1 m1 e1, .slice B2 m2 e2]) q) ∧ Below w.heap.size w w' := by
  have T0 := Lib.hid (GvR.start (s1 := s1) (t := 37) h1 h2)
  have Z := Lib.hid hd
  have Z2 := Lib.hid (Nat.mul_ne_zero hd (Nat.ne_of_gt (Nat.two_pow_pos p)))
  have HQ := Lib.hid hq
  have LS := Lib.hid (Nat.le_trans (R_mul_length n1 (2 ^ p)) (by have := R_two_pow p; omega : _ ≤ 2000000))
  have hd2 : decide ((p : Int) < 0) = false := by simp
  have E3 := Lib.hid (wrap_i64 (p : Int) (by omega) (by omega))
  clear h1 h2 hd hq
  go_enter Tryd.func127, Tryd.ntmps127
  go_wp2_with fail
  go_region_held3 (fun W' => (World.cell? W' ⟨(w.heap.size), 0, none⟩ = some (.bool s1) ∧ World.cell? W' ⟨(w.heap.size), 1, none⟩ = some (.slice A1 (R n1).length c1) ∧ World.cell? W' ⟨(w.heap.size), 2, none⟩ = some (.slice A2 (R d1).length c2) ∧ Hid (GvR w W' (w.heap.size) (w.heap.size + 1) 37 s1 A1 c1 n1 A2 c2 d1)))
    (with_reducible (first | assumption | exact T0.out.drew.cells | exact GvR.next (by assumption) (by assumption) | exact GvR.nextS (by assumption)))
    (first
       | (go_at_call 132
          refine (rShl n1 p _ _ _ (GvR.of (by assumption)).f.r1 (by omega) (by omega)).mono ?_
          rintro e ws ⟨As, cs, rfl, rs, bs⟩)
       | (go_at_call 72
          refine (rDen _ _ _ _ _ _ _ _ (GvR.of (by assumption)).f.r2 Z.out).mono ?_
          rintro e wc ⟨Ac, cc, rfl, rc, bc⟩)
       | (go_at_call 74
          refine (Calls.parts (rMake _ _ _ _ _ _ _ _ (rs.below bc) rc Z.out LS.out (by omega))).mono ?_
          rw [HQ.out]
          rintro e we ⟨t3, B3, m3, e3, B3', m3', e3', rfl, i3, be⟩
          have hh := (GvR.of (by assumption)).below be
          obtain ⟨x, y, z, hx, hy, hz, k1, k2, k3⟩ := hh.res.cells))
  obtain ⟨q0, q1, q2, hs, hb⟩ := IsQ.stored i3.out hh.res hh.bel hh.n3
  have Q := Lib.hid (And.intro q0 (And.intro q1 q2))
  have HS := Lib.hid hs
  have HBB := Lib.hid hb
  clear q0 q1 q2 hs hb
  go_wp2
  obtain ⟨q0, q1, q2⟩ := Q.out
  refine bodyPost_ret (v := .agg #[.bool t3, .slice B3 m3 e3, .slice B3' m3' e3']) (by simp [results, Tryd.results127, go_sem, q0, q1, q2]) rfl ?_
  exact ⟨_, _, _, _, _, _, _, rfl, HS, HBB.out⟩
set_option maxHeartbeats 2000000 in
set_option maxRecDepth 100000 in
theorem rScaledDn (s1 : Bool) (n1 d1 : Nat) (p : Nat) (w : World) (A1 A2 : Option Addr) (c1 c2 : Nat) (h1 : Rd w A1 c1 (R n1)) (h2 : Rd w A2 c2 (R d1)) (l1 : (R n1).length ≤ 400000) (l2 : (R d1).length ≤ 400000) (hd : d1 ≠ 0) (lp : p ≤ 1000000) (p0 : 0 < p) (q : Rat) (hq : mkRat (sg s1 n1) (d1 * 2 ^ p) = q) :
    Calls Tryd.prog 127 #[.agg #[.bool s1, .slice A1 (R n1).length c1, .slice A2 (R d1).length c2], .int .i64 (-(p : Int))] w fun e w' => ∃ s B1 m1 e1 B2 m2 e2, e = .returned (.agg #[.bool s, .slice B1 m1 e1, .slice B2 m2 e2]) ∧ Hid (IsQ w' (.agg #[.bool s, .slice B1 m1 e1, .slice B2 m2 e2]) q) ∧ Below w.heap.size w w' := by
  have T0 := Lib.hid (GvR.start (s1 := s1) (t := 37) h1 h2)
  have Z := Lib.hid hd
  have Z2 := Lib.hid (Nat.mul_ne_zero hd (Nat.ne_of_gt (Nat.two_pow_pos p)))
  have HQ := Lib.hid hq
  have LS := Lib.hid (Nat.le_trans (R_mul_length d1 (2 ^ p)) (by have := R_two_pow p; omega : _ ≤ 2000000))
  have hd2 : decide ((-(p : Int)) < 0) = true := by simp; omega
  have E3 := Lib.hid (wrap_i64 (p : Int) (by omega) (by omega))
  clear h1 h2 hd hq
  go_enter Tryd.func127, Tryd.ntmps127
  go_wp2_with fail
  go_region_held3 (fun W' => (World.cell? W' ⟨(w.heap.size), 0, none⟩ = some (.bool s1) ∧ World.cell? W' ⟨(w.heap.size), 1, none⟩ = some (.slice A1 (R n1).length c1) ∧ World.cell? W' ⟨(w.heap.size), 2, none⟩ = some (.slice A2 (R d1).length c2) ∧ Hid (GvR w W' (w.heap.size) (w.heap.size + 1) 37 s1 A1 c1 n1 A2 c2 d1)))
    (with_reducible (first | assumption | exact T0.out.drew.cells | exact GvR.next (by assumption) (by assumption) | exact GvR.nextS (by assumption)))
    (first
       | (go_at_call 72
          refine (rDen _ _ _ _ _ _ _ _ (GvR.of (by assumption)).f.r2 Z.out).mono ?_
          rintro e wc ⟨Ac, cc, rfl, rc, bc⟩)
       | (go_at_call 132
          rw [E3.out]
          refine (rShl d1 p _ _ _ rc (by omega) (by omega)).mono ?_
          rintro e ws ⟨As, cs, rfl, rs, bs⟩)
       | (go_at_call 74
          refine (Calls.parts (rMake _ _ _ _ _ _ _ _ (GvR.of (by assumption)).f.r1 rs Z2.out (by omega) LS.out)).mono ?_
          rw [HQ.out]
          rintro e we ⟨t3, B3, m3, e3, B3', m3', e3', rfl, i3, be⟩
          have hh := (GvR.of (by assumption)).below be
          obtain ⟨x, y, z, hx, hy, hz, k1, k2, k3⟩ := hh.res.cells))
  obtain ⟨q0, q1, q2, hs, hb⟩ := IsQ.stored i3.out hh.res hh.bel hh.n3
  have Q := Lib.hid (And.intro q0 (And.intro q1 q2))
  have HS := Lib.hid hs
  have HBB := Lib.hid hb
  clear q0 q1 q2 hs hb
  go_wp2
  obtain ⟨q0, q1, q2⟩ := Q.out
  refine bodyPost_ret (v := .agg #[.bool t3, .slice B3 m3 e3, .slice B3' m3' e3']) (by simp [results, Tryd.results127, go_sem, q0, q1, q2]) rfl ?_
  exact ⟨_, _, _, _, _, _, _, rfl, HS, HBB.out⟩
end Go.Proofs.YtfmhplcpejmkhaaDoor

namespace Go.Proofs.YtfmhplcpejmkhaaDoor
open Go.RowKit Dig
set_option linter.unusedVariables false
set_option linter.unusedSimpArgs false
def gridQ (a : Rat) (p : Nat) (up : Bool) : Rat := mkRat (sg (ng a) (gridN (ng a) a.num.natAbs a.den p up)) (2 ^ p)
def upQ (a : Rat) (p : Nat) : Rat := mkRat (sg (ng a) (a.num.natAbs * 2 ^ p)) a.den
def dnQ (a : Rat) (p : Nat) : Rat := mkRat (sg (ng a) a.num.natAbs) (a.den * 2 ^ p)
theorem gridN_scale (s : Bool) (g n d : Nat) (up : Bool) (hg : 0 < g) : gridN s (g * n) (g * d) 0 up = gridN s n d 0 up := by
  unfold gridN
  simp only [Nat.pow_zero, Nat.mul_one]
  rw [Nat.mul_div_mul_left _ _ hg, Nat.mul_mod_mul_left]
  congr 1
  have : (g * (n % d) ≠ 0) ↔ (n % d ≠ 0) := by
    constructor
    · intro h h0; exact h (by rw [h0, Nat.mul_zero])
    · intro h h0; rcases Nat.mul_eq_zero.1 h0 with h1 | h1 <;> omega
  simp only [this]
theorem gridN_pow (s : Bool) (n d p : Nat) (up : Bool) : gridN s (n * 2 ^ p) d 0 up = gridN s n d p up := by
  unfold gridN
  simp
theorem gridN_zero (s : Bool) (d : Nat) (up : Bool) : gridN s 0 d 0 up = 0 := by
  unfold gridN
  simp
theorem grid_mk (s : Bool) (N D : Nat) (up : Bool) (hD : D ≠ 0) : gridQ (mkRat (sg s N) D) 0 up = mkRat (sg s (gridN s N D 0 up)) 1 := by
  unfold gridQ
  rw [mk_abs s N hD, mk_den s N hD, Nat.pow_zero]
  have hg : 0 < Nat.gcd N D := Nat.gcd_pos_of_pos_right _ (Nat.pos_of_ne_zero hD)
  by_cases hN : N = 0
  · subst hN
    rw [Nat.zero_div, gridN_zero, gridN_zero, sg_zero, sg_zero]
  · rw [mk_sign s hD hN]
    have e1 : gridN s N D 0 up = gridN s (Nat.gcd N D * (N / Nat.gcd N D)) (Nat.gcd N D * (D / Nat.gcd N D)) 0 up := by
      rw [Nat.mul_div_cancel' (Nat.gcd_dvd_left N D), Nat.mul_div_cancel' (Nat.gcd_dvd_right N D)]
    rw [e1, gridN_scale _ _ _ _ _ hg]
theorem top_neg (a : Rat) : -(gridQ (-a) 0 false) = gridQ a 0 true := by
  unfold gridQ
  rw [neg_abs, neg_den, ng_neg, Rat.neg_mkRat]
  by_cases h : a.num.natAbs = 0
  · rw [h, gridN_zero, gridN_zero, sg_zero, sg_zero]
    simp
  · have e : (!ng a && !decide (a.num.natAbs = 0)) = !ng a := by simp [h]
    rw [e]
    have e2 : gridN (!ng a) a.num.natAbs a.den 0 false = gridN (ng a) a.num.natAbs a.den 0 true := by
      unfold gridN
      cases ng a <;> simp
    rw [e2]
    congr 1
    unfold sg
    cases ng a <;> simp
theorem down_up (a : Rat) (p : Nat) (up : Bool) : dnQ (gridQ (upQ a p) 0 up) p = gridQ a p up := by
  unfold upQ
  rw [grid_mk _ _ _ _ a.den_nz, gridN_pow]
  unfold dnQ
  rw [sg_ng]
  rw [mk_mul_den, Rat.mkRat_self, Rat.mkRat_mul_mkRat, Int.mul_one, Nat.one_mul]
  rfl
theorem qBottom (a : Rat) (w : World) (v : Value) (h : IsQ w v a) (k : Rq 400000 a) (q : Rat) (hq : gridQ a 0 false = q) :
    Calls Tryd.prog 101 #[v] w fun e w' => ∃ s B1 m1 e1 B2 m2 e2, e = .returned (.agg #[.bool s, .slice B1 m1 e1, .slice B2 m2 e2]) ∧ Hid (IsQ w' (.agg #[.bool s, .slice B1 m1 e1, .slice B2 m2 e2]) q) ∧ Below w.heap.size w w' := by
  obtain ⟨A1, c1, A2, c2, rfl, r1, r2⟩ := h
  exact rBottom _ _ _ w _ _ _ _ r1 r2 k.1 k.2 a.den_nz q (by rw [← hq, gridQ, Nat.pow_zero])
theorem qUp (a : Rat) (p : Nat) (lp : p ≤ 1000000) (w : World) (v : Value) (h : IsQ w v a) (k : Rq 400000 a) (q : Rat) (hq : upQ a p = q) :
    Calls Tryd.prog 127 #[v, .int .i64 p] w fun e w' => ∃ s B1 m1 e1 B2 m2 e2, e = .returned (.agg #[.bool s, .slice B1 m1 e1, .slice B2 m2 e2]) ∧ Hid (IsQ w' (.agg #[.bool s, .slice B1 m1 e1, .slice B2 m2 e2]) q) ∧ Below w.heap.size w w' := by
  obtain ⟨A1, c1, A2, c2, rfl, r1, r2⟩ := h
  exact rScaledUp _ _ _ p w _ _ _ _ r1 r2 k.1 k.2 a.den_nz lp q hq
theorem qDn (a : Rat) (p : Nat) (lp : p ≤ 1000000) (w : World) (v : Value) (h : IsQ w v a) (k : Rq 400000 a) (q : Rat) (hq : dnQ a p = q) :
    Calls Tryd.prog 127 #[v, .int .i64 (-(p : Int))] w fun e w' => ∃ s B1 m1 e1 B2 m2 e2, e = .returned (.agg #[.bool s, .slice B1 m1 e1, .slice B2 m2 e2]) ∧ Hid (IsQ w' (.agg #[.bool s, .slice B1 m1 e1, .slice B2 m2 e2]) q) ∧ Below w.heap.size w w' := by
  rcases Nat.eq_zero_or_pos p with rfl | hp
  · have := qUp a 0 lp w v h k q (by rw [← hq]; unfold upQ dnQ; simp)
    simpa using this
  · obtain ⟨A1, c1, A2, c2, rfl, r1, r2⟩ := h
    exact rScaledDn _ _ _ p w _ _ _ _ r1 r2 k.1 k.2 a.den_nz lp hp q hq
theorem grid_Rq {a : Rat} {k : Nat} (h : Rq k a) (p : Nat) (up : Bool) : Rq (k + p + 3) (gridQ a p up) := by
  have h1 := R_mul_length a.num.natAbs (2 ^ p)
  have h2 := R_two_pow p
  have h3 := h.1
  refine mk_Rq (Nat.ne_of_gt (Nat.two_pow_pos p)) ?_ (Nat.le_trans h2 (by omega))
  rw [sg_abs]
  exact Nat.le_trans (grid_len _ _ _ _ _ (k := k + p + 1) (by omega)) (by omega)
theorem up_Rq {a : Rat} {k : Nat} (h : Rq k a) (p : Nat) : Rq (k + p + 3) (upQ a p) := by
  have h1 := R_mul_length a.num.natAbs (2 ^ p)
  have h2 := R_two_pow p
  have h3 := h.1
  refine mk_Rq a.den_nz ?_ (Nat.le_trans h.2 (by omega))
  rw [sg_abs]
  omega
set_option maxHeartbeats 2000000 in
set_option maxRecDepth 100000 in
theorem rTop (s1 : Bool) (n1 d1 : Nat) (w : World) (A1 A2 : Option Addr) (c1 c2 : Nat) (h1 : Rd w A1 c1 (R n1)) (h2 : Rd w A2 c2 (R d1)) (a b q : Rat) (ha : IsQ w (.agg #[.bool s1, .slice A1 (R n1).length c1, .slice A2 (R d1).length c2]) a) (k : Rq 400000 a) (hb : gridQ (-a) 0 false = b) (hq : -b = q) :
    Calls Tryd.prog 102 #[.agg #[.bool s1, .slice A1 (R n1).length c1, .slice A2 (R d1).length c2]] w fun e w' => ∃ s B1 m1 e1 B2 m2 e2, e = .returned (.agg #[.bool s, .slice B1 m1 e1, .slice B2 m2 e2]) ∧ Hid (IsQ w' (.agg #[.bool s, .slice B1 m1 e1, .slice B2 m2 e2]) q) ∧ Below w.heap.size w w' := by
  obtain ⟨M, hM, k1, k2, bM⟩ := start1 w (.bool s1) (.slice A1 (R n1).length c1) (.slice A2 (R d1).length c2) (.bool false) (.slice none 0 0) (.slice none 0 0) 37 37
  have HX := Lib.hid k1
  have HA := Lib.hid (ha.below bM)
  have TR := Lib.hid (show Rs w M (w.heap.size + 1) from ⟨⟨_, _, _, NI.bool _, NI.slice _ _ _, NI.slice _ _ _, k2⟩, bM, by omega⟩)
  have KN := Lib.hid k.neg
  obtain ⟨n, hn⟩ : ∃ n, -a = n := ⟨_, rfl⟩
  have HN := Lib.hid hn
  have HQ := Lib.hid hq
  rw [hn] at hb KN
  have HB := Lib.hid hb
  clear k1 k2 h1 h2 bM ha hn hq hb
  go_enter Tryd.func102, Tryd.ntmps102
  go_upto_region 1 with (fail)
  rw [← hM]
  clear hM
  obtain ⟨x1, x2, x3, _, _, _⟩ := HX.out.cells
  go_wp2_with fail
  refine (Calls.parts (qOpp a _ _ HA.out)).mono ?_
  rw [HN.out]
  rintro e wa ⟨t3, B3, m3, e3, B3', m3', e3', rfl, i3, ba⟩
  replace TR := Rs.next TR ba
  clear x1 x2 x3 ba
  go_wp2_with fail
  refine (qBottom n _ _ i3.out KN.out b HB.out).mono ?_
  rintro e wb ⟨t4, B4, m4, e4, B4', m4', e4', rfl, i4, bb⟩
  replace TR := Rs.next TR bb
  clear bb
  go_wp2_with fail
  refine (Calls.parts (qOpp b _ _ i4.out)).mono ?_
  rw [HQ.out]
  rintro e wc ⟨t5, B5, m5, e5, B5', m5', e5', rfl, i5, bc⟩
  replace TR := Rs.next TR bc
  clear bc
  obtain ⟨z1, z2, z3, hz1, hz2, hz3, k1, k2, k3⟩ := TR.out.res.cells
  go_wp2
  obtain ⟨q0, q1, q2, hs, hb⟩ := IsQ.stored i5.out TR.out.res TR.out.bel TR.out.n3
  refine bodyPost_ret (v := .agg #[.bool t5, .slice B5 m5 e5, .slice B5' m5' e5']) (by simp [results, Tryd.results102, go_sem, q0, q1, q2]) rfl ?_
  exact ⟨_, _, _, _, _, _, _, rfl, Lib.hid hs, hb⟩
theorem qTop (a : Rat) (w : World) (v : Value) (h : IsQ w v a) (k : Rq 400000 a) (q : Rat) (hq : gridQ a 0 true = q) :
    Calls Tryd.prog 102 #[v] w fun e w' => ∃ s B1 m1 e1 B2 m2 e2, e = .returned (.agg #[.bool s, .slice B1 m1 e1, .slice B2 m2 e2]) ∧ Hid (IsQ w' (.agg #[.bool s, .slice B1 m1 e1, .slice B2 m2 e2]) q) ∧ Below w.heap.size w w' := by
  have h0 := h
  obtain ⟨A1, c1, A2, c2, rfl, r1, r2⟩ := h
  exact rTop _ _ _ w _ _ _ _ r1 r2 a _ q h0 k rfl (by rw [top_neg, hq])
set_option maxHeartbeats 2000000 in
set_option maxRecDepth 100000 in
theorem rGridDown (p : Nat) (lp : p ≤ 1000) (s1 : Bool) (n1 d1 : Nat) (w : World) (A1 A2 : Option Addr) (c1 c2 : Nat) (a x y q : Rat) (ha : IsQ w (.agg #[.bool s1, .slice A1 (R n1).length c1, .slice A2 (R d1).length c2]) a) (ka : Rq 400000 a) (hx : upQ a p = x) (kx : Rq 400000 x) (hy : gridQ x 0 false = y) (ky : Rq 400000 y) (hq : dnQ y p = q) :
    Calls Tryd.prog 105 #[.agg #[.bool s1, .slice A1 (R n1).length c1, .slice A2 (R d1).length c2], .int .i64 p] w fun e w' => ∃ s B1 m1 e1 B2 m2 e2, e = .returned (.agg #[.bool s, .slice B1 m1 e1, .slice B2 m2 e2]) ∧ Hid (IsQ w' (.agg #[.bool s, .slice B1 m1 e1, .slice B2 m2 e2]) q) ∧ Below w.heap.size w w' := by
  obtain ⟨M, hM, k1, k2, bM⟩ := start1 w (.bool s1) (.slice A1 (R n1).length c1) (.slice A2 (R d1).length c2) (.bool false) (.slice none 0 0) (.slice none 0 0) 37 37
  have HX := Lib.hid k1
  have HA := Lib.hid (ha.below bM)
  have TR := Lib.hid (show Rs w M (w.heap.size + 1) from ⟨⟨_, _, _, NI.bool _, NI.slice _ _ _, NI.slice _ _ _, k2⟩, bM, by omega⟩)
  have H1 := Lib.hid hx
  have H2 := Lib.hid hy
  have H3 := Lib.hid hq
  clear k1 k2 bM ha hx hy hq
  go_enter Tryd.func105, Tryd.ntmps105
  go_upto_region 1 with (fail)
  rw [← hM]
  clear hM
  obtain ⟨x1, x2, x3, _, _, _⟩ := HX.out.cells
  go_wp2_with fail
  refine (qUp a p (by omega) _ _ HA.out ka x H1.out).mono ?_
  rintro e wa ⟨t3, B3, m3, e3, B3', m3', e3', rfl, i3, ba⟩
  replace TR := Rs.next TR ba
  clear x1 x2 x3 ba
  go_wp2_with fail
  refine (qBottom x _ _ i3.out kx y H2.out).mono ?_
  rintro e wb ⟨t4, B4, m4, e4, B4', m4', e4', rfl, i4, bb⟩
  replace TR := Rs.next TR bb
  clear bb
  have e9 : wrap64 (-(p : Int)) = -(p : Int) := by unfold wrap64; omega
  have e8 : IntKind.i64.wrap (-(p : Int)) = -(p : Int) := wrap_i64 _ (by omega) (by omega)
  go_wp2_with fail
  refine (qDn y p (by omega) _ _ i4.out ky q H3.out).mono ?_
  rintro e wc ⟨t5, B5, m5, e5, B5', m5', e5', rfl, i5, bc⟩
  replace TR := Rs.next TR bc
  clear bc
  obtain ⟨z1, z2, z3, hz1, hz2, hz3, k1, k2, k3⟩ := TR.out.res.cells
  go_wp2
  obtain ⟨q0, q1, q2, hs, hb⟩ := IsQ.stored i5.out TR.out.res TR.out.bel TR.out.n3
  refine bodyPost_ret (v := .agg #[.bool t5, .slice B5 m5 e5, .slice B5' m5' e5']) (by simp [results, Tryd.results105, go_sem, q0, q1, q2]) rfl ?_
  exact ⟨_, _, _, _, _, _, _, rfl, Lib.hid hs, hb⟩
theorem qGridDown (a : Rat) (p : Nat) (lp : p ≤ 1000) (w : World) (v : Value) (h : IsQ w v a) (k : Rq 100000 a) (q : Rat) (hq : gridQ a p false = q) :
    Calls Tryd.prog 105 #[v, .int .i64 p] w fun e w' => ∃ s B1 m1 e1 B2 m2 e2, e = .returned (.agg #[.bool s, .slice B1 m1 e1, .slice B2 m2 e2]) ∧ Hid (IsQ w' (.agg #[.bool s, .slice B1 m1 e1, .slice B2 m2 e2]) q) ∧ Below w.heap.size w w' := by
  have h0 := h
  obtain ⟨A1, c1, A2, c2, rfl, r1, r2⟩ := h
  exact rGridDown p lp _ _ _ w _ _ _ _ a _ _ q h0 (k.le (by omega)) rfl ((up_Rq k p).le (by omega)) rfl ((grid_Rq (up_Rq k p) 0 false).le (by omega)) (by rw [down_up, hq])
set_option maxHeartbeats 2000000 in
set_option maxRecDepth 100000 in
theorem rGridUp (p : Nat) (lp : p ≤ 1000) (s1 : Bool) (n1 d1 : Nat) (w : World) (A1 A2 : Option Addr) (c1 c2 : Nat) (a x y q : Rat) (ha : IsQ w (.agg #[.bool s1, .slice A1 (R n1).length c1, .slice A2 (R d1).length c2]) a) (ka : Rq 400000 a) (hx : upQ a p = x) (kx : Rq 400000 x) (hy : gridQ x 0 true = y) (ky : Rq 400000 y) (hq : dnQ y p = q) :
    Calls Tryd.prog 104 #[.agg #[.bool s1, .slice A1 (R n1).length c1, .slice A2 (R d1).length c2], .int .i64 p] w fun e w' => ∃ s B1 m1 e1 B2 m2 e2, e = .returned (.agg #[.bool s, .slice B1 m1 e1, .slice B2 m2 e2]) ∧ Hid (IsQ w' (.agg #[.bool s, .slice B1 m1 e1, .slice B2 m2 e2]) q) ∧ Below w.heap.size w w' := by
  obtain ⟨M, hM, k1, k2, bM⟩ := start1 w (.bool s1) (.slice A1 (R n1).length c1) (.slice A2 (R d1).length c2) (.bool false) (.slice none 0 0) (.slice none 0 0) 37 37
  have HX := Lib.hid k1
  have HA := Lib.hid (ha.below bM)
  have TR := Lib.hid (show Rs w M (w.heap.size + 1) from ⟨⟨_, _, _, NI.bool _, NI.slice _ _ _, NI.slice _ _ _, k2⟩, bM, by omega⟩)
  have H1 := Lib.hid hx
  have H2 := Lib.hid hy
  have H3 := Lib.hid hq
  clear k1 k2 bM ha hx hy hq
  go_enter Tryd.func104, Tryd.ntmps104
  go_upto_region 1 with (fail)
  rw [← hM]
  clear hM
  obtain ⟨x1, x2, x3, _, _, _⟩ := HX.out.cells
  go_wp2_with fail
  refine (qUp a p (by omega) _ _ HA.out ka x H1.out).mono ?_
  rintro e wa ⟨t3, B3, m3, e3, B3', m3', e3', rfl, i3, ba⟩
  replace TR := Rs.next TR ba
  clear x1 x2 x3 ba
  go_wp2_with fail
  refine (qTop x _ _ i3.out kx y H2.out).mono ?_
  rintro e wb ⟨t4, B4, m4, e4, B4', m4', e4', rfl, i4, bb⟩
  replace TR := Rs.next TR bb
  clear bb
  have e9 : wrap64 (-(p : Int)) = -(p : Int) := by unfold wrap64; omega
  have e8 : IntKind.i64.wrap (-(p : Int)) = -(p : Int) := wrap_i64 _ (by omega) (by omega)
  go_wp2_with fail
  refine (qDn y p (by omega) _ _ i4.out ky q H3.out).mono ?_
  rintro e wc ⟨t5, B5, m5, e5, B5', m5', e5', rfl, i5, bc⟩
  replace TR := Rs.next TR bc
  clear bc
  obtain ⟨z1, z2, z3, hz1, hz2, hz3, k1, k2, k3⟩ := TR.out.res.cells
  go_wp2
  obtain ⟨q0, q1, q2, hs, hb⟩ := IsQ.stored i5.out TR.out.res TR.out.bel TR.out.n3
  refine bodyPost_ret (v := .agg #[.bool t5, .slice B5 m5 e5, .slice B5' m5' e5']) (by simp [results, Tryd.results104, go_sem, q0, q1, q2]) rfl ?_
  exact ⟨_, _, _, _, _, _, _, rfl, Lib.hid hs, hb⟩
theorem qGridUp (a : Rat) (p : Nat) (lp : p ≤ 1000) (w : World) (v : Value) (h : IsQ w v a) (k : Rq 100000 a) (q : Rat) (hq : gridQ a p true = q) :
    Calls Tryd.prog 104 #[v, .int .i64 p] w fun e w' => ∃ s B1 m1 e1 B2 m2 e2, e = .returned (.agg #[.bool s, .slice B1 m1 e1, .slice B2 m2 e2]) ∧ Hid (IsQ w' (.agg #[.bool s, .slice B1 m1 e1, .slice B2 m2 e2]) q) ∧ Below w.heap.size w w' := by
  have h0 := h
  obtain ⟨A1, c1, A2, c2, rfl, r1, r2⟩ := h
  exact rGridUp p lp _ _ _ w _ _ _ _ a _ _ q h0 (k.le (by omega)) rfl ((up_Rq k p).le (by omega)) rfl ((grid_Rq (up_Rq k p) 0 true).le (by omega)) (by rw [down_up, hq])
end Go.Proofs.YtfmhplcpejmkhaaDoor

namespace Go.Proofs.YtfmhplcpejmkhaaDoor
open Go.RowKit Dig
set_option linter.unusedVariables false
set_option linter.unusedSimpArgs false
/-- the absolute value -/
def absQ (a : Rat) : Rat := if ng a = true then -a else a
theorem absQ_facts (a : Rat) : ng (absQ a) = false ∧ (absQ a).num.natAbs = a.num.natAbs ∧ (absQ a).den = a.den := by
  unfold absQ
  by_cases h : ng a = true
  · rw [if_pos h, ng_neg, neg_abs, neg_den, h]
    exact ⟨rfl, rfl, rfl⟩
  · rw [if_neg h]
    exact ⟨by simpa using h, rfl, rfl⟩
theorem fCanon (a : Rat) (w : World) (v1 : Value) (h1 : IsF w v1 a) : Calls Tryd.prog 76 #[v1] w fun e w' => ∃ u, e = .returned u ∧ IsF w' u a ∧ Below w.heap.size w w' := by
  obtain ⟨A1, c1, A2, c2, rfl, r1, r2⟩ := h1
  exact fracSame _ _ _ w _ _ _ _ r1 r2
set_option maxHeartbeats 1000000 in
set_option maxRecDepth 100000 in
theorem nCanon (s1 : Bool) (N1 D1 : Nat) (w : World) (v1 : Value) (h1 : RawV w v1 s1 N1 D1) (hT : Tab w) :
    Calls Tryd.prog 27 #[v1] w (OutPost w (if largeB s1 N1 D1 then .err 1 else give (ratOf s1 N1 D1))) := by
  have H1 := Lib.hid h1
  have HT := Lib.hid hT
  obtain ⟨A1, n1, c1, A1', n1', c1', rfl⟩ := h1.shape
  clear h1 hT
  obtain ⟨M, hM, k1, k3, bM⟩ := start1 w (.bool s1) (.slice A1 n1 c1) (.slice A1' n1' c1') (.bool false) (.slice none 0 0) (.slice none 0 0) 24 24
  have HX := Lib.hid k1
  have HR := Lib.hid (show Res M (w.heap.size + 1) 24 from ⟨_, _, _, NI.bool _, NI.slice _ _ _, NI.slice _ _ _, k3⟩)
  have BM := Lib.hid bM
  replace H1 := Lib.hid (H1.out.below bM)
  replace HT := Lib.hid (HT.out.below bM)
  have C := Lib.hid (nOne 76 (ratOf s1 N1 D1) s1 N1 D1 M _ H1.out HT.out (fun _ _ => Tryd.call76 ..) (fun w u1 i1 f1 t => fCanon _ w u1 i1))
  obtain ⟨o, ho⟩ : ∃ o, (if largeB s1 N1 D1 = true then Out.err 1 else give (ratOf s1 N1 D1)) = o := ⟨_, rfl⟩
  rw [ho] at C
  rw [ho]
  clear k1 k3 bM ho
  go_enter Tryd.func27, Tryd.ntmps27
  go_upto_region 1 with (fail)
  rw [← hM]
  clear hM
  obtain ⟨x1, x2, x3, _, _, _⟩ := HX.out.cells
  go_wp2_with fail
  refine C.out.mono ?_
  rintro e we ⟨s9, A9, n9, c9, A9', n9', c9', k9, rfl, h9, b9⟩
  replace HR := Lib.hid (HR.out.below b9)
  have BE := Lib.hid (below_step BM.out BM.out.size b9)
  obtain ⟨q0, q1, q2, hs, hb⟩ := OutIs.stored h9 HR.out BE.out (by omega)
  have Q := Lib.hid (And.intro q0 (And.intro q1 q2))
  have HS := Lib.hid hs
  have HB := Lib.hid hb
  clear b9 h9 q0 q1 q2 hs hb x1 x2 x3
  obtain ⟨r1, r2, r3, hr1, hr2, hr3, _, _, _⟩ := HR.out.cells
  go_wp2_with fail
  obtain ⟨q0, q1, q2⟩ := Q.out
  refine bodyPost_ret (v := .tuple #[.agg #[.bool s9, .slice A9 n9 c9, .slice A9' n9' c9'], .int .i64 k9]) (by simp [results, Tryd.results27, go_sem, q0, q1, q2]) rfl ?_
  exact ⟨_, _, _, _, _, _, _, _, rfl, HS.out, HB.out⟩
set_option maxHeartbeats 1000000 in
set_option maxRecDepth 100000 in
theorem nNeg (s1 : Bool) (N1 D1 : Nat) (w : World) (v1 : Value) (h1 : RawV w v1 s1 N1 D1) (hT : Tab w) :
    Calls Tryd.prog 38 #[v1] w (OutPost w (if largeB s1 N1 D1 then .err 1 else give (-(ratOf s1 N1 D1)))) := by
  have H1 := Lib.hid h1
  have HT := Lib.hid hT
  obtain ⟨A1, n1, c1, A1', n1', c1', rfl⟩ := h1.shape
  clear h1 hT
  obtain ⟨M, hM, k1, k3, bM⟩ := start1 w (.bool s1) (.slice A1 n1 c1) (.slice A1' n1' c1') (.bool false) (.slice none 0 0) (.slice none 0 0) 24 24
  have HX := Lib.hid k1
  have HR := Lib.hid (show Res M (w.heap.size + 1) 24 from ⟨_, _, _, NI.bool _, NI.slice _ _ _, NI.slice _ _ _, k3⟩)
  have BM := Lib.hid bM
  replace H1 := Lib.hid (H1.out.below bM)
  replace HT := Lib.hid (HT.out.below bM)
  have C := Lib.hid (nOne 64 (-(ratOf s1 N1 D1)) s1 N1 D1 M _ H1.out HT.out (fun _ _ => Tryd.call64 ..) (fun w u1 i1 f1 t => fNeg _ w u1 i1))
  obtain ⟨o, ho⟩ : ∃ o, (if largeB s1 N1 D1 = true then Out.err 1 else give (-(ratOf s1 N1 D1))) = o := ⟨_, rfl⟩
  rw [ho] at C
  rw [ho]
  clear k1 k3 bM ho
  go_enter Tryd.func38, Tryd.ntmps38
  go_upto_region 1 with (fail)
  rw [← hM]
  clear hM
  obtain ⟨x1, x2, x3, _, _, _⟩ := HX.out.cells
  go_wp2_with fail
  refine C.out.mono ?_
  rintro e we ⟨s9, A9, n9, c9, A9', n9', c9', k9, rfl, h9, b9⟩
  replace HR := Lib.hid (HR.out.below b9)
  have BE := Lib.hid (below_step BM.out BM.out.size b9)
  obtain ⟨q0, q1, q2, hs, hb⟩ := OutIs.stored h9 HR.out BE.out (by omega)
  have Q := Lib.hid (And.intro q0 (And.intro q1 q2))
  have HS := Lib.hid hs
  have HB := Lib.hid hb
  clear b9 h9 q0 q1 q2 hs hb x1 x2 x3
  obtain ⟨r1, r2, r3, hr1, hr2, hr3, _, _, _⟩ := HR.out.cells
  go_wp2_with fail
  obtain ⟨q0, q1, q2⟩ := Q.out
  refine bodyPost_ret (v := .tuple #[.agg #[.bool s9, .slice A9 n9 c9, .slice A9' n9' c9'], .int .i64 k9]) (by simp [results, Tryd.results38, go_sem, q0, q1, q2]) rfl ?_
  exact ⟨_, _, _, _, _, _, _, _, rfl, HS.out, HB.out⟩
theorem fAbs (a : Rat) (w : World) (v1 : Value) (h1 : IsF w v1 a) : Calls Tryd.prog 95 #[v1] w fun e w' => ∃ u, e = .returned u ∧ IsF w' u (absQ a) ∧ Below w.heap.size w w' := by
  obtain ⟨A1, c1, A2, c2, rfl, r1, r2⟩ := h1
  refine (fracAbs _ _ _ w _ _ _ _ r1 r2).mono ?_
  rintro e w' ⟨u, rfl, hu, hb⟩
  obtain ⟨e1, e2, e3⟩ := absQ_facts a
  exact ⟨u, rfl, by unfold IsF; rw [e1, e2, e3]; exact hu, hb⟩
set_option maxHeartbeats 1000000 in
set_option maxRecDepth 100000 in
theorem nAbs (s1 : Bool) (N1 D1 : Nat) (w : World) (v1 : Value) (h1 : RawV w v1 s1 N1 D1) (hT : Tab w) :
    Calls Tryd.prog 43 #[v1] w (OutPost w (if largeB s1 N1 D1 then .err 1 else give (absQ (ratOf s1 N1 D1)))) := by
  have H1 := Lib.hid h1
  have HT := Lib.hid hT
  obtain ⟨A1, n1, c1, A1', n1', c1', rfl⟩ := h1.shape
  clear h1 hT
  obtain ⟨M, hM, k1, k3, bM⟩ := start1 w (.bool s1) (.slice A1 n1 c1) (.slice A1' n1' c1') (.bool false) (.slice none 0 0) (.slice none 0 0) 24 24
  have HX := Lib.hid k1
  have HR := Lib.hid (show Res M (w.heap.size + 1) 24 from ⟨_, _, _, NI.bool _, NI.slice _ _ _, NI.slice _ _ _, k3⟩)
  have BM := Lib.hid bM
  replace H1 := Lib.hid (H1.out.below bM)
  replace HT := Lib.hid (HT.out.below bM)
  have C := Lib.hid (nOne 95 (absQ (ratOf s1 N1 D1)) s1 N1 D1 M _ H1.out HT.out (fun _ _ => Tryd.call95 ..) (fun w u1 i1 f1 t => fAbs _ w u1 i1))
  obtain ⟨o, ho⟩ : ∃ o, (if largeB s1 N1 D1 = true then Out.err 1 else give (absQ (ratOf s1 N1 D1))) = o := ⟨_, rfl⟩
  rw [ho] at C
  rw [ho]
  clear k1 k3 bM ho
  go_enter Tryd.func43, Tryd.ntmps43
  go_upto_region 1 with (fail)
  rw [← hM]
  clear hM
  obtain ⟨x1, x2, x3, _, _, _⟩ := HX.out.cells
  go_wp2_with fail
  refine C.out.mono ?_
  rintro e we ⟨s9, A9, n9, c9, A9', n9', c9', k9, rfl, h9, b9⟩
  replace HR := Lib.hid (HR.out.below b9)
  have BE := Lib.hid (below_step BM.out BM.out.size b9)
  obtain ⟨q0, q1, q2, hs, hb⟩ := OutIs.stored h9 HR.out BE.out (by omega)
  have Q := Lib.hid (And.intro q0 (And.intro q1 q2))
  have HS := Lib.hid hs
  have HB := Lib.hid hb
  clear b9 h9 q0 q1 q2 hs hb x1 x2 x3
  obtain ⟨r1, r2, r3, hr1, hr2, hr3, _, _, _⟩ := HR.out.cells
  go_wp2_with fail
  obtain ⟨q0, q1, q2⟩ := Q.out
  refine bodyPost_ret (v := .tuple #[.agg #[.bool s9, .slice A9 n9 c9, .slice A9' n9' c9'], .int .i64 k9]) (by simp [results, Tryd.results43, go_sem, q0, q1, q2]) rfl ?_
  exact ⟨_, _, _, _, _, _, _, _, rfl, HS.out, HB.out⟩
theorem fFloor (a : Rat) (w : World) (v1 : Value) (h1 : IsF w v1 a) (k : Wq 200000 a) (hT : Tab w) : Calls Tryd.prog 98 #[v1] w fun e w' => ∃ u, e = .returned u ∧ IsF w' u (gridQ a 0 false) ∧ Below w.heap.size w w' := by
  obtain ⟨A1, c1, A2, c2, rfl, r1, r2⟩ := h1
  exact fracFloor _ _ _ w _ _ _ _ r1 r2 k.1 k.2 a.den_nz hT _ rfl
set_option maxHeartbeats 1000000 in
set_option maxRecDepth 100000 in
theorem nFloor (s1 : Bool) (N1 D1 : Nat) (w : World) (v1 : Value) (h1 : RawV w v1 s1 N1 D1) (hT : Tab w) :
    Calls Tryd.prog 47 #[v1] w (OutPost w (if largeB s1 N1 D1 then .err 1 else give (gridQ (ratOf s1 N1 D1) 0 false))) := by
  have H1 := Lib.hid h1
  have HT := Lib.hid hT
  obtain ⟨A1, n1, c1, A1', n1', c1', rfl⟩ := h1.shape
  clear h1 hT
  obtain ⟨M, hM, k1, k3, bM⟩ := start1 w (.bool s1) (.slice A1 n1 c1) (.slice A1' n1' c1') (.bool false) (.slice none 0 0) (.slice none 0 0) 24 24
  have HX := Lib.hid k1
  have HR := Lib.hid (show Res M (w.heap.size + 1) 24 from ⟨_, _, _, NI.bool _, NI.slice _ _ _, NI.slice _ _ _, k3⟩)
  have BM := Lib.hid bM
  replace H1 := Lib.hid (H1.out.below bM)
  replace HT := Lib.hid (HT.out.below bM)
  have C := Lib.hid (nOne 98 (gridQ (ratOf s1 N1 D1) 0 false) s1 N1 D1 M _ H1.out HT.out (fun _ _ => Tryd.call98 ..) (fun w u1 i1 f1 t => fFloor _ w u1 i1 (fit_Wq f1 (by omega)) t))
  obtain ⟨o, ho⟩ : ∃ o, (if largeB s1 N1 D1 = true then Out.err 1 else give (gridQ (ratOf s1 N1 D1) 0 false)) = o := ⟨_, rfl⟩
  rw [ho] at C
  rw [ho]
  clear k1 k3 bM ho
  go_enter Tryd.func47, Tryd.ntmps47
  go_upto_region 1 with (fail)
  rw [← hM]
  clear hM
  obtain ⟨x1, x2, x3, _, _, _⟩ := HX.out.cells
  go_wp2_with fail
  refine C.out.mono ?_
  rintro e we ⟨s9, A9, n9, c9, A9', n9', c9', k9, rfl, h9, b9⟩
  replace HR := Lib.hid (HR.out.below b9)
  have BE := Lib.hid (below_step BM.out BM.out.size b9)
  obtain ⟨q0, q1, q2, hs, hb⟩ := OutIs.stored h9 HR.out BE.out (by omega)
  have Q := Lib.hid (And.intro q0 (And.intro q1 q2))
  have HS := Lib.hid hs
  have HB := Lib.hid hb
  clear b9 h9 q0 q1 q2 hs hb x1 x2 x3
  obtain ⟨r1, r2, r3, hr1, hr2, hr3, _, _, _⟩ := HR.out.cells
  go_wp2_with fail
  obtain ⟨q0, q1, q2⟩ := Q.out
  refine bodyPost_ret (v := .tuple #[.agg #[.bool s9, .slice A9 n9 c9, .slice A9' n9' c9'], .int .i64 k9]) (by simp [results, Tryd.results47, go_sem, q0, q1, q2]) rfl ?_
  exact ⟨_, _, _, _, _, _, _, _, rfl, HS.out, HB.out⟩
theorem fCeil (a : Rat) (w : World) (v1 : Value) (h1 : IsF w v1 a) (k : Wq 200000 a) (hT : Tab w) : Calls Tryd.prog 100 #[v1] w fun e w' => ∃ u, e = .returned u ∧ IsF w' u (gridQ a 0 true) ∧ Below w.heap.size w w' := by
  obtain ⟨A1, c1, A2, c2, rfl, r1, r2⟩ := h1
  exact fracCeil _ _ _ w _ _ _ _ r1 r2 k.1 k.2 a.den_nz hT _ rfl
set_option maxHeartbeats 1000000 in
set_option maxRecDepth 100000 in
theorem nCeil (s1 : Bool) (N1 D1 : Nat) (w : World) (v1 : Value) (h1 : RawV w v1 s1 N1 D1) (hT : Tab w) :
    Calls Tryd.prog 48 #[v1] w (OutPost w (if largeB s1 N1 D1 then .err 1 else give (gridQ (ratOf s1 N1 D1) 0 true))) := by
  have H1 := Lib.hid h1
  have HT := Lib.hid hT
  obtain ⟨A1, n1, c1, A1', n1', c1', rfl⟩ := h1.shape
  clear h1 hT
  obtain ⟨M, hM, k1, k3, bM⟩ := start1 w (.bool s1) (.slice A1 n1 c1) (.slice A1' n1' c1') (.bool false) (.slice none 0 0) (.slice none 0 0) 24 24
  have HX := Lib.hid k1
  have HR := Lib.hid (show Res M (w.heap.size + 1) 24 from ⟨_, _, _, NI.bool _, NI.slice _ _ _, NI.slice _ _ _, k3⟩)
  have BM := Lib.hid bM
  replace H1 := Lib.hid (H1.out.below bM)
  replace HT := Lib.hid (HT.out.below bM)
  have C := Lib.hid (nOne 100 (gridQ (ratOf s1 N1 D1) 0 true) s1 N1 D1 M _ H1.out HT.out (fun _ _ => Tryd.call100 ..) (fun w u1 i1 f1 t => fCeil _ w u1 i1 (fit_Wq f1 (by omega)) t))
  obtain ⟨o, ho⟩ : ∃ o, (if largeB s1 N1 D1 = true then Out.err 1 else give (gridQ (ratOf s1 N1 D1) 0 true)) = o := ⟨_, rfl⟩
  rw [ho] at C
  rw [ho]
  clear k1 k3 bM ho
  go_enter Tryd.func48, Tryd.ntmps48
  go_upto_region 1 with (fail)
  rw [← hM]
  clear hM
  obtain ⟨x1, x2, x3, _, _, _⟩ := HX.out.cells
  go_wp2_with fail
  refine C.out.mono ?_
  rintro e we ⟨s9, A9, n9, c9, A9', n9', c9', k9, rfl, h9, b9⟩
  replace HR := Lib.hid (HR.out.below b9)
  have BE := Lib.hid (below_step BM.out BM.out.size b9)
  obtain ⟨q0, q1, q2, hs, hb⟩ := OutIs.stored h9 HR.out BE.out (by omega)
  have Q := Lib.hid (And.intro q0 (And.intro q1 q2))
  have HS := Lib.hid hs
  have HB := Lib.hid hb
  clear b9 h9 q0 q1 q2 hs hb x1 x2 x3
  obtain ⟨r1, r2, r3, hr1, hr2, hr3, _, _, _⟩ := HR.out.cells
  go_wp2_with fail
  obtain ⟨q0, q1, q2⟩ := Q.out
  refine bodyPost_ret (v := .tuple #[.agg #[.bool s9, .slice A9 n9 c9, .slice A9' n9' c9'], .int .i64 k9]) (by simp [results, Tryd.results48, go_sem, q0, q1, q2]) rfl ?_
  exact ⟨_, _, _, _, _, _, _, _, rfl, HS.out, HB.out⟩
end Go.Proofs.YtfmhplcpejmkhaaDoor

namespace Go.Proofs.YtfmhplcpejmkhaaDoor
open Go.RowKit Dig
set_option linter.unusedVariables false
set_option linter.unusedSimpArgs false
set_option maxHeartbeats 2000000 in
set_option maxRecDepth 100000 in
theorem lFloor_large (s1 : Bool) (N1 D1 : Nat)  (w : World) (v1 : Value) (h1 : RawV w v1 s1 N1 D1) (q : Rat) (hq : ratOf s1 N1 D1 = q) (hL : largeB s1 N1 D1 = true) :
    Calls Tryd.prog 49 #[v1] w (OutPost w (Out.err 1)) := by
  have H1 := Lib.hid h1
  obtain ⟨A1, n1, c1, A1', n1', c1', rfl⟩ := h1.shape
  clear h1
  obtain ⟨M, hM, k1, k3, bM⟩ := start1 w (.bool s1) (.slice A1 n1 c1) (.slice A1' n1' c1') (.bool false) (.slice none 0 0) (.slice none 0 0) 24 24
  have TA : Hid (P1 w M w.heap.size (w.heap.size + 1) s1 A1 n1 c1 A1' n1' c1' N1 D1) := Lib.hid ⟨k1, ⟨_, _, _, NI.bool _, NI.slice _ _ _, NI.slice _ _ _, k3⟩, H1.out.below bM, bM, by omega, by omega⟩
  have HQ := Lib.hid hq
  have HL := Lib.hid hL
  obtain ⟨o, ho⟩ : ∃ o, Out.err 1 = o := ⟨_, rfl⟩
  have HO := Lib.hid ho
  rw [ho]
  clear hq hL k1 k3 bM H1 ho
  go_enter Tryd.func49, Tryd.ntmps49
  go_upto_region 1 with (fail)
  rw [← hM]
  clear hM
  obtain ⟨x1, x2, x3, _⟩ := TA.out.cells
  go_wp2_with fail
  refine (largeV _ s1 N1 D1 _ TA.out.r1).mono ?_
  rw [HL.out]
  rintro e wa ⟨rfl, ba⟩
  replace TA := Lib.hid (TA.out.below ba)
  clear ba x1 x2 x3
  obtain ⟨x1, x2, x3, _⟩ := TA.out.cells
  obtain ⟨y1, y2, y3, hy1, hy2, hy3, f1, f2, f3⟩ := TA.out.res.cells
  obtain ⟨q0, q1, q2, hs, hb⟩ := OutIs.stored (o := .err 1) (k := 1) (s := false) (A1 := none) (A2 := none) (n1 := 0) (c1 := 0) (n2 := 0) (c2 := 0) ⟨rfl, rfl, by omega, by omega⟩ TA.out.res TA.out.bel TA.out.n3
  have Q := Lib.hid (And.intro q0 (And.intro q1 q2))
  have HBB := Lib.hid hb
  clear q0 q1 q2 hs hb
  go_wp2_with fail
  obtain ⟨q0, q1, q2⟩ := Q.out
  refine bodyPost_ret (v := .tuple #[noRat, .int .i64 1]) (by simp [results, Tryd.results49, go_sem, q0, q1, q2, noRat]) rfl ?_
  rw [← HO.out]
  exact OutPost.err rfl (by omega) (by omega) HBB.out
set_option maxHeartbeats 2000000 in
set_option maxRecDepth 100000 in
theorem lFloor_fit (s1 : Bool) (N1 D1 : Nat) (r : Rat) (hr : gridQ (ratOf s1 N1 D1) 0 false = r) (w : World) (v1 : Value) (h1 : RawV w v1 s1 N1 D1) (q : Rat) (hq : ratOf s1 N1 D1 = q) (hL : largeB s1 N1 D1 = false) :
    Calls Tryd.prog 49 #[v1] w (OutPost w (give r)) := by
  have H1 := Lib.hid h1
  obtain ⟨A1, n1, c1, A1', n1', c1', rfl⟩ := h1.shape
  clear h1
  obtain ⟨M, hM, k1, k3, bM⟩ := start1 w (.bool s1) (.slice A1 n1 c1) (.slice A1' n1' c1') (.bool false) (.slice none 0 0) (.slice none 0 0) 24 24
  have TA : Hid (P1 w M w.heap.size (w.heap.size + 1) s1 A1 n1 c1 A1' n1' c1' N1 D1) := Lib.hid ⟨k1, ⟨_, _, _, NI.bool _, NI.slice _ _ _, NI.slice _ _ _, k3⟩, H1.out.below bM, bM, by omega, by omega⟩
  have HQ := Lib.hid hq
  have HL := Lib.hid hL
  have hf := (largeB_false hL).2.2
  rw [hq] at hf
  have HF := Lib.hid hf
  clear hf
  rw [hq] at hr
  have HR := Lib.hid hr
  have HK := Lib.hid (show Rq 2000000 r by rw [← hr]; exact (grid_Rq (fit_Rq HF.out (k := 128) (by omega)) 0 false).le (by omega))
  clear hr
  obtain ⟨o, ho⟩ : ∃ o, give r = o := ⟨_, rfl⟩
  have HO := Lib.hid ho
  rw [ho]
  clear hq hL k1 k3 bM H1 ho
  go_enter Tryd.func49, Tryd.ntmps49
  go_upto_region 1 with (fail)
  rw [← hM]
  clear hM
  obtain ⟨x1, x2, x3, _⟩ := TA.out.cells
  go_wp2_with fail
  refine (largeV _ s1 N1 D1 _ TA.out.r1).mono ?_
  rw [HL.out]
  rintro e wa ⟨rfl, ba⟩
  replace TA := Lib.hid (TA.out.below ba)
  clear ba x1 x2 x3
  obtain ⟨x1, x2, x3, _⟩ := TA.out.cells
  go_wp2_with fail
  refine (ofQ _ _ _ _ q _ TA.out.r1 HL.out HQ.out).mono ?_
  rintro e wb ⟨t0, B0, m0, e0, B0', m0', e0', rfl, i0, bb⟩
  replace TA := Lib.hid (TA.out.below bb)
  clear bb x1 x2 x3
  go_wp2_with fail
  refine (qBottom q _ _ i0.out (fit_Rq HF.out (by omega)) r HR.out).mono ?_
  rintro e wb ⟨t1, B1, m1, e1, B1', m1', e1', rfl, i1, bb⟩
  replace TA := Lib.hid (TA.out.below bb)
  clear bb
  go_wp2_with fail
  refine (qDone _ _ _ i1.out HK.out).mono ?_
  rintro e we ⟨s9, A9, n9, c9, A9', n9', c9', k9, rfl, h9, b9⟩
  replace TA := Lib.hid (TA.out.below b9)
  obtain ⟨z1, z2, z3, hz1, hz2, hz3, k1, k2, k3⟩ := TA.out.res.cells
  obtain ⟨q0, q1, q2, hs, hb⟩ := OutIs.stored h9 TA.out.res TA.out.bel TA.out.n3
  have Q := Lib.hid (And.intro q0 (And.intro q1 q2))
  have HS := Lib.hid hs
  have HBB := Lib.hid hb
  clear q0 q1 q2 hs hb h9 b9
  go_wp2
  obtain ⟨q0, q1, q2⟩ := Q.out
  refine bodyPost_ret (v := .tuple #[.agg #[.bool s9, .slice A9 n9 c9, .slice A9' n9' c9'], .int .i64 k9]) (by simp [results, Tryd.results49, go_sem, q0, q1, q2]) rfl ?_
  rw [← HO.out]
  exact ⟨_, _, _, _, _, _, _, _, rfl, HS.out, HBB.out⟩
theorem lFloor (s1 : Bool) (N1 D1 : Nat) (w : World) (v1 : Value) (h1 : RawV w v1 s1 N1 D1) :
    Calls Tryd.prog 49 #[v1] w (OutPost w (if largeB s1 N1 D1 = true then .err 1 else give (gridQ (ratOf s1 N1 D1) 0 false))) := by
  by_cases h : largeB s1 N1 D1 = true
  · rw [if_pos h]; exact lFloor_large s1 N1 D1 w v1 h1 _ rfl h
  · rw [if_neg h]; exact lFloor_fit s1 N1 D1 _ rfl w v1 h1 _ rfl (by simpa using h)
set_option maxHeartbeats 2000000 in
set_option maxRecDepth 100000 in
theorem lCeil_large (s1 : Bool) (N1 D1 : Nat)  (w : World) (v1 : Value) (h1 : RawV w v1 s1 N1 D1) (q : Rat) (hq : ratOf s1 N1 D1 = q) (hL : largeB s1 N1 D1 = true) :
    Calls Tryd.prog 50 #[v1] w (OutPost w (Out.err 1)) := by
  have H1 := Lib.hid h1
  obtain ⟨A1, n1, c1, A1', n1', c1', rfl⟩ := h1.shape
  clear h1
  obtain ⟨M, hM, k1, k3, bM⟩ := start1 w (.bool s1) (.slice A1 n1 c1) (.slice A1' n1' c1') (.bool false) (.slice none 0 0) (.slice none 0 0) 24 24
  have TA : Hid (P1 w M w.heap.size (w.heap.size + 1) s1 A1 n1 c1 A1' n1' c1' N1 D1) := Lib.hid ⟨k1, ⟨_, _, _, NI.bool _, NI.slice _ _ _, NI.slice _ _ _, k3⟩, H1.out.below bM, bM, by omega, by omega⟩
  have HQ := Lib.hid hq
  have HL := Lib.hid hL
  obtain ⟨o, ho⟩ : ∃ o, Out.err 1 = o := ⟨_, rfl⟩
  have HO := Lib.hid ho
  rw [ho]
  clear hq hL k1 k3 bM H1 ho
  go_enter Tryd.func50, Tryd.ntmps50
  go_upto_region 1 with (fail)
  rw [← hM]
  clear hM
  obtain ⟨x1, x2, x3, _⟩ := TA.out.cells
  go_wp2_with fail
  refine (largeV _ s1 N1 D1 _ TA.out.r1).mono ?_
  rw [HL.out]
  rintro e wa ⟨rfl, ba⟩
  replace TA := Lib.hid (TA.out.below ba)
  clear ba x1 x2 x3
  obtain ⟨x1, x2, x3, _⟩ := TA.out.cells
  obtain ⟨y1, y2, y3, hy1, hy2, hy3, f1, f2, f3⟩ := TA.out.res.cells
  obtain ⟨q0, q1, q2, hs, hb⟩ := OutIs.stored (o := .err 1) (k := 1) (s := false) (A1 := none) (A2 := none) (n1 := 0) (c1 := 0) (n2 := 0) (c2 := 0) ⟨rfl, rfl, by omega, by omega⟩ TA.out.res TA.out.bel TA.out.n3
  have Q := Lib.hid (And.intro q0 (And.intro q1 q2))
  have HBB := Lib.hid hb
  clear q0 q1 q2 hs hb
  go_wp2_with fail
  obtain ⟨q0, q1, q2⟩ := Q.out
  refine bodyPost_ret (v := .tuple #[noRat, .int .i64 1]) (by simp [results, Tryd.results50, go_sem, q0, q1, q2, noRat]) rfl ?_
  rw [← HO.out]
  exact OutPost.err rfl (by omega) (by omega) HBB.out
set_option maxHeartbeats 2000000 in
set_option maxRecDepth 100000 in
theorem lCeil_fit (s1 : Bool) (N1 D1 : Nat) (r : Rat) (hr : gridQ (ratOf s1 N1 D1) 0 true = r) (w : World) (v1 : Value) (h1 : RawV w v1 s1 N1 D1) (q : Rat) (hq : ratOf s1 N1 D1 = q) (hL : largeB s1 N1 D1 = false) :
    Calls Tryd.prog 50 #[v1] w (OutPost w (give r)) := by
  have H1 := Lib.hid h1
  obtain ⟨A1, n1, c1, A1', n1', c1', rfl⟩ := h1.shape
  clear h1
  obtain ⟨M, hM, k1, k3, bM⟩ := start1 w (.bool s1) (.slice A1 n1 c1) (.slice A1' n1' c1') (.bool false) (.slice none 0 0) (.slice none 0 0) 24 24
  have TA : Hid (P1 w M w.heap.size (w.heap.size + 1) s1 A1 n1 c1 A1' n1' c1' N1 D1) := Lib.hid ⟨k1, ⟨_, _, _, NI.bool _, NI.slice _ _ _, NI.slice _ _ _, k3⟩, H1.out.below bM, bM, by omega, by omega⟩
  have HQ := Lib.hid hq
  have HL := Lib.hid hL
  have hf := (largeB_false hL).2.2
  rw [hq] at hf
  have HF := Lib.hid hf
  clear hf
  rw [hq] at hr
  have HR := Lib.hid hr
  have HK := Lib.hid (show Rq 2000000 r by rw [← hr]; exact (grid_Rq (fit_Rq HF.out (k := 128) (by omega)) 0 true).le (by omega))
  clear hr
  obtain ⟨o, ho⟩ : ∃ o, give r = o := ⟨_, rfl⟩
  have HO := Lib.hid ho
  rw [ho]
  clear hq hL k1 k3 bM H1 ho
  go_enter Tryd.func50, Tryd.ntmps50
  go_upto_region 1 with (fail)
  rw [← hM]
  clear hM
  obtain ⟨x1, x2, x3, _⟩ := TA.out.cells
  go_wp2_with fail
  refine (largeV _ s1 N1 D1 _ TA.out.r1).mono ?_
  rw [HL.out]
  rintro e wa ⟨rfl, ba⟩
  replace TA := Lib.hid (TA.out.below ba)
  clear ba x1 x2 x3
  obtain ⟨x1, x2, x3, _⟩ := TA.out.cells
  go_wp2_with fail
  refine (ofQ _ _ _ _ q _ TA.out.r1 HL.out HQ.out).mono ?_
  rintro e wb ⟨t0, B0, m0, e0, B0', m0', e0', rfl, i0, bb⟩
  replace TA := Lib.hid (TA.out.below bb)
  clear bb x1 x2 x3
  go_wp2_with fail
  refine (qTop q _ _ i0.out (fit_Rq HF.out (by omega)) r HR.out).mono ?_
  rintro e wb ⟨t1, B1, m1, e1, B1', m1', e1', rfl, i1, bb⟩
  replace TA := Lib.hid (TA.out.below bb)
  clear bb
  go_wp2_with fail
  refine (qDone _ _ _ i1.out HK.out).mono ?_
  rintro e we ⟨s9, A9, n9, c9, A9', n9', c9', k9, rfl, h9, b9⟩
  replace TA := Lib.hid (TA.out.below b9)
  obtain ⟨z1, z2, z3, hz1, hz2, hz3, k1, k2, k3⟩ := TA.out.res.cells
  obtain ⟨q0, q1, q2, hs, hb⟩ := OutIs.stored h9 TA.out.res TA.out.bel TA.out.n3
  have Q := Lib.hid (And.intro q0 (And.intro q1 q2))
  have HS := Lib.hid hs
  have HBB := Lib.hid hb
  clear q0 q1 q2 hs hb h9 b9
  go_wp2
  obtain ⟨q0, q1, q2⟩ := Q.out
  refine bodyPost_ret (v := .tuple #[.agg #[.bool s9, .slice A9 n9 c9, .slice A9' n9' c9'], .int .i64 k9]) (by simp [results, Tryd.results50, go_sem, q0, q1, q2]) rfl ?_
  rw [← HO.out]
  exact ⟨_, _, _, _, _, _, _, _, rfl, HS.out, HBB.out⟩
theorem lCeil (s1 : Bool) (N1 D1 : Nat) (w : World) (v1 : Value) (h1 : RawV w v1 s1 N1 D1) :
    Calls Tryd.prog 50 #[v1] w (OutPost w (if largeB s1 N1 D1 = true then .err 1 else give (gridQ (ratOf s1 N1 D1) 0 true))) := by
  by_cases h : largeB s1 N1 D1 = true
  · rw [if_pos h]; exact lCeil_large s1 N1 D1 w v1 h1 _ rfl h
  · rw [if_neg h]; exact lCeil_fit s1 N1 D1 _ rfl w v1 h1 _ rfl (by simpa using h)
set_option maxHeartbeats 2000000 in
set_option maxRecDepth 100000 in
theorem lGrid_large (s1 : Bool) (N1 D1 : Nat) (p : Int) (up : Bool) (w : World) (v1 : Value) (h1 : RawV w v1 s1 N1 D1) (q : Rat) (hq : ratOf s1 N1 D1 = q) (hL : largeB s1 N1 D1 = true) :
    Calls Tryd.prog 53 #[v1, .int .i64 p, .bool up] w (OutPost w (Out.err 1)) := by
  have H1 := Lib.hid h1
  obtain ⟨A1, n1, c1, A1', n1', c1', rfl⟩ := h1.shape
  clear h1
  obtain ⟨M, hM, k1, k3, bM⟩ := start1 w (.bool s1) (.slice A1 n1 c1) (.slice A1' n1' c1') (.bool false) (.slice none 0 0) (.slice none 0 0) 24 24
  have TA : Hid (P1 w M w.heap.size (w.heap.size + 1) s1 A1 n1 c1 A1' n1' c1' N1 D1) := Lib.hid ⟨k1, ⟨_, _, _, NI.bool _, NI.slice _ _ _, NI.slice _ _ _, k3⟩, H1.out.below bM, bM, by omega, by omega⟩
  have HQ := Lib.hid hq
  have HL := Lib.hid hL
  obtain ⟨o, ho⟩ : ∃ o, Out.err 1 = o := ⟨_, rfl⟩
  have HO := Lib.hid ho
  rw [ho]
  clear hq hL k1 k3 bM H1 ho
  go_enter Tryd.func53, Tryd.ntmps53
  go_upto_region 1 with (fail)
  rw [← hM]
  clear hM
  obtain ⟨x1, x2, x3, _⟩ := TA.out.cells
  go_wp2_with fail
  refine (largeV _ s1 N1 D1 _ TA.out.r1).mono ?_
  rw [HL.out]
  rintro e wa ⟨rfl, ba⟩
  replace TA := Lib.hid (TA.out.below ba)
  clear ba x1 x2 x3
  obtain ⟨x1, x2, x3, _⟩ := TA.out.cells
  obtain ⟨y1, y2, y3, hy1, hy2, hy3, f1, f2, f3⟩ := TA.out.res.cells
  obtain ⟨q0, q1, q2, hs, hb⟩ := OutIs.stored (o := .err 1) (k := 1) (s := false) (A1 := none) (A2 := none) (n1 := 0) (c1 := 0) (n2 := 0) (c2 := 0) ⟨rfl, rfl, by omega, by omega⟩ TA.out.res TA.out.bel TA.out.n3
  have Q := Lib.hid (And.intro q0 (And.intro q1 q2))
  have HBB := Lib.hid hb
  clear q0 q1 q2 hs hb
  go_wp2_with fail
  obtain ⟨q0, q1, q2⟩ := Q.out
  refine bodyPost_ret (v := .tuple #[noRat, .int .i64 1]) (by simp [results, Tryd.results53, go_sem, q0, q1, q2, noRat]) rfl ?_
  rw [← HO.out]
  exact OutPost.err rfl (by omega) (by omega) HBB.out
set_option maxHeartbeats 2000000 in
set_option maxRecDepth 100000 in
theorem lGrid_neg (s1 : Bool) (N1 D1 : Nat) (p : Int) (hp : p < 0) (up : Bool) (w : World) (v1 : Value) (h1 : RawV w v1 s1 N1 D1) (q : Rat) (hq : ratOf s1 N1 D1 = q) (hL : largeB s1 N1 D1 = false) :
    Calls Tryd.prog 53 #[v1, .int .i64 p, .bool up] w (OutPost w (Out.err 2)) := by
  have H1 := Lib.hid h1
  obtain ⟨A1, n1, c1, A1', n1', c1', rfl⟩ := h1.shape
  clear h1
  obtain ⟨M, hM, k1, k3, bM⟩ := start1 w (.bool s1) (.slice A1 n1 c1) (.slice A1' n1' c1') (.bool false) (.slice none 0 0) (.slice none 0 0) 24 24
  have TA : Hid (P1 w M w.heap.size (w.heap.size + 1) s1 A1 n1 c1 A1' n1' c1' N1 D1) := Lib.hid ⟨k1, ⟨_, _, _, NI.bool _, NI.slice _ _ _, NI.slice _ _ _, k3⟩, H1.out.below bM, bM, by omega, by omega⟩
  have HQ := Lib.hid hq
  have HL := Lib.hid hL
  have hp1 : decide (p < 0) = true := decide_eq_true hp
  clear hp
  obtain ⟨o, ho⟩ : ∃ o, Out.err 2 = o := ⟨_, rfl⟩
  have HO := Lib.hid ho
  rw [ho]
  clear hq hL k1 k3 bM H1 ho
  go_enter Tryd.func53, Tryd.ntmps53
  go_upto_region 1 with (fail)
  rw [← hM]
  clear hM
  obtain ⟨x1, x2, x3, _⟩ := TA.out.cells
  go_wp2_with fail
  refine (largeV _ s1 N1 D1 _ TA.out.r1).mono ?_
  rw [HL.out]
  rintro e wa ⟨rfl, ba⟩
  replace TA := Lib.hid (TA.out.below ba)
  clear ba x1 x2 x3
  obtain ⟨x1, x2, x3, _⟩ := TA.out.cells
  obtain ⟨y1, y2, y3, hy1, hy2, hy3, f1, f2, f3⟩ := TA.out.res.cells
  obtain ⟨q0, q1, q2, hs, hb⟩ := OutIs.stored (o := .err 2) (k := 2) (s := false) (A1 := none) (A2 := none) (n1 := 0) (c1 := 0) (n2 := 0) (c2 := 0) ⟨rfl, rfl, by omega, by omega⟩ TA.out.res TA.out.bel TA.out.n3
  have Q := Lib.hid (And.intro q0 (And.intro q1 q2))
  have HBB := Lib.hid hb
  clear q0 q1 q2 hs hb
  go_wp2_with fail
  obtain ⟨q0, q1, q2⟩ := Q.out
  refine bodyPost_ret (v := .tuple #[noRat, .int .i64 2]) (by simp [results, Tryd.results53, go_sem, q0, q1, q2, noRat]) rfl ?_
  rw [← HO.out]
  exact OutPost.err rfl (by omega) (by omega) HBB.out
set_option maxHeartbeats 2000000 in
set_option maxRecDepth 100000 in
theorem lGrid_big (s1 : Bool) (N1 D1 : Nat) (p : Int) (hp : 256 < p) (up : Bool) (w : World) (v1 : Value) (h1 : RawV w v1 s1 N1 D1) (q : Rat) (hq : ratOf s1 N1 D1 = q) (hL : largeB s1 N1 D1 = false) :
    Calls Tryd.prog 53 #[v1, .int .i64 p, .bool up] w (OutPost w (Out.err 2)) := by
  have H1 := Lib.hid h1
  obtain ⟨A1, n1, c1, A1', n1', c1', rfl⟩ := h1.shape
  clear h1
  obtain ⟨M, hM, k1, k3, bM⟩ := start1 w (.bool s1) (.slice A1 n1 c1) (.slice A1' n1' c1') (.bool false) (.slice none 0 0) (.slice none 0 0) 24 24
  have TA : Hid (P1 w M w.heap.size (w.heap.size + 1) s1 A1 n1 c1 A1' n1' c1' N1 D1) := Lib.hid ⟨k1, ⟨_, _, _, NI.bool _, NI.slice _ _ _, NI.slice _ _ _, k3⟩, H1.out.below bM, bM, by omega, by omega⟩
  have HQ := Lib.hid hq
  have HL := Lib.hid hL
  have hp1 : decide (p < 0) = false := decide_eq_false (by omega)
  have hp2 : decide (256 < p) = true := decide_eq_true hp
  clear hp
  obtain ⟨o, ho⟩ : ∃ o, Out.err 2 = o := ⟨_, rfl⟩
  have HO := Lib.hid ho
  rw [ho]
  clear hq hL k1 k3 bM H1 ho
  go_enter Tryd.func53, Tryd.ntmps53
  go_upto_region 1 with (fail)
  rw [← hM]
  clear hM
  obtain ⟨x1, x2, x3, _⟩ := TA.out.cells
  go_wp2_with fail
  refine (largeV _ s1 N1 D1 _ TA.out.r1).mono ?_
  rw [HL.out]
  rintro e wa ⟨rfl, ba⟩
  replace TA := Lib.hid (TA.out.below ba)
  clear ba x1 x2 x3
  obtain ⟨x1, x2, x3, _⟩ := TA.out.cells
  obtain ⟨y1, y2, y3, hy1, hy2, hy3, f1, f2, f3⟩ := TA.out.res.cells
  obtain ⟨q0, q1, q2, hs, hb⟩ := OutIs.stored (o := .err 2) (k := 2) (s := false) (A1 := none) (A2 := none) (n1 := 0) (c1 := 0) (n2 := 0) (c2 := 0) ⟨rfl, rfl, by omega, by omega⟩ TA.out.res TA.out.bel TA.out.n3
  have Q := Lib.hid (And.intro q0 (And.intro q1 q2))
  have HBB := Lib.hid hb
  clear q0 q1 q2 hs hb
  go_wp2_with fail
  obtain ⟨q0, q1, q2⟩ := Q.out
  refine bodyPost_ret (v := .tuple #[noRat, .int .i64 2]) (by simp [results, Tryd.results53, go_sem, q0, q1, q2, noRat]) rfl ?_
  rw [← HO.out]
  exact OutPost.err rfl (by omega) (by omega) HBB.out
set_option maxHeartbeats 2000000 in
set_option maxRecDepth 100000 in
theorem lGrid_false (s1 : Bool) (N1 D1 : Nat) (p : Nat) (hp : p ≤ 256) (r : Rat) (hr : gridQ (ratOf s1 N1 D1) p false = r) (w : World) (v1 : Value) (h1 : RawV w v1 s1 N1 D1) (q : Rat) (hq : ratOf s1 N1 D1 = q) (hL : largeB s1 N1 D1 = false) :
    Calls Tryd.prog 53 #[v1, .int .i64 p, .bool false] w (OutPost w (give r)) := by
  have H1 := Lib.hid h1
  obtain ⟨A1, n1, c1, A1', n1', c1', rfl⟩ := h1.shape
  clear h1
  obtain ⟨M, hM, k1, k3, bM⟩ := start1 w (.bool s1) (.slice A1 n1 c1) (.slice A1' n1' c1') (.bool false) (.slice none 0 0) (.slice none 0 0) 24 24
  have TA : Hid (P1 w M w.heap.size (w.heap.size + 1) s1 A1 n1 c1 A1' n1' c1' N1 D1) := Lib.hid ⟨k1, ⟨_, _, _, NI.bool _, NI.slice _ _ _, NI.slice _ _ _, k3⟩, H1.out.below bM, bM, by omega, by omega⟩
  have HQ := Lib.hid hq
  have HL := Lib.hid hL
  have hf := (largeB_false hL).2.2
  rw [hq] at hf
  have HF := Lib.hid hf
  clear hf
  rw [hq] at hr
  have HR := Lib.hid hr
  have HK := Lib.hid (show Rq 2000000 r by rw [← hr]; exact (grid_Rq (fit_Rq HF.out (k := 128) (by omega)) p false).le (by omega))
  have HP := Lib.hid hp
  have hp1 : decide ((p : Int) < 0) = false := decide_eq_false (by omega)
  have hp2 : decide (256 < (p : Int)) = false := decide_eq_false (by omega)
  have hp3 : decide (256 < p) = false := decide_eq_false (by omega)
  clear hr hp
  obtain ⟨o, ho⟩ : ∃ o, give r = o := ⟨_, rfl⟩
  have HO := Lib.hid ho
  rw [ho]
  clear hq hL k1 k3 bM H1 ho
  go_enter Tryd.func53, Tryd.ntmps53
  go_upto_region 1 with (fail)
  rw [← hM]
  clear hM
  obtain ⟨x1, x2, x3, _⟩ := TA.out.cells
  go_wp2_with fail
  refine (largeV _ s1 N1 D1 _ TA.out.r1).mono ?_
  rw [HL.out]
  rintro e wa ⟨rfl, ba⟩
  replace TA := Lib.hid (TA.out.below ba)
  clear ba x1 x2 x3
  obtain ⟨x1, x2, x3, _⟩ := TA.out.cells
  go_wp2_with fail
  refine (ofQ _ _ _ _ q _ TA.out.r1 HL.out HQ.out).mono ?_
  rintro e wb ⟨t0, B0, m0, e0, B0', m0', e0', rfl, i0, bb⟩
  replace TA := Lib.hid (TA.out.below bb)
  clear bb x1 x2 x3
  go_wp2_with fail
  refine (qGridDown q p (Nat.le_trans HP.out (by omega)) _ _ i0.out (fit_Rq HF.out (by omega)) r HR.out).mono ?_
  rintro e wb ⟨t1, B1, m1, e1, B1', m1', e1', rfl, i1, bb⟩
  replace TA := Lib.hid (TA.out.below bb)
  clear bb
  go_wp2_with fail
  refine (qDone _ _ _ i1.out HK.out).mono ?_
  rintro e we ⟨s9, A9, n9, c9, A9', n9', c9', k9, rfl, h9, b9⟩
  replace TA := Lib.hid (TA.out.below b9)
  obtain ⟨z1, z2, z3, hz1, hz2, hz3, k1, k2, k3⟩ := TA.out.res.cells
  obtain ⟨q0, q1, q2, hs, hb⟩ := OutIs.stored h9 TA.out.res TA.out.bel TA.out.n3
  have Q := Lib.hid (And.intro q0 (And.intro q1 q2))
  have HS := Lib.hid hs
  have HBB := Lib.hid hb
  clear q0 q1 q2 hs hb h9 b9
  go_wp2
  obtain ⟨q0, q1, q2⟩ := Q.out
  refine bodyPost_ret (v := .tuple #[.agg #[.bool s9, .slice A9 n9 c9, .slice A9' n9' c9'], .int .i64 k9]) (by simp [results, Tryd.results53, go_sem, q0, q1, q2]) rfl ?_
  rw [← HO.out]
  exact ⟨_, _, _, _, _, _, _, _, rfl, HS.out, HBB.out⟩
set_option maxHeartbeats 2000000 in
set_option maxRecDepth 100000 in
theorem lGrid_true (s1 : Bool) (N1 D1 : Nat) (p : Nat) (hp : p ≤ 256) (r : Rat) (hr : gridQ (ratOf s1 N1 D1) p true = r) (w : World) (v1 : Value) (h1 : RawV w v1 s1 N1 D1) (q : Rat) (hq : ratOf s1 N1 D1 = q) (hL : largeB s1 N1 D1 = false) :
    Calls Tryd.prog 53 #[v1, .int .i64 p, .bool true] w (OutPost w (give r)) := by
  have H1 := Lib.hid h1
  obtain ⟨A1, n1, c1, A1', n1', c1', rfl⟩ := h1.shape
  clear h1
  obtain ⟨M, hM, k1, k3, bM⟩ := start1 w (.bool s1) (.slice A1 n1 c1) (.slice A1' n1' c1') (.bool false) (.slice none 0 0) (.slice none 0 0) 24 24
  have TA : Hid (P1 w M w.heap.size (w.heap.size + 1) s1 A1 n1 c1 A1' n1' c1' N1 D1) := Lib.hid ⟨k1, ⟨_, _, _, NI.bool _, NI.slice _ _ _, NI.slice _ _ _, k3⟩, H1.out.below bM, bM, by omega, by omega⟩
  have HQ := Lib.hid hq
  have HL := Lib.hid hL
  have hf := (largeB_false hL).2.2
  rw [hq] at hf
  have HF := Lib.hid hf
  clear hf
  rw [hq] at hr
  have HR := Lib.hid hr
  have HK := Lib.hid (show Rq 2000000 r by rw [← hr]; exact (grid_Rq (fit_Rq HF.out (k := 128) (by omega)) p true).le (by omega))
  have HP := Lib.hid hp
  have hp1 : decide ((p : Int) < 0) = false := decide_eq_false (by omega)
  have hp2 : decide (256 < (p : Int)) = false := decide_eq_false (by omega)
  have hp3 : decide (256 < p) = false := decide_eq_false (by omega)
  clear hr hp
  obtain ⟨o, ho⟩ : ∃ o, give r = o := ⟨_, rfl⟩
  have HO := Lib.hid ho
  rw [ho]
  clear hq hL k1 k3 bM H1 ho
  go_enter Tryd.func53, Tryd.ntmps53
  go_upto_region 1 with (fail)
  rw [← hM]
  clear hM
  obtain ⟨x1, x2, x3, _⟩ := TA.out.cells
  go_wp2_with fail
  refine (largeV _ s1 N1 D1 _ TA.out.r1).mono ?_
  rw [HL.out]
  rintro e wa ⟨rfl, ba⟩
  replace TA := Lib.hid (TA.out.below ba)
  clear ba x1 x2 x3
  obtain ⟨x1, x2, x3, _⟩ := TA.out.cells
  go_wp2_with fail
  refine (ofQ _ _ _ _ q _ TA.out.r1 HL.out HQ.out).mono ?_
  rintro e wb ⟨t0, B0, m0, e0, B0', m0', e0', rfl, i0, bb⟩
  replace TA := Lib.hid (TA.out.below bb)
  clear bb x1 x2 x3
  go_wp2_with fail
  refine (qGridUp q p (Nat.le_trans HP.out (by omega)) _ _ i0.out (fit_Rq HF.out (by omega)) r HR.out).mono ?_
  rintro e wb ⟨t1, B1, m1, e1, B1', m1', e1', rfl, i1, bb⟩
  replace TA := Lib.hid (TA.out.below bb)
  clear bb
  go_wp2_with fail
  refine (qDone _ _ _ i1.out HK.out).mono ?_
  rintro e we ⟨s9, A9, n9, c9, A9', n9', c9', k9, rfl, h9, b9⟩
  replace TA := Lib.hid (TA.out.below b9)
  obtain ⟨z1, z2, z3, hz1, hz2, hz3, k1, k2, k3⟩ := TA.out.res.cells
  obtain ⟨q0, q1, q2, hs, hb⟩ := OutIs.stored h9 TA.out.res TA.out.bel TA.out.n3
  have Q := Lib.hid (And.intro q0 (And.intro q1 q2))
  have HS := Lib.hid hs
  have HBB := Lib.hid hb
  clear q0 q1 q2 hs hb h9 b9
  go_wp2
  obtain ⟨q0, q1, q2⟩ := Q.out
  refine bodyPost_ret (v := .tuple #[.agg #[.bool s9, .slice A9 n9 c9, .slice A9' n9' c9'], .int .i64 k9]) (by simp [results, Tryd.results53, go_sem, q0, q1, q2]) rfl ?_
  rw [← HO.out]
  exact ⟨_, _, _, _, _, _, _, _, rfl, HS.out, HBB.out⟩
/-- what Down and Up return -/
def gridOut (L : Bool) (p : Int) (up : Bool) (q : Rat) : Out := if L = true then .err 1 else if p < 0 ∨ 256 < p then .err 2 else give (gridQ q p.toNat up)
theorem lGrid (s1 : Bool) (N1 D1 : Nat) (p : Int) (up : Bool) (w : World) (v1 : Value) (h1 : RawV w v1 s1 N1 D1) :
    Calls Tryd.prog 53 #[v1, .int .i64 p, .bool up] w (OutPost w (gridOut (largeB s1 N1 D1) p up (ratOf s1 N1 D1))) := by
  unfold gridOut
  by_cases h : largeB s1 N1 D1 = true
  · rw [if_pos h]; exact lGrid_large s1 N1 D1 p up w v1 h1 _ rfl h
  · rw [if_neg h]
    have h' : largeB s1 N1 D1 = false := by simpa using h
    by_cases hn : p < 0
    · rw [if_pos (Or.inl hn)]; exact lGrid_neg s1 N1 D1 p hn up w v1 h1 _ rfl h'
    · by_cases hb : 256 < p
      · rw [if_pos (Or.inr hb)]; exact lGrid_big s1 N1 D1 p hb up w v1 h1 _ rfl h'
      · rw [if_neg (by omega)]
        obtain ⟨k, rfl⟩ : ∃ k : Nat, p = (k : Int) := ⟨p.toNat, by omega⟩
        rw [Int.toNat_natCast]
        cases up
        · exact lGrid_false s1 N1 D1 k (by omega) _ rfl w v1 h1 _ rfl h'
        · exact lGrid_true s1 N1 D1 k (by omega) _ rfl w v1 h1 _ rfl h'
end Go.Proofs.YtfmhplcpejmkhaaDoor

namespace Go.Proofs.YtfmhplcpejmkhaaDoor
open Go.RowKit Dig
set_option linter.unusedVariables false
set_option linter.unusedSimpArgs false
/-- a value that has been read, and a variable for a result -/
structure N1 (w M : World) (g3 g : Nat) (s : Bool) (A1 : Option Addr) (n1 c1 : Nat) (B1 : Option Addr) (m1 d1 : Nat) : Prop where
  res : Res M g3 24
  box : Box M g (.bool s) (.slice A1 n1 c1) (.slice B1 m1 d1) 60
  tab : Tab M
  bel : Below w.heap.size w M
  n3 : w.heap.size ≤ g3
  ne : g ≠ g3
theorem N1.below {w M M' : World} {g3 g : Nat} {s : Bool} {A1 : Option Addr} {n1 c1 : Nat} {B1 : Option Addr} {m1 d1 : Nat} (h : N1 w M g3 g s A1 n1 c1 B1 m1 d1) (hb : Below M.heap.size M M') : N1 w M' g3 g s A1 n1 c1 B1 m1 d1 :=
  ⟨h.res.below hb, h.box.below hb, h.tab.below hb, below_step h.bel h.bel.size hb, h.n3, h.ne⟩
theorem Calls.partsF {f : Nat} {args : Array Value} {w : World} {q : Rat} (h : Calls Tryd.prog f args w fun e w' => ∃ u, e = .returned u ∧ IsF w' u q ∧ Below w.heap.size w w') :
    Calls Tryd.prog f args w fun e w' => ∃ t B1 m1 e1 B2 m2 e2, e = .returned (.agg #[.bool t, .slice B1 m1 e1, .slice B2 m2 e2]) ∧ Hid (IsF w' (.agg #[.bool t, .slice B1 m1 e1, .slice B2 m2 e2]) q) ∧ Below w.heap.size w w' := by
  refine h.mono ?_
  rintro e w' ⟨u, rfl, hq, hb⟩
  have hq2 := hq
  obtain ⟨A1, c1, A2, c2, rfl, r1, r2⟩ := hq
  exact ⟨_, _, _, _, _, _, _, rfl, hq2, hb⟩
theorem fGrid (a : Rat) (p : Nat) (up : Bool) (lp : p ≤ 100000) (w : World) (v1 : Value) (h1 : IsF w v1 a) (k : Wq 200000 a) (hT : Tab w) : Calls Tryd.prog 99 #[v1, .int .i64 p, .bool up] w fun e w' => ∃ u, e = .returned u ∧ IsF w' u (gridQ a p up) ∧ Below w.heap.size w w' := by
  obtain ⟨A1, c1, A2, c2, rfl, r1, r2⟩ := h1
  exact fracGrid _ _ _ p up w _ _ _ _ r1 r2 k.1 k.2 lp a.den_nz hT
set_option maxHeartbeats 2000000 in
set_option maxRecDepth 100000 in
theorem nround_large (s1 : Bool) (N1' D1' : Nat) (p : Int) (up : Bool) (w : World) (v1 : Value) (h1 : RawV w v1 s1 N1' D1') (hT : Tab w) (q : Rat) (hq : ratOf s1 N1' D1' = q) (hL : largeB s1 N1' D1' = true) :
    Calls Tryd.prog 103 #[v1, .int .i64 p, .bool up] w (OutPost w (Out.err 1)) := by
  have H1 := Lib.hid h1
  have HT := Lib.hid hT
  obtain ⟨A1, n1, c1, A1', n1', c1', rfl⟩ := h1.shape
  clear h1 hT
  obtain ⟨M, hM, k1, k3, bM⟩ := start1 w (.bool s1) (.slice A1 n1 c1) (.slice A1' n1' c1') (.bool false) (.slice none 0 0) (.slice none 0 0) 24 24
  have HX := Lib.hid k1
  have HR := Lib.hid (show Res M (w.heap.size + 1) 24 from ⟨_, _, _, NI.bool _, NI.slice _ _ _, NI.slice _ _ _, k3⟩)
  have BM := Lib.hid bM
  replace H1 := Lib.hid (H1.out.below bM)
  replace HT := Lib.hid (HT.out.below bM)
  have HQ := Lib.hid hq
  have HL := Lib.hid hL
  obtain ⟨o, ho⟩ : ∃ o, Out.err 1 = o := ⟨_, rfl⟩
  have HO := Lib.hid ho
  rw [ho]
  clear hq hL k1 k3 bM ho
  go_enter Tryd.func103, Tryd.ntmps103
  go_upto_region 1 with (fail)
  rw [← hM]
  clear hM
  obtain ⟨x1, x2, x3, _, _, _⟩ := HX.out.cells
  go_wp2_with fail
  refine (readV _ s1 N1' D1' _ H1.out HT.out).mono ?_
  rw [HL.out, Bool.not_true]
  rintro e wa ⟨t1, B1, m1, d1, B1', m1', d1', rfl, f1, ba⟩
  have bb := below_step ba ba.size (below_alloc wa (.cells #[.bool t1, .slice B1 m1 d1, .slice B1' m1' d1'] 60))
  have hf1 := Box.new wa (.bool t1) (.slice B1 m1 d1) (.slice B1' m1' d1') 60
  have szw : w.heap.size + 1 < wa.heap.size := Nat.lt_of_lt_of_le (by obtain ⟨_, _, _, _, _, _, hh⟩ := HR.out; exact hh.lt) ba.size
  have TA : Hid (N1 w (wa.alloc (.cells #[.bool t1, .slice B1 m1 d1, .slice B1' m1' d1'] 60)) (w.heap.size + 1) wa.heap.size t1 B1 m1 d1 B1' m1' d1') :=
    Lib.hid ⟨HR.out.below bb, hf1, HT.out.below bb, below_step BM.out BM.out.size bb, by omega, by omega⟩
  obtain ⟨w2, hw2⟩ : ∃ w2, wa.alloc (.cells #[.bool t1, .slice B1 m1 d1, .slice B1' m1' d1'] 60) = w2 := ⟨_, rfl⟩
  obtain ⟨gf, hgf⟩ : ∃ gf, wa.heap.size = gf := ⟨_, rfl⟩
  clear x1 x2 x3 ba bb f1 hf1 szw HR BM HX H1 HT
  go_upto_region 2 with (fail)
  rw [hw2] at TA
  try rw [hw2]
  rw [hgf] at TA
  try rw [hgf]
  clear hw2 hgf
  obtain ⟨y1, y2, y3, _⟩ := TA.out.box.cells
  obtain ⟨z1, z2, z3, hy1, hy2, hy3, f1, f2, f3⟩ := TA.out.res.cells
  obtain ⟨q0, q1, q2, hs, hb⟩ := OutIs.stored (o := .err 1) (k := 1) (s := false) (A1 := none) (A2 := none) (n1 := 0) (c1 := 0) (n2 := 0) (c2 := 0) ⟨rfl, rfl, by omega, by omega⟩ TA.out.res TA.out.bel TA.out.n3
  have Q := Lib.hid (And.intro q0 (And.intro q1 q2))
  have HBB := Lib.hid hb
  clear q0 q1 q2 hs hb
  go_wp2_with fail
  obtain ⟨q0, q1, q2⟩ := Q.out
  refine bodyPost_ret (v := .tuple #[noRat, .int .i64 1]) (by simp [results, Tryd.results103, go_sem, q0, q1, q2, noRat]) rfl ?_
  rw [← HO.out]
  exact OutPost.err rfl (by omega) (by omega) HBB.out
set_option maxHeartbeats 2000000 in
set_option maxRecDepth 100000 in
theorem nround_neg (s1 : Bool) (N1' D1' : Nat) (p : Int) (hp : p < 0) (up : Bool) (w : World) (v1 : Value) (h1 : RawV w v1 s1 N1' D1') (hT : Tab w) (q : Rat) (hq : ratOf s1 N1' D1' = q) (hL : largeB s1 N1' D1' = false) :
    Calls Tryd.prog 103 #[v1, .int .i64 p, .bool up] w (OutPost w (Out.err 2)) := by
  have H1 := Lib.hid h1
  have HT := Lib.hid hT
  obtain ⟨A1, n1, c1, A1', n1', c1', rfl⟩ := h1.shape
  clear h1 hT
  obtain ⟨M, hM, k1, k3, bM⟩ := start1 w (.bool s1) (.slice A1 n1 c1) (.slice A1' n1' c1') (.bool false) (.slice none 0 0) (.slice none 0 0) 24 24
  have HX := Lib.hid k1
  have HR := Lib.hid (show Res M (w.heap.size + 1) 24 from ⟨_, _, _, NI.bool _, NI.slice _ _ _, NI.slice _ _ _, k3⟩)
  have BM := Lib.hid bM
  replace H1 := Lib.hid (H1.out.below bM)
  replace HT := Lib.hid (HT.out.below bM)
  have HQ := Lib.hid hq
  have HL := Lib.hid hL
  have hp1 : decide (p < 0) = true := decide_eq_true hp
  clear hp
  obtain ⟨o, ho⟩ : ∃ o, Out.err 2 = o := ⟨_, rfl⟩
  have HO := Lib.hid ho
  rw [ho]
  clear hq hL k1 k3 bM ho
  go_enter Tryd.func103, Tryd.ntmps103
  go_upto_region 1 with (fail)
  rw [← hM]
  clear hM
  obtain ⟨x1, x2, x3, _, _, _⟩ := HX.out.cells
  go_wp2_with fail
  refine (readV _ s1 N1' D1' _ H1.out HT.out).mono ?_
  rw [HL.out, Bool.not_false]
  rintro e wa ⟨t1, B1, m1, d1, B1', m1', d1', rfl, f1, ba⟩
  have bb := below_step ba ba.size (below_alloc wa (.cells #[.bool t1, .slice B1 m1 d1, .slice B1' m1' d1'] 60))
  have hf1 := Box.new wa (.bool t1) (.slice B1 m1 d1) (.slice B1' m1' d1') 60
  have szw : w.heap.size + 1 < wa.heap.size := Nat.lt_of_lt_of_le (by obtain ⟨_, _, _, _, _, _, hh⟩ := HR.out; exact hh.lt) ba.size
  have TA : Hid (N1 w (wa.alloc (.cells #[.bool t1, .slice B1 m1 d1, .slice B1' m1' d1'] 60)) (w.heap.size + 1) wa.heap.size t1 B1 m1 d1 B1' m1' d1') :=
    Lib.hid ⟨HR.out.below bb, hf1, HT.out.below bb, below_step BM.out BM.out.size bb, by omega, by omega⟩
  have F1 : Hid (IsF (wa.alloc (.cells #[.bool t1, .slice B1 m1 d1, .slice B1' m1' d1'] 60)) (.agg #[.bool t1, .slice B1 m1 d1, .slice B1' m1' d1']) q) := Lib.hid (by rw [← HQ.out]; exact (f1.out rfl).below (below_alloc _ _))
  obtain ⟨w2, hw2⟩ : ∃ w2, wa.alloc (.cells #[.bool t1, .slice B1 m1 d1, .slice B1' m1' d1'] 60) = w2 := ⟨_, rfl⟩
  obtain ⟨gf, hgf⟩ : ∃ gf, wa.heap.size = gf := ⟨_, rfl⟩
  clear x1 x2 x3 ba bb f1 hf1 szw HR BM HX H1 HT
  go_upto_region 2 with (fail)
  rw [hw2] at TA F1
  try rw [hw2]
  rw [hgf] at TA
  try rw [hgf]
  clear hw2 hgf
  obtain ⟨y1, y2, y3, _⟩ := TA.out.box.cells
  obtain ⟨z1, z2, z3, hy1, hy2, hy3, f1, f2, f3⟩ := TA.out.res.cells
  obtain ⟨q0, q1, q2, hs, hb⟩ := OutIs.stored (o := .err 2) (k := 2) (s := false) (A1 := none) (A2 := none) (n1 := 0) (c1 := 0) (n2 := 0) (c2 := 0) ⟨rfl, rfl, by omega, by omega⟩ TA.out.res TA.out.bel TA.out.n3
  have Q := Lib.hid (And.intro q0 (And.intro q1 q2))
  have HBB := Lib.hid hb
  clear q0 q1 q2 hs hb
  go_wp2_with fail
  obtain ⟨q0, q1, q2⟩ := Q.out
  refine bodyPost_ret (v := .tuple #[noRat, .int .i64 2]) (by simp [results, Tryd.results103, go_sem, q0, q1, q2, noRat]) rfl ?_
  rw [← HO.out]
  exact OutPost.err rfl (by omega) (by omega) HBB.out
set_option maxHeartbeats 2000000 in
set_option maxRecDepth 100000 in
theorem nround_big (s1 : Bool) (N1' D1' : Nat) (p : Int) (hp : 256 < p) (up : Bool) (w : World) (v1 : Value) (h1 : RawV w v1 s1 N1' D1') (hT : Tab w) (q : Rat) (hq : ratOf s1 N1' D1' = q) (hL : largeB s1 N1' D1' = false) :
    Calls Tryd.prog 103 #[v1, .int .i64 p, .bool up] w (OutPost w (Out.err 2)) := by
  have H1 := Lib.hid h1
  have HT := Lib.hid hT
  obtain ⟨A1, n1, c1, A1', n1', c1', rfl⟩ := h1.shape
  clear h1 hT
  obtain ⟨M, hM, k1, k3, bM⟩ := start1 w (.bool s1) (.slice A1 n1 c1) (.slice A1' n1' c1') (.bool false) (.slice none 0 0) (.slice none 0 0) 24 24
  have HX := Lib.hid k1
  have HR := Lib.hid (show Res M (w.heap.size + 1) 24 from ⟨_, _, _, NI.bool _, NI.slice _ _ _, NI.slice _ _ _, k3⟩)
  have BM := Lib.hid bM
  replace H1 := Lib.hid (H1.out.below bM)
  replace HT := Lib.hid (HT.out.below bM)
  have HQ := Lib.hid hq
  have HL := Lib.hid hL
  have hp1 : decide (p < 0) = false := decide_eq_false (by omega)
  have hp2 : decide (256 < p) = true := decide_eq_true hp
  clear hp
  obtain ⟨o, ho⟩ : ∃ o, Out.err 2 = o := ⟨_, rfl⟩
  have HO := Lib.hid ho
  rw [ho]
  clear hq hL k1 k3 bM ho
  go_enter Tryd.func103, Tryd.ntmps103
  go_upto_region 1 with (fail)
  rw [← hM]
  clear hM
  obtain ⟨x1, x2, x3, _, _, _⟩ := HX.out.cells
  go_wp2_with fail
  refine (readV _ s1 N1' D1' _ H1.out HT.out).mono ?_
  rw [HL.out, Bool.not_false]
  rintro e wa ⟨t1, B1, m1, d1, B1', m1', d1', rfl, f1, ba⟩
  have bb := below_step ba ba.size (below_alloc wa (.cells #[.bool t1, .slice B1 m1 d1, .slice B1' m1' d1'] 60))
  have hf1 := Box.new wa (.bool t1) (.slice B1 m1 d1) (.slice B1' m1' d1') 60
  have szw : w.heap.size + 1 < wa.heap.size := Nat.lt_of_lt_of_le (by obtain ⟨_, _, _, _, _, _, hh⟩ := HR.out; exact hh.lt) ba.size
  have TA : Hid (N1 w (wa.alloc (.cells #[.bool t1, .slice B1 m1 d1, .slice B1' m1' d1'] 60)) (w.heap.size + 1) wa.heap.size t1 B1 m1 d1 B1' m1' d1') :=
    Lib.hid ⟨HR.out.below bb, hf1, HT.out.below bb, below_step BM.out BM.out.size bb, by omega, by omega⟩
  have F1 : Hid (IsF (wa.alloc (.cells #[.bool t1, .slice B1 m1 d1, .slice B1' m1' d1'] 60)) (.agg #[.bool t1, .slice B1 m1 d1, .slice B1' m1' d1']) q) := Lib.hid (by rw [← HQ.out]; exact (f1.out rfl).below (below_alloc _ _))
  obtain ⟨w2, hw2⟩ : ∃ w2, wa.alloc (.cells #[.bool t1, .slice B1 m1 d1, .slice B1' m1' d1'] 60) = w2 := ⟨_, rfl⟩
  obtain ⟨gf, hgf⟩ : ∃ gf, wa.heap.size = gf := ⟨_, rfl⟩
  clear x1 x2 x3 ba bb f1 hf1 szw HR BM HX H1 HT
  go_upto_region 2 with (fail)
  rw [hw2] at TA F1
  try rw [hw2]
  rw [hgf] at TA
  try rw [hgf]
  clear hw2 hgf
  obtain ⟨y1, y2, y3, _⟩ := TA.out.box.cells
  obtain ⟨z1, z2, z3, hy1, hy2, hy3, f1, f2, f3⟩ := TA.out.res.cells
  obtain ⟨q0, q1, q2, hs, hb⟩ := OutIs.stored (o := .err 2) (k := 2) (s := false) (A1 := none) (A2 := none) (n1 := 0) (c1 := 0) (n2 := 0) (c2 := 0) ⟨rfl, rfl, by omega, by omega⟩ TA.out.res TA.out.bel TA.out.n3
  have Q := Lib.hid (And.intro q0 (And.intro q1 q2))
  have HBB := Lib.hid hb
  clear q0 q1 q2 hs hb
  go_wp2_with fail
  obtain ⟨q0, q1, q2⟩ := Q.out
  refine bodyPost_ret (v := .tuple #[noRat, .int .i64 2]) (by simp [results, Tryd.results103, go_sem, q0, q1, q2, noRat]) rfl ?_
  rw [← HO.out]
  exact OutPost.err rfl (by omega) (by omega) HBB.out
set_option maxHeartbeats 2000000 in
set_option maxRecDepth 100000 in
theorem nround_ok (s1 : Bool) (N1' D1' : Nat) (p : Nat) (hp : p ≤ 256) (up : Bool) (r : Rat) (hr : gridQ (ratOf s1 N1' D1') p up = r) (w : World) (v1 : Value) (h1 : RawV w v1 s1 N1' D1') (hT : Tab w) (q : Rat) (hq : ratOf s1 N1' D1' = q) (hL : largeB s1 N1' D1' = false) :
    Calls Tryd.prog 103 #[v1, .int .i64 p, .bool up] w (OutPost w (give r)) := by
  have H1 := Lib.hid h1
  have HT := Lib.hid hT
  obtain ⟨A1, n1, c1, A1', n1', c1', rfl⟩ := h1.shape
  clear h1 hT
  obtain ⟨M, hM, k1, k3, bM⟩ := start1 w (.bool s1) (.slice A1 n1 c1) (.slice A1' n1' c1') (.bool false) (.slice none 0 0) (.slice none 0 0) 24 24
  have HX := Lib.hid k1
  have HR := Lib.hid (show Res M (w.heap.size + 1) 24 from ⟨_, _, _, NI.bool _, NI.slice _ _ _, NI.slice _ _ _, k3⟩)
  have BM := Lib.hid bM
  replace H1 := Lib.hid (H1.out.below bM)
  replace HT := Lib.hid (HT.out.below bM)
  have HQ := Lib.hid hq
  have HL := Lib.hid hL
  have hf := (largeB_false hL).2.2
  rw [hq] at hf
  have HF := Lib.hid hf
  clear hf
  rw [hq] at hr
  have HR2 := Lib.hid hr
  have HP := Lib.hid hp
  have hp1 : decide ((p : Int) < 0) = false := decide_eq_false (by omega)
  have hp2 : decide (256 < (p : Int)) = false := decide_eq_false (by omega)
  have hp3 : decide (256 < p) = false := decide_eq_false (by omega)
  clear hr hp
  obtain ⟨o, ho⟩ : ∃ o, give r = o := ⟨_, rfl⟩
  have HO := Lib.hid ho
  rw [ho]
  clear hq hL k1 k3 bM ho
  go_enter Tryd.func103, Tryd.ntmps103
  go_upto_region 1 with (fail)
  rw [← hM]
  clear hM
  obtain ⟨x1, x2, x3, _, _, _⟩ := HX.out.cells
  go_wp2_with fail
  refine (readV _ s1 N1' D1' _ H1.out HT.out).mono ?_
  rw [HL.out, Bool.not_false]
  rintro e wa ⟨t1, B1, m1, d1, B1', m1', d1', rfl, f1, ba⟩
  have bb := below_step ba ba.size (below_alloc wa (.cells #[.bool t1, .slice B1 m1 d1, .slice B1' m1' d1'] 60))
  have hf1 := Box.new wa (.bool t1) (.slice B1 m1 d1) (.slice B1' m1' d1') 60
  have szw : w.heap.size + 1 < wa.heap.size := Nat.lt_of_lt_of_le (by obtain ⟨_, _, _, _, _, _, hh⟩ := HR.out; exact hh.lt) ba.size
  have TA : Hid (N1 w (wa.alloc (.cells #[.bool t1, .slice B1 m1 d1, .slice B1' m1' d1'] 60)) (w.heap.size + 1) wa.heap.size t1 B1 m1 d1 B1' m1' d1') :=
    Lib.hid ⟨HR.out.below bb, hf1, HT.out.below bb, below_step BM.out BM.out.size bb, by omega, by omega⟩
  have F1 : Hid (IsF (wa.alloc (.cells #[.bool t1, .slice B1 m1 d1, .slice B1' m1' d1'] 60)) (.agg #[.bool t1, .slice B1 m1 d1, .slice B1' m1' d1']) q) := Lib.hid (by rw [← HQ.out]; exact (f1.out rfl).below (below_alloc _ _))
  obtain ⟨w2, hw2⟩ : ∃ w2, wa.alloc (.cells #[.bool t1, .slice B1 m1 d1, .slice B1' m1' d1'] 60) = w2 := ⟨_, rfl⟩
  obtain ⟨gf, hgf⟩ : ∃ gf, wa.heap.size = gf := ⟨_, rfl⟩
  clear x1 x2 x3 ba bb f1 hf1 szw HR BM HX H1 HT
  go_upto_region 2 with (fail)
  rw [hw2] at TA F1
  try rw [hw2]
  rw [hgf] at TA
  try rw [hgf]
  clear hw2 hgf
  obtain ⟨y1, y2, y3, _⟩ := TA.out.box.cells
  go_wp2_with fail
  refine (Calls.partsF (fGrid q p up (Nat.le_trans HP.out (by omega)) _ _ F1.out (fit_Wq HF.out (by omega)) TA.out.tab)).mono ?_
  rw [HR2.out]
  rintro e wb ⟨t2, B2, m2, d2, B2', m2', d2', rfl, i1, bb⟩
  replace TA := Lib.hid (TA.out.below bb)
  clear bb
  go_wp2_with fail
  refine (giveF _ _ _ i1.out).mono ?_
  rintro e we ⟨s9, A9, n9, c9, A9', n9', c9', k9, rfl, h9, b9⟩
  replace TA := Lib.hid (TA.out.below b9)
  obtain ⟨z1, z2, z3, hz1, hz2, hz3, k1, k2, k3⟩ := TA.out.res.cells
  obtain ⟨q0, q1, q2, hs, hb⟩ := OutIs.stored h9 TA.out.res TA.out.bel TA.out.n3
  have Q := Lib.hid (And.intro q0 (And.intro q1 q2))
  have HS := Lib.hid hs
  have HBB := Lib.hid hb
  clear q0 q1 q2 hs hb h9 b9
  go_wp2
  obtain ⟨q0, q1, q2⟩ := Q.out
  refine bodyPost_ret (v := .tuple #[.agg #[.bool s9, .slice A9 n9 c9, .slice A9' n9' c9'], .int .i64 k9]) (by simp [results, Tryd.results103, go_sem, q0, q1, q2]) rfl ?_
  rw [← HO.out]
  exact ⟨_, _, _, _, _, _, _, _, rfl, HS.out, HBB.out⟩
theorem nround (s1 : Bool) (N1' D1' : Nat) (p : Int) (up : Bool) (w : World) (v1 : Value) (h1 : RawV w v1 s1 N1' D1') (hT : Tab w) :
    Calls Tryd.prog 103 #[v1, .int .i64 p, .bool up] w (OutPost w (gridOut (largeB s1 N1' D1') p up (ratOf s1 N1' D1'))) := by
  unfold gridOut
  by_cases h : largeB s1 N1' D1' = true
  · rw [if_pos h]; exact nround_large s1 N1' D1' p up w v1 h1 hT _ rfl h
  · rw [if_neg h]
    have h' : largeB s1 N1' D1' = false := by simpa using h
    by_cases hn : p < 0
    · rw [if_pos (Or.inl hn)]; exact nround_neg s1 N1' D1' p hn up w v1 h1 hT _ rfl h'
    · by_cases hb : 256 < p
      · rw [if_pos (Or.inr hb)]; exact nround_big s1 N1' D1' p hb up w v1 h1 hT _ rfl h'
      · rw [if_neg (by omega)]
        obtain ⟨k, rfl⟩ : ∃ k : Nat, p = (k : Int) := ⟨p.toNat, by omega⟩
        rw [Int.toNat_natCast]
        exact nround_ok s1 N1' D1' k (by omega) up _ rfl w v1 h1 hT _ rfl h'
set_option maxHeartbeats 1000000 in
set_option maxRecDepth 100000 in
theorem nDown (s1 : Bool) (N1 D1 : Nat) (p : Int) (w : World) (v1 : Value) (h1 : RawV w v1 s1 N1 D1) (hT : Tab w) :
    Calls Tryd.prog 51 #[v1, .int .i64 p] w (OutPost w (gridOut (largeB s1 N1 D1) p false (ratOf s1 N1 D1))) := by
  have H1 := Lib.hid h1
  have HT := Lib.hid hT
  obtain ⟨A1, n1, c1, A1', n1', c1', rfl⟩ := h1.shape
  clear h1 hT
  obtain ⟨M, hM, k1, k3, bM⟩ := start1 w (.bool s1) (.slice A1 n1 c1) (.slice A1' n1' c1') (.bool false) (.slice none 0 0) (.slice none 0 0) 24 24
  have HX := Lib.hid k1
  have HR := Lib.hid (show Res M (w.heap.size + 1) 24 from ⟨_, _, _, NI.bool _, NI.slice _ _ _, NI.slice _ _ _, k3⟩)
  have BM := Lib.hid bM
  replace H1 := Lib.hid (H1.out.below bM)
  replace HT := Lib.hid (HT.out.below bM)
  have C := Lib.hid (nround s1 N1 D1 p false M _ H1.out HT.out)
  obtain ⟨o, ho⟩ : ∃ o, gridOut (largeB s1 N1 D1) p false (ratOf s1 N1 D1) = o := ⟨_, rfl⟩
  rw [ho] at C
  rw [ho]
  clear k1 k3 bM ho
  go_enter Tryd.func51, Tryd.ntmps51
  go_upto_region 1 with (fail)
  rw [← hM]
  clear hM
  obtain ⟨x1, x2, x3, _, _, _⟩ := HX.out.cells
  go_wp2_with fail
  refine C.out.mono ?_
  rintro e we ⟨s9, A9, n9, c9, A9', n9', c9', k9, rfl, h9, b9⟩
  replace HR := Lib.hid (HR.out.below b9)
  have BE := Lib.hid (below_step BM.out BM.out.size b9)
  obtain ⟨q0, q1, q2, hs, hb⟩ := OutIs.stored h9 HR.out BE.out (by omega)
  have Q := Lib.hid (And.intro q0 (And.intro q1 q2))
  have HS := Lib.hid hs
  have HB := Lib.hid hb
  clear b9 h9 q0 q1 q2 hs hb x1 x2 x3
  obtain ⟨r1, r2, r3, hr1, hr2, hr3, _, _, _⟩ := HR.out.cells
  go_wp2_with fail
  obtain ⟨q0, q1, q2⟩ := Q.out
  refine bodyPost_ret (v := .tuple #[.agg #[.bool s9, .slice A9 n9 c9, .slice A9' n9' c9'], .int .i64 k9]) (by simp [results, Tryd.results51, go_sem, q0, q1, q2]) rfl ?_
  exact ⟨_, _, _, _, _, _, _, _, rfl, HS.out, HB.out⟩
set_option maxHeartbeats 1000000 in
set_option maxRecDepth 100000 in
theorem nUp (s1 : Bool) (N1 D1 : Nat) (p : Int) (w : World) (v1 : Value) (h1 : RawV w v1 s1 N1 D1) (hT : Tab w) :
    Calls Tryd.prog 52 #[v1, .int .i64 p] w (OutPost w (gridOut (largeB s1 N1 D1) p true (ratOf s1 N1 D1))) := by
  have H1 := Lib.hid h1
  have HT := Lib.hid hT
  obtain ⟨A1, n1, c1, A1', n1', c1', rfl⟩ := h1.shape
  clear h1 hT
  obtain ⟨M, hM, k1, k3, bM⟩ := start1 w (.bool s1) (.slice A1 n1 c1) (.slice A1' n1' c1') (.bool false) (.slice none 0 0) (.slice none 0 0) 24 24
  have HX := Lib.hid k1
  have HR := Lib.hid (show Res M (w.heap.size + 1) 24 from ⟨_, _, _, NI.bool _, NI.slice _ _ _, NI.slice _ _ _, k3⟩)
  have BM := Lib.hid bM
  replace H1 := Lib.hid (H1.out.below bM)
  replace HT := Lib.hid (HT.out.below bM)
  have C := Lib.hid (nround s1 N1 D1 p true M _ H1.out HT.out)
  obtain ⟨o, ho⟩ : ∃ o, gridOut (largeB s1 N1 D1) p true (ratOf s1 N1 D1) = o := ⟨_, rfl⟩
  rw [ho] at C
  rw [ho]
  clear k1 k3 bM ho
  go_enter Tryd.func52, Tryd.ntmps52
  go_upto_region 1 with (fail)
  rw [← hM]
  clear hM
  obtain ⟨x1, x2, x3, _, _, _⟩ := HX.out.cells
  go_wp2_with fail
  refine C.out.mono ?_
  rintro e we ⟨s9, A9, n9, c9, A9', n9', c9', k9, rfl, h9, b9⟩
  replace HR := Lib.hid (HR.out.below b9)
  have BE := Lib.hid (below_step BM.out BM.out.size b9)
  obtain ⟨q0, q1, q2, hs, hb⟩ := OutIs.stored h9 HR.out BE.out (by omega)
  have Q := Lib.hid (And.intro q0 (And.intro q1 q2))
  have HS := Lib.hid hs
  have HB := Lib.hid hb
  clear b9 h9 q0 q1 q2 hs hb x1 x2 x3
  obtain ⟨r1, r2, r3, hr1, hr2, hr3, _, _, _⟩ := HR.out.cells
  go_wp2_with fail
  obtain ⟨q0, q1, q2⟩ := Q.out
  refine bodyPost_ret (v := .tuple #[.agg #[.bool s9, .slice A9 n9 c9, .slice A9' n9' c9'], .int .i64 k9]) (by simp [results, Tryd.results52, go_sem, q0, q1, q2]) rfl ?_
  exact ⟨_, _, _, _, _, _, _, _, rfl, HS.out, HB.out⟩
end Go.Proofs.YtfmhplcpejmkhaaDoor

namespace Go.Proofs.YtfmhplcpejmkhaaDoor
open Go.RowKit Dig
set_option linter.unusedVariables false
set_option linter.unusedSimpArgs false
/-- two values that have been read, and a variable for a result -/
structure N2 (w M : World) (g3 gf gg : Nat) (s1 : Bool) (A1 : Option Addr) (n1 c1 : Nat) (B1 : Option Addr) (m1 d1 : Nat) (a : Rat) (s2 : Bool) (A2 : Option Addr) (n2 c2 : Nat) (B2 : Option Addr) (m2 d2 : Nat) (b : Rat) : Prop where
  res : Res M g3 24
  f : Box M gf (.bool s1) (.slice A1 n1 c1) (.slice B1 m1 d1) 60
  g : Box M gg (.bool s2) (.slice A2 n2 c2) (.slice B2 m2 d2) 60
  fa : IsF M (.agg #[.bool s1, .slice A1 n1 c1, .slice B1 m1 d1]) a
  fb : IsF M (.agg #[.bool s2, .slice A2 n2 c2, .slice B2 m2 d2]) b
  tab : Tab M
  bel : Below w.heap.size w M
  n3 : w.heap.size ≤ g3
  n1 : gf ≠ g3
  n2 : gg ≠ g3
  n4 : g3 ≠ 0
theorem IsF.grown {w w' : World} {v : Value} {q : Rat} {g : Nat} {x y z : Value} {t : TypeId} (h : IsF w v q) (hb : Box w g x y z t) (hx : NI x) (hy : NI y) (hz : NI z) (hg : w.grownBy w' (some g)) : IsF w' v q := by
  obtain ⟨A1, c1, A2, c2, e, r1, r2⟩ := h
  exact ⟨A1, c1, A2, c2, e, r1.grown_box hb hx hy hz hg, r2.grown_box hb hx hy hz hg⟩
section
variable {w M M' : World} {g3 gf gg : Nat} {s1 : Bool} {A1 : Option Addr} {n1 c1 : Nat} {B1 : Option Addr} {m1 d1 : Nat} {a : Rat} {s2 : Bool} {A2 : Option Addr} {n2 c2 : Nat} {B2 : Option Addr} {m2 d2 : Nat} {b : Rat}
theorem N2.below (h : N2 w M g3 gf gg s1 A1 n1 c1 B1 m1 d1 a s2 A2 n2 c2 B2 m2 d2 b) (hb : Below M.heap.size M M') : N2 w M' g3 gf gg s1 A1 n1 c1 B1 m1 d1 a s2 A2 n2 c2 B2 m2 d2 b :=
  ⟨h.res.below hb, h.f.below hb, h.g.below hb, h.fa.below hb, h.fb.below hb, h.tab.below hb, below_step h.bel h.bel.size hb, h.n3, h.n1, h.n2, h.n4⟩
theorem N2.drew (h : N2 w M g3 gf gg s1 A1 n1 c1 B1 m1 d1 a s2 A2 n2 c2 B2 m2 d2 b) : N2 w M.drew g3 gf gg s1 A1 n1 c1 B1 m1 d1 a s2 A2 n2 c2 B2 m2 d2 b := h.below (Below.refl _ _).drew
theorem N2.grown (h : N2 w M g3 gf gg s1 A1 n1 c1 B1 m1 d1 a s2 A2 n2 c2 B2 m2 d2 b) {x y z : Value} (hx : NI x) (hy : NI y) (hz : NI z) : N2 w (((M.setCell ⟨g3, 0, none⟩ x).setCell ⟨g3, 1, none⟩ y).setCell ⟨g3, 2, none⟩ z) g3 gf gg s1 A1 n1 c1 B1 m1 d1 a s2 A2 n2 c2 B2 m2 d2 b := by
  have hg := grown_set3 M g3 x y z
  obtain ⟨x', y', z', hx', hy', hz', h4⟩ := h.res
  exact ⟨h.res.set3 hx hy hz, (hg.block gf h.f.lt (fun e => h.n1 (Option.some.inj e))).trans h.f, (hg.block gg h.g.lt (fun e => h.n2 (Option.some.inj e))).trans h.g, h.fa.grown h4 hx' hy' hz' hg, h.fb.grown h4 hx' hy' hz' hg, h.tab.grown hg h.n4, below_set3 h.bel h.n3 _ _ _, h.n3, h.n1, h.n2, h.n4⟩
theorem N2.cells (h : N2 w M g3 gf gg s1 A1 n1 c1 B1 m1 d1 a s2 A2 n2 c2 B2 m2 d2 b) : (World.cell? M ⟨gf, 0, none⟩ = some (.bool s1) ∧ World.cell? M ⟨gf, 1, none⟩ = some (.slice A1 n1 c1) ∧ World.cell? M ⟨gf, 2, none⟩ = some (.slice B1 m1 d1) ∧ World.cell? M ⟨gg, 0, none⟩ = some (.bool s2) ∧ World.cell? M ⟨gg, 1, none⟩ = some (.slice A2 n2 c2) ∧ World.cell? M ⟨gg, 2, none⟩ = some (.slice B2 m2 d2) ∧ Hid (N2 w M g3 gf gg s1 A1 n1 c1 B1 m1 d1 a s2 A2 n2 c2 B2 m2 d2 b)) := by
  obtain ⟨a1, a2, a3, _, _, _⟩ := h.f.cells
  obtain ⟨b1, b2, b3, _, _, _⟩ := h.g.cells
  exact ⟨a1, a2, a3, b1, b2, b3, h⟩
theorem N2.of (h : (World.cell? M ⟨gf, 0, none⟩ = some (.bool s1) ∧ World.cell? M ⟨gf, 1, none⟩ = some (.slice A1 n1 c1) ∧ World.cell? M ⟨gf, 2, none⟩ = some (.slice B1 m1 d1) ∧ World.cell? M ⟨gg, 0, none⟩ = some (.bool s2) ∧ World.cell? M ⟨gg, 1, none⟩ = some (.slice A2 n2 c2) ∧ World.cell? M ⟨gg, 2, none⟩ = some (.slice B2 m2 d2) ∧ Hid (N2 w M g3 gf gg s1 A1 n1 c1 B1 m1 d1 a s2 A2 n2 c2 B2 m2 d2 b))) : N2 w M g3 gf gg s1 A1 n1 c1 B1 m1 d1 a s2 A2 n2 c2 B2 m2 d2 b := h.2.2.2.2.2.2.out
theorem N2.next (h : (World.cell? M ⟨gf, 0, none⟩ = some (.bool s1) ∧ World.cell? M ⟨gf, 1, none⟩ = some (.slice A1 n1 c1) ∧ World.cell? M ⟨gf, 2, none⟩ = some (.slice B1 m1 d1) ∧ World.cell? M ⟨gg, 0, none⟩ = some (.bool s2) ∧ World.cell? M ⟨gg, 1, none⟩ = some (.slice A2 n2 c2) ∧ World.cell? M ⟨gg, 2, none⟩ = some (.slice B2 m2 d2) ∧ Hid (N2 w M g3 gf gg s1 A1 n1 c1 B1 m1 d1 a s2 A2 n2 c2 B2 m2 d2 b))) (hb : Below M.heap.size M M') : (World.cell? M' ⟨gf, 0, none⟩ = some (.bool s1) ∧ World.cell? M' ⟨gf, 1, none⟩ = some (.slice A1 n1 c1) ∧ World.cell? M' ⟨gf, 2, none⟩ = some (.slice B1 m1 d1) ∧ World.cell? M' ⟨gg, 0, none⟩ = some (.bool s2) ∧ World.cell? M' ⟨gg, 1, none⟩ = some (.slice A2 n2 c2) ∧ World.cell? M' ⟨gg, 2, none⟩ = some (.slice B2 m2 d2) ∧ Hid (N2 w M' g3 gf gg s1 A1 n1 c1 B1 m1 d1 a s2 A2 n2 c2 B2 m2 d2 b)) := ((N2.of h).below hb).cells
theorem N2.nextS (h : (World.cell? M ⟨gf, 0, none⟩ = some (.bool s1) ∧ World.cell? M ⟨gf, 1, none⟩ = some (.slice A1 n1 c1) ∧ World.cell? M ⟨gf, 2, none⟩ = some (.slice B1 m1 d1) ∧ World.cell? M ⟨gg, 0, none⟩ = some (.bool s2) ∧ World.cell? M ⟨gg, 1, none⟩ = some (.slice A2 n2 c2) ∧ World.cell? M ⟨gg, 2, none⟩ = some (.slice B2 m2 d2) ∧ Hid (N2 w M g3 gf gg s1 A1 n1 c1 B1 m1 d1 a s2 A2 n2 c2 B2 m2 d2 b))) {x : Bool} {B C : Option Addr} {k k' c c' : Nat} : (World.cell? (((M.setCell ⟨g3, 0, none⟩ (.bool x)).setCell ⟨g3, 1, none⟩ (.slice B k k')).setCell ⟨g3, 2, none⟩ (.slice C c c')) ⟨gf, 0, none⟩ = some (.bool s1) ∧ World.cell? (((M.setCell ⟨g3, 0, none⟩ (.bool x)).setCell ⟨g3, 1, none⟩ (.slice B k k')).setCell ⟨g3, 2, none⟩ (.slice C c c')) ⟨gf, 1, none⟩ = some (.slice A1 n1 c1) ∧ World.cell? (((M.setCell ⟨g3, 0, none⟩ (.bool x)).setCell ⟨g3, 1, none⟩ (.slice B k k')).setCell ⟨g3, 2, none⟩ (.slice C c c')) ⟨gf, 2, none⟩ = some (.slice B1 m1 d1) ∧ World.cell? (((M.setCell ⟨g3, 0, none⟩ (.bool x)).setCell ⟨g3, 1, none⟩ (.slice B k k')).setCell ⟨g3, 2, none⟩ (.slice C c c')) ⟨gg, 0, none⟩ = some (.bool s2) ∧ World.cell? (((M.setCell ⟨g3, 0, none⟩ (.bool x)).setCell ⟨g3, 1, none⟩ (.slice B k k')).setCell ⟨g3, 2, none⟩ (.slice C c c')) ⟨gg, 1, none⟩ = some (.slice A2 n2 c2) ∧ World.cell? (((M.setCell ⟨g3, 0, none⟩ (.bool x)).setCell ⟨g3, 1, none⟩ (.slice B k k')).setCell ⟨g3, 2, none⟩ (.slice C c c')) ⟨gg, 2, none⟩ = some (.slice B2 m2 d2) ∧ Hid (N2 w (((M.setCell ⟨g3, 0, none⟩ (.bool x)).setCell ⟨g3, 1, none⟩ (.slice B k k')).setCell ⟨g3, 2, none⟩ (.slice C c c')) g3 gf gg s1 A1 n1 c1 B1 m1 d1 a s2 A2 n2 c2 B2 m2 d2 b)) :=
  ((N2.of h).grown (NI.bool _) (NI.slice _ _ _) (NI.slice _ _ _)).cells
end
/-- how two rational numbers compare -/
def cmpQ (a b : Rat) : Int := sgnI (ng (a - b)) (a - b).num.natAbs
theorem sgnI_mk (n : Int) (d : Nat) (hd : d ≠ 0) : sgnI (ng (mkRat n d)) (mkRat n d).num.natAbs = cmpZ n 0 := by
  obtain ⟨s, k, rfl, hs⟩ : ∃ s k, n = sg s k ∧ (s = true → k ≠ 0) := ⟨decide (n < 0), n.natAbs, by unfold sg; by_cases h : n < 0 <;> simp [h] <;> omega, by intro h; simp at h; omega⟩
  by_cases hk : k = 0
  · subst hk
    rw [mk_zero, sg_zero]
    decide
  · rw [mk_sign s hd hk, mk_abs s k hd]
    have := div_gcd_pos (d := d) hk
    unfold sgnI cmpZ sg
    rw [if_neg (by omega)]
    cases s
    · have h1 : ¬ ((k : Int) < 0) := by omega
      have h2 : ¬ ((k : Int) = 0) := by omega
      simp [h1, hk]
    · rw [if_pos rfl, if_pos]
      simp
      omega
theorem cmpZ_Q (a b : Rat) : cmpZ (sg (ng a) a.num.natAbs * b.den) (sg (ng b) b.num.natAbs * a.den) = cmpQ a b := by
  unfold cmpQ
  have e : a - b = mkRat (a.num * b.den - b.num * a.den) (a.den * b.den) := by
    rw [Rat.sub_eq_add_neg, Rat.add_def', Rat.neg_num, Rat.neg_den]
    congr 1
    grind
  rw [e, sgnI_mk _ _ (Nat.mul_ne_zero a.den_nz b.den_nz), sg_ng, sg_ng]
  unfold cmpZ
  split <;> split <;> (try split) <;> (try split) <;> omega
theorem inv_facts {b : Rat} (h : b ≠ 0) : ng b⁻¹ = ng b ∧ b⁻¹.num.natAbs = b.den ∧ b⁻¹.den = b.num.natAbs := by
  have hn : b.num.natAbs ≠ 0 := by
    have : b.num ≠ 0 := fun h0 => h (Rat.num_eq_zero.1 h0)
    omega
  have e := rat_div 1 b h
  rw [Rat.div_def, Rat.one_mul] at e
  have e1 : mkRat (sg (ng b) b.den) b.num.natAbs = b⁻¹ := by
    rw [← e]
    have h1 : ng (1 : Rat) = false := by decide
    have h2 : (1 : Rat).num.natAbs = 1 := by decide
    have h3 : (1 : Rat).den = 1 := by decide
    rw [h1, h2, h3, Nat.one_mul, Nat.one_mul]
    cases ng b <;> rfl
  have hc : Nat.gcd b.den b.num.natAbs = 1 := by rw [Nat.gcd_comm]; exact b.reduced
  rw [← e1, mk_sign _ hn b.den_nz, mk_abs _ _ hn, mk_den _ _ hn, hc, Nat.div_one, Nat.div_one]
  exact ⟨rfl, rfl, rfl⟩
theorem fCmp (a b : Rat) (w : World) (v1 v2 : Value) (h1 : IsF w v1 a) (h2 : IsF w v2 b) (k1 : Wq 400000 a) (k2 : Wq 400000 b) :
    Calls Tryd.prog 97 #[v1, v2] w fun e w' => e = .returned (.int .i64 (cmpQ a b)) ∧ Below w.heap.size w w' := by
  obtain ⟨A1, c1, A2, c2, rfl, r1, r2⟩ := h1
  obtain ⟨A3, c3, A4, c4, rfl, r3, r4⟩ := h2
  have := fracCmp (ng a) a.num.natAbs a.den (ng b) b.num.natAbs b.den w _ _ _ _ _ _ _ _ r1 r2 r3 r4 k1.1 k1.2 k2.1 k2.2 a.den_nz b.den_nz
  rwa [cmpZ_Q] at this
theorem fInv (b : Rat) (w : World) (v : Value) (h : IsF w v b) (hb : b ≠ 0) :
    Calls Tryd.prog 88 #[v] w fun e w' => ∃ u, e = .returned u ∧ IsF w' u b⁻¹ ∧ Below w.heap.size w w' := by
  obtain ⟨A1, c1, A2, c2, rfl, r1, r2⟩ := h
  obtain ⟨e1, e2, e3⟩ := inv_facts hb
  refine (fracInverse _ _ _ w _ _ _ _).mono ?_
  rintro e w' ⟨rfl, hl⟩
  exact ⟨_, rfl, by unfold IsF; rw [e1, e2, e3]; exact ⟨_, _, _, _, rfl, r2.below hl, r1.below hl⟩, hl⟩
theorem inv_Wq {b : Rat} {k : Nat} (h : b ≠ 0) (hk : Wq k b) : Wq k b⁻¹ := by
  obtain ⟨_, e2, e3⟩ := inv_facts h
  unfold Wq
  rw [e2, e3]
  exact ⟨hk.2, hk.1⟩
end Go.Proofs.YtfmhplcpejmkhaaDoor

namespace Go.Proofs.YtfmhplcpejmkhaaDoor
open Go.RowKit Dig
set_option linter.unusedVariables false
set_option linter.unusedSimpArgs false
theorem sgn_eq (x : Rat) : sgnI (ng x) x.num.natAbs = if x < 0 then -1 else if x = 0 then 0 else 1 := by
  unfold sgnI ng
  by_cases h0 : x = 0
  · subst h0
    decide
  · have hn : x.num ≠ 0 := fun h => h0 (Rat.num_eq_zero.1 h)
    rw [if_neg (by omega), if_neg h0]
    by_cases hl : x < 0
    · have h1 : ¬ (0 ≤ x) := by grind
      rw [← Rat.num_nonneg] at h1
      have : x.num < 0 := by omega
      rw [if_pos (by simpa using this), if_pos hl]
    · have h1 : 0 ≤ x := by grind
      rw [← Rat.num_nonneg] at h1
      have : ¬ x.num < 0 := by omega
      rw [if_neg (by simpa using this), if_neg hl]
theorem cmp_lt {a b : Rat} (h : a < b) : cmpQ a b = -1 := by
  unfold cmpQ
  rw [sgn_eq, if_pos (by grind)]
theorem cmp_eq {a b : Rat} (h : a = b) : cmpQ a b = 0 := by
  unfold cmpQ
  rw [sgn_eq, if_neg (by grind), if_pos (by grind)]
theorem cmp_gt {a b : Rat} (h : b < a) : cmpQ a b = 1 := by
  unfold cmpQ
  rw [sgn_eq, if_neg (by grind), if_neg (by grind)]
theorem cmp_cases (a b : Rat) : (a < b ∧ cmpQ a b = -1) ∨ (a = b ∧ cmpQ a b = 0) ∨ (b < a ∧ cmpQ a b = 1) := by
  by_cases h : a < b
  · exact Or.inl ⟨h, cmp_lt h⟩
  · by_cases h2 : a = b
    · exact Or.inr (Or.inl ⟨h2, cmp_eq h2⟩)
    · have h3 : b < a := by grind
      exact Or.inr (Or.inr ⟨h3, cmp_gt h3⟩)
theorem cmp_swap (a b : Rat) : cmpQ b a = -cmpQ a b := by
  rcases cmp_cases a b with ⟨h, e⟩ | ⟨h, e⟩ | ⟨h, e⟩
  · rw [e, cmp_gt h]; rfl
  · rw [e, cmp_eq h.symm]; rfl
  · rw [e, cmp_lt h]
theorem cmp_add (a b c : Rat) : cmpQ (a + c) (b + c) = cmpQ a b := by
  unfold cmpQ
  have : a + c - (b + c) = a - b := by grind
  rw [this]
theorem cmp_trans (x y z : Rat) : (cmpQ x y = cmpQ y z → cmpQ x z = cmpQ x y) ∧ (cmpQ x y = 0 → cmpQ x z = cmpQ y z) ∧ (cmpQ y z = 0 → cmpQ x z = cmpQ x y) := by
  rcases cmp_cases x y with ⟨h, e⟩ | ⟨h, e⟩ | ⟨h, e⟩ <;> rcases cmp_cases y z with ⟨h2, e2⟩ | ⟨h2, e2⟩ | ⟨h2, e2⟩ <;> rw [e, e2]
  · have h3 : x < z := by grind
    rw [cmp_lt h3]; decide
  · subst h2; rw [e]; decide
  · refine ⟨fun h => ?_, fun h => ?_, fun h => ?_⟩ <;> exact absurd h (by decide)
  · subst h; rw [e2]; decide
  · subst h h2; rw [cmp_eq rfl]; decide
  · subst h; rw [e2]; decide
  · refine ⟨fun h => ?_, fun h => ?_, fun h => ?_⟩ <;> exact absurd h (by decide)
  · subst h2; rw [e]; decide
  · have h3 : z < x := by grind
    rw [cmp_gt h3]; decide
end Go.Proofs.YtfmhplcpejmkhaaDoor

namespace Go.Proofs.YtfmhplcpejmkhaaDoor
open Go.RowKit Dig
set_option linter.unusedVariables false
set_option linter.unusedSimpArgs false
set_option maxHeartbeats 2000000 in
set_option maxRecDepth 100000 in
theorem nCompare_true_true (s1 : Bool) (X1 Y1 : Nat) (s2 : Bool) (X2 Y2 : Nat)  (w : World) (v1 v2 : Value) (h1 : RawV w v1 s1 X1 Y1) (h2 : RawV w v2 s2 X2 Y2) (hT : Tab w) (a b : Rat) (ha : ratOf s1 X1 Y1 = a) (hb : ratOf s2 X2 Y2 = b) (hL1 : largeB s1 X1 Y1 = true) (hL2 : largeB s2 X2 Y2 = true) :
    Calls Tryd.prog 46 #[v1, v2] w (fun e w' => e = .returned (.tuple #[.int .i64 0, .int .i64 1]) ∧ Below w.heap.size w w') := by
  have H1 := Lib.hid h1
  have H2 := Lib.hid h2
  have HT := Lib.hid hT
  obtain ⟨A1, n1, c1, A1', n1', c1', rfl⟩ := h1.shape
  obtain ⟨A2, n2, c2, A2', n2', c2', rfl⟩ := h2.shape
  clear h1 h2 hT
  obtain ⟨M, hM, k1, k2, bM⟩ := start1 w (.bool s1) (.slice A1 n1 c1) (.slice A1' n1' c1') (.bool s2) (.slice A2 n2 c2) (.slice A2' n2' c2') 24 24
  have HR := Lib.hid True.intro
  have HX := Lib.hid k1
  have HY := Lib.hid k2
  have BM := Lib.hid bM
  replace H1 := Lib.hid (H1.out.below bM)
  replace H2 := Lib.hid (H2.out.below bM)
  replace HT := Lib.hid (HT.out.below bM)
  have HA := Lib.hid ha
  have HB := Lib.hid hb
  have HL1 := Lib.hid hL1
  have HL2 := Lib.hid hL2
  clear ha hb hL1 hL2 k1 k2 bM
  go_enter Tryd.func46, Tryd.ntmps46
  go_upto_region 1 with (fail)
  rw [← hM]
  clear hM
  obtain ⟨x1, x2, x3, _, _, _⟩ := HX.out.cells
  go_wp2_with fail
  refine (readV _ s1 X1 Y1 _ H1.out HT.out).mono ?_
  rw [HL1.out, Bool.not_true]
  rintro e wa ⟨t1, B1, m1, d1, B1', m1', d1', rfl, f1, ba⟩
  have bb := below_step ba ba.size (below_alloc wa (.cells #[.bool t1, .slice B1 m1 d1, .slice B1' m1' d1'] 60))
  have HF1 := Lib.hid (Box.new wa (.bool t1) (.slice B1 m1 d1) (.slice B1' m1' d1') 60)
  have F1 : Hid (largeB s1 X1 Y1 = false → IsF (wa.alloc (.cells #[.bool t1, .slice B1 m1 d1, .slice B1' m1' d1'] 60)) (.agg #[.bool t1, .slice B1 m1 d1, .slice B1' m1' d1']) (ratOf s1 X1 Y1)) := Lib.hid (fun h => absurd (HL1.out.symm.trans h) (by simp))
  have hsz : w.heap.size + 1 < wa.heap.size := Nat.lt_of_lt_of_le (HY.out.lt) ba.size
  replace HX := Lib.hid (HX.out.below bb)
  replace HY := Lib.hid (HY.out.below bb)
  replace H2 := Lib.hid (H2.out.below bb)
  replace HT := Lib.hid (HT.out.below bb)
  have BM := Lib.hid (below_step BM.out BM.out.size bb)
  obtain ⟨w1, hw1⟩ : ∃ w1, wa.alloc (.cells #[.bool t1, .slice B1 m1 d1, .slice B1' m1' d1'] 60) = w1 := ⟨_, rfl⟩
  have hs1 : w1.heap.size = wa.heap.size + 1 := by rw [← hw1]; simp
  have HS1 := Lib.hid hs1
  have HSZ := Lib.hid hsz
  clear x1 x2 x3 ba bb f1 hs1 hsz
  go_upto_region 2 with (fail)
  rw [hw1] at HX HY H2 HT BM HF1 F1
  try rw [hw1]
  clear hw1
  obtain ⟨y1, y2, y3, _, _, _⟩ := HY.out.cells
  go_wp2_with fail
  refine (readV _ s2 X2 Y2 _ H2.out HT.out).mono ?_
  rw [HL2.out, Bool.not_true]
  rintro e wc ⟨t2, B2, m2, d2, B2', m2', d2', rfl, f2, bc⟩
  have bd := below_step bc bc.size (below_alloc wc (.cells #[.bool t2, .slice B2 m2 d2, .slice B2' m2' d2'] 60))
  have HF2 := Lib.hid (Box.new wc (.bool t2) (.slice B2 m2 d2) (.slice B2' m2' d2') 60)
  have F2 : Hid (largeB s2 X2 Y2 = false → IsF (wc.alloc (.cells #[.bool t2, .slice B2 m2 d2, .slice B2' m2' d2'] 60)) (.agg #[.bool t2, .slice B2 m2 d2, .slice B2' m2' d2']) (ratOf s2 X2 Y2)) := Lib.hid (fun h => absurd (HL2.out.symm.trans h) (by simp))
  have F1 : Hid (largeB s1 X1 Y1 = false → IsF (wc.alloc (.cells #[.bool t2, .slice B2 m2 d2, .slice B2' m2' d2'] 60)) (.agg #[.bool t1, .slice B1 m1 d1, .slice B1' m1' d1']) (ratOf s1 X1 Y1)) := Lib.hid (fun h => (F1.out h).below bd)
  have hsz2 : wa.heap.size + 1 ≤ wc.heap.size := by have := bc.size; have := HS1.out; omega
  replace HF1 := Lib.hid (HF1.out.below bd)
  replace HT := Lib.hid (HT.out.below bd)
  have BM := Lib.hid (below_step BM.out BM.out.size bd)
  have HSZ2 := Lib.hid hsz2
  obtain ⟨w2, hw2⟩ : ∃ w2, wc.alloc (.cells #[.bool t2, .slice B2 m2 d2, .slice B2' m2' d2'] 60) = w2 := ⟨_, rfl⟩
  obtain ⟨gf, hgf⟩ : ∃ g, wa.heap.size = g := ⟨_, rfl⟩
  obtain ⟨gg, hgg⟩ : ∃ g, wc.heap.size = g := ⟨_, rfl⟩
  clear y1 y2 y3 bc bd f2 HS1 hsz2 HX HY H1 H2
  go_upto_region 3 with (fail)
  rw [hw2] at HF1 HF2 HT BM F1 F2
  try rw [hw2]
  rw [hgf] at HF1 HSZ HSZ2
  rw [hgg] at HF2 HSZ2
  try rw [hgf]
  try rw [hgg]
  clear hw2 hgf hgg
  go_wp2_with fail
  refine bodyPost_ret (v := .tuple #[.int .i64 0, .int .i64 1]) (by simp [results, Tryd.results46, go_sem]) rfl ⟨rfl, BM.out⟩
set_option maxHeartbeats 2000000 in
set_option maxRecDepth 100000 in
theorem nCompare_true_false (s1 : Bool) (X1 Y1 : Nat) (s2 : Bool) (X2 Y2 : Nat)  (w : World) (v1 v2 : Value) (h1 : RawV w v1 s1 X1 Y1) (h2 : RawV w v2 s2 X2 Y2) (hT : Tab w) (a b : Rat) (ha : ratOf s1 X1 Y1 = a) (hb : ratOf s2 X2 Y2 = b) (hL1 : largeB s1 X1 Y1 = true) (hL2 : largeB s2 X2 Y2 = false) :
    Calls Tryd.prog 46 #[v1, v2] w (fun e w' => e = .returned (.tuple #[.int .i64 0, .int .i64 1]) ∧ Below w.heap.size w w') := by
  have H1 := Lib.hid h1
  have H2 := Lib.hid h2
  have HT := Lib.hid hT
  obtain ⟨A1, n1, c1, A1', n1', c1', rfl⟩ := h1.shape
  obtain ⟨A2, n2, c2, A2', n2', c2', rfl⟩ := h2.shape
  clear h1 h2 hT
  obtain ⟨M, hM, k1, k2, bM⟩ := start1 w (.bool s1) (.slice A1 n1 c1) (.slice A1' n1' c1') (.bool s2) (.slice A2 n2 c2) (.slice A2' n2' c2') 24 24
  have HR := Lib.hid True.intro
  have HX := Lib.hid k1
  have HY := Lib.hid k2
  have BM := Lib.hid bM
  replace H1 := Lib.hid (H1.out.below bM)
  replace H2 := Lib.hid (H2.out.below bM)
  replace HT := Lib.hid (HT.out.below bM)
  have HA := Lib.hid ha
  have HB := Lib.hid hb
  have HL1 := Lib.hid hL1
  have HL2 := Lib.hid hL2
  clear ha hb hL1 hL2 k1 k2 bM
  go_enter Tryd.func46, Tryd.ntmps46
  go_upto_region 1 with (fail)
  rw [← hM]
  clear hM
  obtain ⟨x1, x2, x3, _, _, _⟩ := HX.out.cells
  go_wp2_with fail
  refine (readV _ s1 X1 Y1 _ H1.out HT.out).mono ?_
  rw [HL1.out, Bool.not_true]
  rintro e wa ⟨t1, B1, m1, d1, B1', m1', d1', rfl, f1, ba⟩
  have bb := below_step ba ba.size (below_alloc wa (.cells #[.bool t1, .slice B1 m1 d1, .slice B1' m1' d1'] 60))
  have HF1 := Lib.hid (Box.new wa (.bool t1) (.slice B1 m1 d1) (.slice B1' m1' d1') 60)
  have F1 : Hid (largeB s1 X1 Y1 = false → IsF (wa.alloc (.cells #[.bool t1, .slice B1 m1 d1, .slice B1' m1' d1'] 60)) (.agg #[.bool t1, .slice B1 m1 d1, .slice B1' m1' d1']) (ratOf s1 X1 Y1)) := Lib.hid (fun h => absurd (HL1.out.symm.trans h) (by simp))
  have hsz : w.heap.size + 1 < wa.heap.size := Nat.lt_of_lt_of_le (HY.out.lt) ba.size
  replace HX := Lib.hid (HX.out.below bb)
  replace HY := Lib.hid (HY.out.below bb)
  replace H2 := Lib.hid (H2.out.below bb)
  replace HT := Lib.hid (HT.out.below bb)
  have BM := Lib.hid (below_step BM.out BM.out.size bb)
  obtain ⟨w1, hw1⟩ : ∃ w1, wa.alloc (.cells #[.bool t1, .slice B1 m1 d1, .slice B1' m1' d1'] 60) = w1 := ⟨_, rfl⟩
  have hs1 : w1.heap.size = wa.heap.size + 1 := by rw [← hw1]; simp
  have HS1 := Lib.hid hs1
  have HSZ := Lib.hid hsz
  clear x1 x2 x3 ba bb f1 hs1 hsz
  go_upto_region 2 with (fail)
  rw [hw1] at HX HY H2 HT BM HF1 F1
  try rw [hw1]
  clear hw1
  obtain ⟨y1, y2, y3, _, _, _⟩ := HY.out.cells
  go_wp2_with fail
  refine (readV _ s2 X2 Y2 _ H2.out HT.out).mono ?_
  rw [HL2.out, Bool.not_false]
  rintro e wc ⟨t2, B2, m2, d2, B2', m2', d2', rfl, f2, bc⟩
  have bd := below_step bc bc.size (below_alloc wc (.cells #[.bool t2, .slice B2 m2 d2, .slice B2' m2' d2'] 60))
  have HF2 := Lib.hid (Box.new wc (.bool t2) (.slice B2 m2 d2) (.slice B2' m2' d2') 60)
  have F2 : Hid (largeB s2 X2 Y2 = false → IsF (wc.alloc (.cells #[.bool t2, .slice B2 m2 d2, .slice B2' m2' d2'] 60)) (.agg #[.bool t2, .slice B2 m2 d2, .slice B2' m2' d2']) (ratOf s2 X2 Y2)) := Lib.hid (fun h => (f2.out rfl).below (below_alloc _ _))
  have F1 : Hid (largeB s1 X1 Y1 = false → IsF (wc.alloc (.cells #[.bool t2, .slice B2 m2 d2, .slice B2' m2' d2'] 60)) (.agg #[.bool t1, .slice B1 m1 d1, .slice B1' m1' d1']) (ratOf s1 X1 Y1)) := Lib.hid (fun h => (F1.out h).below bd)
  have hsz2 : wa.heap.size + 1 ≤ wc.heap.size := by have := bc.size; have := HS1.out; omega
  replace HF1 := Lib.hid (HF1.out.below bd)
  replace HT := Lib.hid (HT.out.below bd)
  have BM := Lib.hid (below_step BM.out BM.out.size bd)
  have HSZ2 := Lib.hid hsz2
  obtain ⟨w2, hw2⟩ : ∃ w2, wc.alloc (.cells #[.bool t2, .slice B2 m2 d2, .slice B2' m2' d2'] 60) = w2 := ⟨_, rfl⟩
  obtain ⟨gf, hgf⟩ : ∃ g, wa.heap.size = g := ⟨_, rfl⟩
  obtain ⟨gg, hgg⟩ : ∃ g, wc.heap.size = g := ⟨_, rfl⟩
  clear y1 y2 y3 bc bd f2 HS1 hsz2 HX HY H1 H2
  go_upto_region 3 with (fail)
  rw [hw2] at HF1 HF2 HT BM F1 F2
  try rw [hw2]
  rw [hgf] at HF1 HSZ HSZ2
  rw [hgg] at HF2 HSZ2
  try rw [hgf]
  try rw [hgg]
  clear hw2 hgf hgg
  go_wp2_with fail
  refine bodyPost_ret (v := .tuple #[.int .i64 0, .int .i64 1]) (by simp [results, Tryd.results46, go_sem]) rfl ⟨rfl, BM.out⟩
set_option maxHeartbeats 2000000 in
set_option maxRecDepth 100000 in
theorem nCompare_false_true (s1 : Bool) (X1 Y1 : Nat) (s2 : Bool) (X2 Y2 : Nat)  (w : World) (v1 v2 : Value) (h1 : RawV w v1 s1 X1 Y1) (h2 : RawV w v2 s2 X2 Y2) (hT : Tab w) (a b : Rat) (ha : ratOf s1 X1 Y1 = a) (hb : ratOf s2 X2 Y2 = b) (hL1 : largeB s1 X1 Y1 = false) (hL2 : largeB s2 X2 Y2 = true) :
    Calls Tryd.prog 46 #[v1, v2] w (fun e w' => e = .returned (.tuple #[.int .i64 0, .int .i64 1]) ∧ Below w.heap.size w w') := by
  have H1 := Lib.hid h1
  have H2 := Lib.hid h2
  have HT := Lib.hid hT
  obtain ⟨A1, n1, c1, A1', n1', c1', rfl⟩ := h1.shape
  obtain ⟨A2, n2, c2, A2', n2', c2', rfl⟩ := h2.shape
  clear h1 h2 hT
  obtain ⟨M, hM, k1, k2, bM⟩ := start1 w (.bool s1) (.slice A1 n1 c1) (.slice A1' n1' c1') (.bool s2) (.slice A2 n2 c2) (.slice A2' n2' c2') 24 24
  have HR := Lib.hid True.intro
  have HX := Lib.hid k1
  have HY := Lib.hid k2
  have BM := Lib.hid bM
  replace H1 := Lib.hid (H1.out.below bM)
  replace H2 := Lib.hid (H2.out.below bM)
  replace HT := Lib.hid (HT.out.below bM)
  have HA := Lib.hid ha
  have HB := Lib.hid hb
  have HL1 := Lib.hid hL1
  have HL2 := Lib.hid hL2
  clear ha hb hL1 hL2 k1 k2 bM
  go_enter Tryd.func46, Tryd.ntmps46
  go_upto_region 1 with (fail)
  rw [← hM]
  clear hM
  obtain ⟨x1, x2, x3, _, _, _⟩ := HX.out.cells
  go_wp2_with fail
  refine (readV _ s1 X1 Y1 _ H1.out HT.out).mono ?_
  rw [HL1.out, Bool.not_false]
  rintro e wa ⟨t1, B1, m1, d1, B1', m1', d1', rfl, f1, ba⟩
  have bb := below_step ba ba.size (below_alloc wa (.cells #[.bool t1, .slice B1 m1 d1, .slice B1' m1' d1'] 60))
  have HF1 := Lib.hid (Box.new wa (.bool t1) (.slice B1 m1 d1) (.slice B1' m1' d1') 60)
  have F1 : Hid (largeB s1 X1 Y1 = false → IsF (wa.alloc (.cells #[.bool t1, .slice B1 m1 d1, .slice B1' m1' d1'] 60)) (.agg #[.bool t1, .slice B1 m1 d1, .slice B1' m1' d1']) (ratOf s1 X1 Y1)) := Lib.hid (fun h => (f1.out rfl).below (below_alloc _ _))
  have hsz : w.heap.size + 1 < wa.heap.size := Nat.lt_of_lt_of_le (HY.out.lt) ba.size
  replace HX := Lib.hid (HX.out.below bb)
  replace HY := Lib.hid (HY.out.below bb)
  replace H2 := Lib.hid (H2.out.below bb)
  replace HT := Lib.hid (HT.out.below bb)
  have BM := Lib.hid (below_step BM.out BM.out.size bb)
  obtain ⟨w1, hw1⟩ : ∃ w1, wa.alloc (.cells #[.bool t1, .slice B1 m1 d1, .slice B1' m1' d1'] 60) = w1 := ⟨_, rfl⟩
  have hs1 : w1.heap.size = wa.heap.size + 1 := by rw [← hw1]; simp
  have HS1 := Lib.hid hs1
  have HSZ := Lib.hid hsz
  clear x1 x2 x3 ba bb f1 hs1 hsz
  go_upto_region 2 with (fail)
  rw [hw1] at HX HY H2 HT BM HF1 F1
  try rw [hw1]
  clear hw1
  obtain ⟨y1, y2, y3, _, _, _⟩ := HY.out.cells
  go_wp2_with fail
  refine (readV _ s2 X2 Y2 _ H2.out HT.out).mono ?_
  rw [HL2.out, Bool.not_true]
  rintro e wc ⟨t2, B2, m2, d2, B2', m2', d2', rfl, f2, bc⟩
  have bd := below_step bc bc.size (below_alloc wc (.cells #[.bool t2, .slice B2 m2 d2, .slice B2' m2' d2'] 60))
  have HF2 := Lib.hid (Box.new wc (.bool t2) (.slice B2 m2 d2) (.slice B2' m2' d2') 60)
  have F2 : Hid (largeB s2 X2 Y2 = false → IsF (wc.alloc (.cells #[.bool t2, .slice B2 m2 d2, .slice B2' m2' d2'] 60)) (.agg #[.bool t2, .slice B2 m2 d2, .slice B2' m2' d2']) (ratOf s2 X2 Y2)) := Lib.hid (fun h => absurd (HL2.out.symm.trans h) (by simp))
  have F1 : Hid (largeB s1 X1 Y1 = false → IsF (wc.alloc (.cells #[.bool t2, .slice B2 m2 d2, .slice B2' m2' d2'] 60)) (.agg #[.bool t1, .slice B1 m1 d1, .slice B1' m1' d1']) (ratOf s1 X1 Y1)) := Lib.hid (fun h => (F1.out h).below bd)
  have hsz2 : wa.heap.size + 1 ≤ wc.heap.size := by have := bc.size; have := HS1.out; omega
  replace HF1 := Lib.hid (HF1.out.below bd)
  replace HT := Lib.hid (HT.out.below bd)
  have BM := Lib.hid (below_step BM.out BM.out.size bd)
  have HSZ2 := Lib.hid hsz2
  obtain ⟨w2, hw2⟩ : ∃ w2, wc.alloc (.cells #[.bool t2, .slice B2 m2 d2, .slice B2' m2' d2'] 60) = w2 := ⟨_, rfl⟩
  obtain ⟨gf, hgf⟩ : ∃ g, wa.heap.size = g := ⟨_, rfl⟩
  obtain ⟨gg, hgg⟩ : ∃ g, wc.heap.size = g := ⟨_, rfl⟩
  clear y1 y2 y3 bc bd f2 HS1 hsz2 HX HY H1 H2
  go_upto_region 3 with (fail)
  rw [hw2] at HF1 HF2 HT BM F1 F2
  try rw [hw2]
  rw [hgf] at HF1 HSZ HSZ2
  rw [hgg] at HF2 HSZ2
  try rw [hgf]
  try rw [hgg]
  clear hw2 hgf hgg
  go_wp2_with fail
  refine bodyPost_ret (v := .tuple #[.int .i64 0, .int .i64 1]) (by simp [results, Tryd.results46, go_sem]) rfl ⟨rfl, BM.out⟩
set_option maxHeartbeats 2000000 in
set_option maxRecDepth 100000 in
theorem nCompare_fit (s1 : Bool) (X1 Y1 : Nat) (s2 : Bool) (X2 Y2 : Nat) (c : Int) (hc : cmpQ (ratOf s1 X1 Y1) (ratOf s2 X2 Y2) = c) (w : World) (v1 v2 : Value) (h1 : RawV w v1 s1 X1 Y1) (h2 : RawV w v2 s2 X2 Y2) (hT : Tab w) (a b : Rat) (ha : ratOf s1 X1 Y1 = a) (hb : ratOf s2 X2 Y2 = b) (hL1 : largeB s1 X1 Y1 = false) (hL2 : largeB s2 X2 Y2 = false) :
    Calls Tryd.prog 46 #[v1, v2] w (fun e w' => e = .returned (.tuple #[.int .i64 c, .int .i64 0]) ∧ Below w.heap.size w w') := by
  have H1 := Lib.hid h1
  have H2 := Lib.hid h2
  have HT := Lib.hid hT
  obtain ⟨A1, n1, c1, A1', n1', c1', rfl⟩ := h1.shape
  obtain ⟨A2, n2, c2, A2', n2', c2', rfl⟩ := h2.shape
  clear h1 h2 hT
  obtain ⟨M, hM, k1, k2, bM⟩ := start1 w (.bool s1) (.slice A1 n1 c1) (.slice A1' n1' c1') (.bool s2) (.slice A2 n2 c2) (.slice A2' n2' c2') 24 24
  have HR := Lib.hid True.intro
  have HX := Lib.hid k1
  have HY := Lib.hid k2
  have BM := Lib.hid bM
  replace H1 := Lib.hid (H1.out.below bM)
  replace H2 := Lib.hid (H2.out.below bM)
  replace HT := Lib.hid (HT.out.below bM)
  have HA := Lib.hid ha
  have HB := Lib.hid hb
  have HL1 := Lib.hid hL1
  have HL2 := Lib.hid hL2
  have fa := (largeB_false hL1).2.2
  have fb := (largeB_false hL2).2.2
  rw [ha] at fa
  rw [hb] at fb
  have FA := Lib.hid fa
  have FB := Lib.hid fb
  clear fa fb
  rw [ha, hb] at hc
  have HC := Lib.hid hc
  clear hc
  clear ha hb hL1 hL2 k1 k2 bM
  go_enter Tryd.func46, Tryd.ntmps46
  go_upto_region 1 with (fail)
  rw [← hM]
  clear hM
  obtain ⟨x1, x2, x3, _, _, _⟩ := HX.out.cells
  go_wp2_with fail
  refine (readV _ s1 X1 Y1 _ H1.out HT.out).mono ?_
  rw [HL1.out, Bool.not_false]
  rintro e wa ⟨t1, B1, m1, d1, B1', m1', d1', rfl, f1, ba⟩
  have bb := below_step ba ba.size (below_alloc wa (.cells #[.bool t1, .slice B1 m1 d1, .slice B1' m1' d1'] 60))
  have HF1 := Lib.hid (Box.new wa (.bool t1) (.slice B1 m1 d1) (.slice B1' m1' d1') 60)
  have F1 : Hid (largeB s1 X1 Y1 = false → IsF (wa.alloc (.cells #[.bool t1, .slice B1 m1 d1, .slice B1' m1' d1'] 60)) (.agg #[.bool t1, .slice B1 m1 d1, .slice B1' m1' d1']) (ratOf s1 X1 Y1)) := Lib.hid (fun h => (f1.out rfl).below (below_alloc _ _))
  have hsz : w.heap.size + 1 < wa.heap.size := Nat.lt_of_lt_of_le (HY.out.lt) ba.size
  replace HX := Lib.hid (HX.out.below bb)
  replace HY := Lib.hid (HY.out.below bb)
  replace H2 := Lib.hid (H2.out.below bb)
  replace HT := Lib.hid (HT.out.below bb)
  have BM := Lib.hid (below_step BM.out BM.out.size bb)
  obtain ⟨w1, hw1⟩ : ∃ w1, wa.alloc (.cells #[.bool t1, .slice B1 m1 d1, .slice B1' m1' d1'] 60) = w1 := ⟨_, rfl⟩
  have hs1 : w1.heap.size = wa.heap.size + 1 := by rw [← hw1]; simp
  have HS1 := Lib.hid hs1
  have HSZ := Lib.hid hsz
  clear x1 x2 x3 ba bb f1 hs1 hsz
  go_upto_region 2 with (fail)
  rw [hw1] at HX HY H2 HT BM HF1 F1
  try rw [hw1]
  clear hw1
  obtain ⟨y1, y2, y3, _, _, _⟩ := HY.out.cells
  go_wp2_with fail
  refine (readV _ s2 X2 Y2 _ H2.out HT.out).mono ?_
  rw [HL2.out, Bool.not_false]
  rintro e wc ⟨t2, B2, m2, d2, B2', m2', d2', rfl, f2, bc⟩
  have bd := below_step bc bc.size (below_alloc wc (.cells #[.bool t2, .slice B2 m2 d2, .slice B2' m2' d2'] 60))
  have HF2 := Lib.hid (Box.new wc (.bool t2) (.slice B2 m2 d2) (.slice B2' m2' d2') 60)
  have F2 : Hid (largeB s2 X2 Y2 = false → IsF (wc.alloc (.cells #[.bool t2, .slice B2 m2 d2, .slice B2' m2' d2'] 60)) (.agg #[.bool t2, .slice B2 m2 d2, .slice B2' m2' d2']) (ratOf s2 X2 Y2)) := Lib.hid (fun h => (f2.out rfl).below (below_alloc _ _))
  have F1 : Hid (largeB s1 X1 Y1 = false → IsF (wc.alloc (.cells #[.bool t2, .slice B2 m2 d2, .slice B2' m2' d2'] 60)) (.agg #[.bool t1, .slice B1 m1 d1, .slice B1' m1' d1']) (ratOf s1 X1 Y1)) := Lib.hid (fun h => (F1.out h).below bd)
  have hsz2 : wa.heap.size + 1 ≤ wc.heap.size := by have := bc.size; have := HS1.out; omega
  replace HF1 := Lib.hid (HF1.out.below bd)
  replace HT := Lib.hid (HT.out.below bd)
  have BM := Lib.hid (below_step BM.out BM.out.size bd)
  have HSZ2 := Lib.hid hsz2
  obtain ⟨w2, hw2⟩ : ∃ w2, wc.alloc (.cells #[.bool t2, .slice B2 m2 d2, .slice B2' m2' d2'] 60) = w2 := ⟨_, rfl⟩
  obtain ⟨gf, hgf⟩ : ∃ g, wa.heap.size = g := ⟨_, rfl⟩
  obtain ⟨gg, hgg⟩ : ∃ g, wc.heap.size = g := ⟨_, rfl⟩
  clear y1 y2 y3 bc bd f2 HS1 hsz2 HX HY H1 H2
  go_upto_region 3 with (fail)
  rw [hw2] at HF1 HF2 HT BM F1 F2
  try rw [hw2]
  rw [hgf] at HF1 HSZ HSZ2
  rw [hgg] at HF2 HSZ2
  try rw [hgf]
  try rw [hgg]
  clear hw2 hgf hgg
  have F1 := Lib.hid (F1.out HL1.out)
  have F2 := Lib.hid (F2.out HL2.out)
  rw [HA.out] at F1
  rw [HB.out] at F2
  obtain ⟨x1, x2, x3, _⟩ := HF1.out.cells
  obtain ⟨y1, y2, y3, _⟩ := HF2.out.cells
  go_wp2_with fail
  refine (fCmp a b _ _ _ F1.out F2.out (fit_Wq FA.out (by omega)) (fit_Wq FB.out (by omega))).mono ?_
  rw [HC.out]
  rintro e we ⟨rfl, be⟩
  have BM := Lib.hid (below_step BM.out BM.out.size be)
  clear be
  go_wp2_with fail
  refine bodyPost_ret (v := .tuple #[.int .i64 c, .int .i64 0]) (by simp [results, Tryd.results46, go_sem]) rfl ⟨rfl, BM.out⟩
/-- what Compare returns -/
theorem nCompare (s1 : Bool) (X1 Y1 : Nat) (s2 : Bool) (X2 Y2 : Nat) (w : World) (v1 v2 : Value) (h1 : RawV w v1 s1 X1 Y1) (h2 : RawV w v2 s2 X2 Y2) (hT : Tab w) (c k : Int) (hc : (if (largeB s1 X1 Y1 || largeB s2 X2 Y2) = true then 0 else cmpQ (ratOf s1 X1 Y1) (ratOf s2 X2 Y2)) = c) (hk : (if (largeB s1 X1 Y1 || largeB s2 X2 Y2) = true then 1 else 0) = k) :
    Calls Tryd.prog 46 #[v1, v2] w fun e w' => e = .returned (.tuple #[.int .i64 c, .int .i64 k]) ∧ Below w.heap.size w w' := by
  subst hc hk
  cases e1 : largeB s1 X1 Y1 <;> cases e2 : largeB s2 X2 Y2
  · exact nCompare_fit s1 X1 Y1 s2 X2 Y2 _ rfl w v1 v2 h1 h2 hT _ _ rfl rfl e1 e2
  · exact nCompare_false_true s1 X1 Y1 s2 X2 Y2 w v1 v2 h1 h2 hT _ _ rfl rfl e1 e2
  · exact nCompare_true_false s1 X1 Y1 s2 X2 Y2 w v1 v2 h1 h2 hT _ _ rfl rfl e1 e2
  · exact nCompare_true_true s1 X1 Y1 s2 X2 Y2 w v1 v2 h1 h2 hT _ _ rfl rfl e1 e2
end Go.Proofs.YtfmhplcpejmkhaaDoor

namespace Go.Proofs.YtfmhplcpejmkhaaDoor
open Go.RowKit Dig
set_option linter.unusedVariables false
set_option linter.unusedSimpArgs false
def valO : Out → Rat
  | .ok q => q
  | .err _ => 0
theorem fit_zero : fitQ 0 := by
  refine ⟨?_, ?_⟩
  · exact Nat.le_trans ((dig_length_le B32_two _ 2).2 (by unfold B32; decide)) (by omega : 2 ≤ 64)
  · exact Nat.le_trans ((dig_length_le B32_two _ 2).2 (by unfold B32; decide)) (by omega : 2 ≤ 64)
theorem OutIs.rawV {w : World} {o : Out} {u : Value} {k : Int} (h : OutIs w o u k) : RawV w u (ng (valO o)) (valO o).num.natAbs (dwv (valO o).den) := by
  cases o with
  | ok q => exact h.2.1.raw h.2.2
  | err j =>
    obtain ⟨_, e, _, _⟩ := h
    rw [e]
    exact ⟨none, 0, [], none, 0, [], rfl, Rd.nil _ _ _ (by omega), Rd.nil _ _ _ (by omega), (fun x hx => by cases hx), (fun x hx => by cases hx), rfl, rfl, by simp, by simp⟩
theorem OutIs.fit {w : World} {o : Out} {u : Value} {k : Int} (h : OutIs w o u k) : fitQ (valO o) := by
  cases o with
  | ok q => exact h.2.2
  | err j => exact fit_zero
theorem give_cases (q : Rat) : (give q = .ok q ∧ fitQ q) ∨ give q = .err 1 := by
  unfold give
  by_cases h : fitQ q
  · exact Or.inl ⟨if_pos h, h⟩
  · exact Or.inr (if_neg h)
end Go.Proofs.YtfmhplcpejmkhaaDoor

namespace Go.Proofs.YtfmhplcpejmkhaaDoor
open Go.RowKit Dig
set_option linter.unusedVariables false
set_option linter.unusedSimpArgs false
set_option maxHeartbeats 2000000 in
set_option maxRecDepth 100000 in
theorem nDiv_true_true (s1 : Bool) (X1 Y1 : Nat) (s2 : Bool) (X2 Y2 : Nat)  (w : World) (v1 v2 : Value) (h1 : RawV w v1 s1 X1 Y1) (h2 : RawV w v2 s2 X2 Y2) (hT : Tab w) (a b : Rat) (ha : ratOf s1 X1 Y1 = a) (hb : ratOf s2 X2 Y2 = b) (hL1 : largeB s1 X1 Y1 = true) (hL2 : largeB s2 X2 Y2 = true) :
    Calls Tryd.prog 37 #[v1, v2] w (OutPost w (Out.err 1)) := by
  have H1 := Lib.hid h1
  have H2 := Lib.hid h2
  have HT := Lib.hid hT
  obtain ⟨A1, n1, c1, A1', n1', c1', rfl⟩ := h1.shape
  obtain ⟨A2, n2, c2, A2', n2', c2', rfl⟩ := h2.shape
  clear h1 h2 hT
  obtain ⟨M, hM, k1, k2, k3, bM⟩ := start2 w (.bool s1) (.slice A1 n1 c1) (.slice A1' n1' c1') (.bool s2) (.slice A2 n2 c2) (.slice A2' n2' c2') (.bool false) (.slice none 0 0) (.slice none 0 0) 24 24 24
  have HR := Lib.hid (show Res M (w.heap.size + 1 + 1) 24 from ⟨_, _, _, NI.bool _, NI.slice _ _ _, NI.slice _ _ _, k3⟩)
  have HX := Lib.hid k1
  have HY := Lib.hid k2
  have BM := Lib.hid bM
  replace H1 := Lib.hid (H1.out.below bM)
  replace H2 := Lib.hid (H2.out.below bM)
  replace HT := Lib.hid (HT.out.below bM)
  have HA := Lib.hid ha
  have HB := Lib.hid hb
  have HL1 := Lib.hid hL1
  have HL2 := Lib.hid hL2
  clear ha hb hL1 hL2 k1 k2 k3 bM
  go_enter Tryd.func37, Tryd.ntmps37
  go_upto_region 1 with (fail)
  rw [← hM]
  clear hM
  obtain ⟨x1, x2, x3, _, _, _⟩ := HX.out.cells
  go_wp2_with fail
  refine (readV _ s1 X1 Y1 _ H1.out HT.out).mono ?_
  rw [HL1.out, Bool.not_true]
  rintro e wa ⟨t1, B1, m1, d1, B1', m1', d1', rfl, f1, ba⟩
  have bb := below_step ba ba.size (below_alloc wa (.cells #[.bool t1, .slice B1 m1 d1, .slice B1' m1' d1'] 60))
  have HF1 := Lib.hid (Box.new wa (.bool t1) (.slice B1 m1 d1) (.slice B1' m1' d1') 60)
  have F1 : Hid (largeB s1 X1 Y1 = false → IsF (wa.alloc (.cells #[.bool t1, .slice B1 m1 d1, .slice B1' m1' d1'] 60)) (.agg #[.bool t1, .slice B1 m1 d1, .slice B1' m1' d1']) (ratOf s1 X1 Y1)) := Lib.hid (fun h => absurd (HL1.out.symm.trans h) (by simp))
  have hsz : w.heap.size + 1 + 1 < wa.heap.size := Nat.lt_of_lt_of_le (by obtain ⟨_, _, _, _, _, _, hh⟩ := HR.out; exact hh.lt) ba.size
  replace HX := Lib.hid (HX.out.below bb)
  replace HY := Lib.hid (HY.out.below bb)
  replace HR := Lib.hid (HR.out.below bb)
  replace H2 := Lib.hid (H2.out.below bb)
  replace HT := Lib.hid (HT.out.below bb)
  have BM := Lib.hid (below_step BM.out BM.out.size bb)
  obtain ⟨w1, hw1⟩ : ∃ w1, wa.alloc (.cells #[.bool t1, .slice B1 m1 d1, .slice B1' m1' d1'] 60) = w1 := ⟨_, rfl⟩
  have hs1 : w1.heap.size = wa.heap.size + 1 := by rw [← hw1]; simp
  have HS1 := Lib.hid hs1
  have HSZ := Lib.hid hsz
  clear x1 x2 x3 ba bb f1 hs1 hsz
  go_upto_region 2 with (fail)
  rw [hw1] at HX HY HR H2 HT BM HF1 F1
  try rw [hw1]
  clear hw1
  obtain ⟨y1, y2, y3, _, _, _⟩ := HY.out.cells
  go_wp2_with fail
  refine (readV _ s2 X2 Y2 _ H2.out HT.out).mono ?_
  rw [HL2.out, Bool.not_true]
  rintro e wc ⟨t2, B2, m2, d2, B2', m2', d2', rfl, f2, bc⟩
  have bd := below_step bc bc.size (below_alloc wc (.cells #[.bool t2, .slice B2 m2 d2, .slice B2' m2' d2'] 60))
  have HF2 := Lib.hid (Box.new wc (.bool t2) (.slice B2 m2 d2) (.slice B2' m2' d2') 60)
  have F2 : Hid (largeB s2 X2 Y2 = false → IsF (wc.alloc (.cells #[.bool t2, .slice B2 m2 d2, .slice B2' m2' d2'] 60)) (.agg #[.bool t2, .slice B2 m2 d2, .slice B2' m2' d2']) (ratOf s2 X2 Y2)) := Lib.hid (fun h => absurd (HL2.out.symm.trans h) (by simp))
  have F1 : Hid (largeB s1 X1 Y1 = false → IsF (wc.alloc (.cells #[.bool t2, .slice B2 m2 d2, .slice B2' m2' d2'] 60)) (.agg #[.bool t1, .slice B1 m1 d1, .slice B1' m1' d1']) (ratOf s1 X1 Y1)) := Lib.hid (fun h => (F1.out h).below bd)
  have hsz2 : wa.heap.size + 1 ≤ wc.heap.size := by have := bc.size; have := HS1.out; omega
  replace HF1 := Lib.hid (HF1.out.below bd)
  replace HR := Lib.hid (HR.out.below bd)
  replace HT := Lib.hid (HT.out.below bd)
  have BM := Lib.hid (below_step BM.out BM.out.size bd)
  have HSZ2 := Lib.hid hsz2
  obtain ⟨w2, hw2⟩ : ∃ w2, wc.alloc (.cells #[.bool t2, .slice B2 m2 d2, .slice B2' m2' d2'] 60) = w2 := ⟨_, rfl⟩
  obtain ⟨gf, hgf⟩ : ∃ g, wa.heap.size = g := ⟨_, rfl⟩
  obtain ⟨gg, hgg⟩ : ∃ g, wc.heap.size = g := ⟨_, rfl⟩
  clear y1 y2 y3 bc bd f2 HS1 hsz2 HX HY H1 H2
  go_upto_region 3 with (fail)
  rw [hw2] at HF1 HF2 HR HT BM F1 F2
  try rw [hw2]
  rw [hgf] at HF1 HSZ HSZ2
  rw [hgg] at HF2 HSZ2
  try rw [hgf]
  try rw [hgg]
  clear hw2 hgf hgg
  obtain ⟨z1, z2, z3, hy1, hy2, hy3, f1, f2, f3⟩ := HR.out.cells
  obtain ⟨q0, q1, q2, hs, hb⟩ := OutIs.stored (o := .err 1) (k := 1) (s := false) (A1 := none) (A2 := none) (n1 := 0) (c1 := 0) (n2 := 0) (c2 := 0) ⟨rfl, rfl, by omega, by omega⟩ HR.out BM.out (by omega)
  have Q := Lib.hid (And.intro q0 (And.intro q1 q2))
  have HBB := Lib.hid hb
  clear q0 q1 q2 hs hb
  go_wp2_with fail
  obtain ⟨q0, q1, q2⟩ := Q.out
  refine bodyPost_ret (v := .tuple #[noRat, .int .i64 1]) (by simp [results, Tryd.results37, go_sem, q0, q1, q2, noRat]) rfl (OutPost.err rfl (by omega) (by omega) HBB.out)
set_option maxHeartbeats 2000000 in
set_option maxRecDepth 100000 in
theorem nDiv_true_false (s1 : Bool) (X1 Y1 : Nat) (s2 : Bool) (X2 Y2 : Nat)  (w : World) (v1 v2 : Value) (h1 : RawV w v1 s1 X1 Y1) (h2 : RawV w v2 s2 X2 Y2) (hT : Tab w) (a b : Rat) (ha : ratOf s1 X1 Y1 = a) (hb : ratOf s2 X2 Y2 = b) (hL1 : largeB s1 X1 Y1 = true) (hL2 : largeB s2 X2 Y2 = false) :
    Calls Tryd.prog 37 #[v1, v2] w (OutPost w (Out.err 1)) := by
  have H1 := Lib.hid h1
  have H2 := Lib.hid h2
  have HT := Lib.hid hT
  obtain ⟨A1, n1, c1, A1', n1', c1', rfl⟩ := h1.shape
  obtain ⟨A2, n2, c2, A2', n2', c2', rfl⟩ := h2.shape
  clear h1 h2 hT
  obtain ⟨M, hM, k1, k2, k3, bM⟩ := start2 w (.bool s1) (.slice A1 n1 c1) (.slice A1' n1' c1') (.bool s2) (.slice A2 n2 c2) (.slice A2' n2' c2') (.bool false) (.slice none 0 0) (.slice none 0 0) 24 24 24
  have HR := Lib.hid (show Res M (w.heap.size + 1 + 1) 24 from ⟨_, _, _, NI.bool _, NI.slice _ _ _, NI.slice _ _ _, k3⟩)
  have HX := Lib.hid k1
  have HY := Lib.hid k2
  have BM := Lib.hid bM
  replace H1 := Lib.hid (H1.out.below bM)
  replace H2 := Lib.hid (H2.out.below bM)
  replace HT := Lib.hid (HT.out.below bM)
  have HA := Lib.hid ha
  have HB := Lib.hid hb
  have HL1 := Lib.hid hL1
  have HL2 := Lib.hid hL2
  clear ha hb hL1 hL2 k1 k2 k3 bM
  go_enter Tryd.func37, Tryd.ntmps37
  go_upto_region 1 with (fail)
  rw [← hM]
  clear hM
  obtain ⟨x1, x2, x3, _, _, _⟩ := HX.out.cells
  go_wp2_with fail
  refine (readV _ s1 X1 Y1 _ H1.out HT.out).mono ?_
  rw [HL1.out, Bool.not_true]
  rintro e wa ⟨t1, B1, m1, d1, B1', m1', d1', rfl, f1, ba⟩
  have bb := below_step ba ba.size (below_alloc wa (.cells #[.bool t1, .slice B1 m1 d1, .slice B1' m1' d1'] 60))
  have HF1 := Lib.hid (Box.new wa (.bool t1) (.slice B1 m1 d1) (.slice B1' m1' d1') 60)
  have F1 : Hid (largeB s1 X1 Y1 = false → IsF (wa.alloc (.cells #[.bool t1, .slice B1 m1 d1, .slice B1' m1' d1'] 60)) (.agg #[.bool t1, .slice B1 m1 d1, .slice B1' m1' d1']) (ratOf s1 X1 Y1)) := Lib.hid (fun h => absurd (HL1.out.symm.trans h) (by simp))
  have hsz : w.heap.size + 1 + 1 < wa.heap.size := Nat.lt_of_lt_of_le (by obtain ⟨_, _, _, _, _, _, hh⟩ := HR.out; exact hh.lt) ba.size
  replace HX := Lib.hid (HX.out.below bb)
  replace HY := Lib.hid (HY.out.below bb)
  replace HR := Lib.hid (HR.out.below bb)
  replace H2 := Lib.hid (H2.out.below bb)
  replace HT := Lib.hid (HT.out.below bb)
  have BM := Lib.hid (below_step BM.out BM.out.size bb)
  obtain ⟨w1, hw1⟩ : ∃ w1, wa.alloc (.cells #[.bool t1, .slice B1 m1 d1, .slice B1' m1' d1'] 60) = w1 := ⟨_, rfl⟩
  have hs1 : w1.heap.size = wa.heap.size + 1 := by rw [← hw1]; simp
  have HS1 := Lib.hid hs1
  have HSZ := Lib.hid hsz
  clear x1 x2 x3 ba bb f1 hs1 hsz
  go_upto_region 2 with (fail)
  rw [hw1] at HX HY HR H2 HT BM HF1 F1
  try rw [hw1]
  clear hw1
  obtain ⟨y1, y2, y3, _, _, _⟩ := HY.out.cells
  go_wp2_with fail
  refine (readV _ s2 X2 Y2 _ H2.out HT.out).mono ?_
  rw [HL2.out, Bool.not_false]
  rintro e wc ⟨t2, B2, m2, d2, B2', m2', d2', rfl, f2, bc⟩
  have bd := below_step bc bc.size (below_alloc wc (.cells #[.bool t2, .slice B2 m2 d2, .slice B2' m2' d2'] 60))
  have HF2 := Lib.hid (Box.new wc (.bool t2) (.slice B2 m2 d2) (.slice B2' m2' d2') 60)
  have F2 : Hid (largeB s2 X2 Y2 = false → IsF (wc.alloc (.cells #[.bool t2, .slice B2 m2 d2, .slice B2' m2' d2'] 60)) (.agg #[.bool t2, .slice B2 m2 d2, .slice B2' m2' d2']) (ratOf s2 X2 Y2)) := Lib.hid (fun h => (f2.out rfl).below (below_alloc _ _))
  have F1 : Hid (largeB s1 X1 Y1 = false → IsF (wc.alloc (.cells #[.bool t2, .slice B2 m2 d2, .slice B2' m2' d2'] 60)) (.agg #[.bool t1, .slice B1 m1 d1, .slice B1' m1' d1']) (ratOf s1 X1 Y1)) := Lib.hid (fun h => (F1.out h).below bd)
  have hsz2 : wa.heap.size + 1 ≤ wc.heap.size := by have := bc.size; have := HS1.out; omega
  replace HF1 := Lib.hid (HF1.out.below bd)
  replace HR := Lib.hid (HR.out.below bd)
  replace HT := Lib.hid (HT.out.below bd)
  have BM := Lib.hid (below_step BM.out BM.out.size bd)
  have HSZ2 := Lib.hid hsz2
  obtain ⟨w2, hw2⟩ : ∃ w2, wc.alloc (.cells #[.bool t2, .slice B2 m2 d2, .slice B2' m2' d2'] 60) = w2 := ⟨_, rfl⟩
  obtain ⟨gf, hgf⟩ : ∃ g, wa.heap.size = g := ⟨_, rfl⟩
  obtain ⟨gg, hgg⟩ : ∃ g, wc.heap.size = g := ⟨_, rfl⟩
  clear y1 y2 y3 bc bd f2 HS1 hsz2 HX HY H1 H2
  go_upto_region 3 with (fail)
  rw [hw2] at HF1 HF2 HR HT BM F1 F2
  try rw [hw2]
  rw [hgf] at HF1 HSZ HSZ2
  rw [hgg] at HF2 HSZ2
  try rw [hgf]
  try rw [hgg]
  clear hw2 hgf hgg
  obtain ⟨z1, z2, z3, hy1, hy2, hy3, f1, f2, f3⟩ := HR.out.cells
  obtain ⟨q0, q1, q2, hs, hb⟩ := OutIs.stored (o := .err 1) (k := 1) (s := false) (A1 := none) (A2 := none) (n1 := 0) (c1 := 0) (n2 := 0) (c2 := 0) ⟨rfl, rfl, by omega, by omega⟩ HR.out BM.out (by omega)
  have Q := Lib.hid (And.intro q0 (And.intro q1 q2))
  have HBB := Lib.hid hb
  clear q0 q1 q2 hs hb
  go_wp2_with fail
  obtain ⟨q0, q1, q2⟩ := Q.out
  refine bodyPost_ret (v := .tuple #[noRat, .int .i64 1]) (by simp [results, Tryd.results37, go_sem, q0, q1, q2, noRat]) rfl (OutPost.err rfl (by omega) (by omega) HBB.out)
set_option maxHeartbeats 2000000 in
set_option maxRecDepth 100000 in
theorem nDiv_false_true (s1 : Bool) (X1 Y1 : Nat) (s2 : Bool) (X2 Y2 : Nat)  (w : World) (v1 v2 : Value) (h1 : RawV w v1 s1 X1 Y1) (h2 : RawV w v2 s2 X2 Y2) (hT : Tab w) (a b : Rat) (ha : ratOf s1 X1 Y1 = a) (hb : ratOf s2 X2 Y2 = b) (hL1 : largeB s1 X1 Y1 = false) (hL2 : largeB s2 X2 Y2 = true) :
    Calls Tryd.prog 37 #[v1, v2] w (OutPost w (Out.err 1)) := by
  have H1 := Lib.hid h1
  have H2 := Lib.hid h2
  have HT := Lib.hid hT
  obtain ⟨A1, n1, c1, A1', n1', c1', rfl⟩ := h1.shape
  obtain ⟨A2, n2, c2, A2', n2', c2', rfl⟩ := h2.shape
  clear h1 h2 hT
  obtain ⟨M, hM, k1, k2, k3, bM⟩ := start2 w (.bool s1) (.slice A1 n1 c1) (.slice A1' n1' c1') (.bool s2) (.slice A2 n2 c2) (.slice A2' n2' c2') (.bool false) (.slice none 0 0) (.slice none 0 0) 24 24 24
  have HR := Lib.hid (show Res M (w.heap.size + 1 + 1) 24 from ⟨_, _, _, NI.bool _, NI.slice _ _ _, NI.slice _ _ _, k3⟩)
  have HX := Lib.hid k1
  have HY := Lib.hid k2
  have BM := Lib.hid bM
  replace H1 := Lib.hid (H1.out.below bM)
  replace H2 := Lib.hid (H2.out.below bM)
  replace HT := Lib.hid (HT.out.below bM)
  have HA := Lib.hid ha
  have HB := Lib.hid hb
  have HL1 := Lib.hid hL1
  have HL2 := Lib.hid hL2
  clear ha hb hL1 hL2 k1 k2 k3 bM
  go_enter Tryd.func37, Tryd.ntmps37
  go_upto_region 1 with (fail)
  rw [← hM]
  clear hM
  obtain ⟨x1, x2, x3, _, _, _⟩ := HX.out.cells
  go_wp2_with fail
  refine (readV _ s1 X1 Y1 _ H1.out HT.out).mono ?_
  rw [HL1.out, Bool.not_false]
  rintro e wa ⟨t1, B1, m1, d1, B1', m1', d1', rfl, f1, ba⟩
  have bb := below_step ba ba.size (below_alloc wa (.cells #[.bool t1, .slice B1 m1 d1, .slice B1' m1' d1'] 60))
  have HF1 := Lib.hid (Box.new wa (.bool t1) (.slice B1 m1 d1) (.slice B1' m1' d1') 60)
  have F1 : Hid (largeB s1 X1 Y1 = false → IsF (wa.alloc (.cells #[.bool t1, .slice B1 m1 d1, .slice B1' m1' d1'] 60)) (.agg #[.bool t1, .slice B1 m1 d1, .slice B1' m1' d1']) (ratOf s1 X1 Y1)) := Lib.hid (fun h => (f1.out rfl).below (below_alloc _ _))
  have hsz : w.heap.size + 1 + 1 < wa.heap.size := Nat.lt_of_lt_of_le (by obtain ⟨_, _, _, _, _, _, hh⟩ := HR.out; exact hh.lt) ba.size
  replace HX := Lib.hid (HX.out.below bb)
  replace HY := Lib.hid (HY.out.below bb)
  replace HR := Lib.hid (HR.out.below bb)
  replace H2 := Lib.hid (H2.out.below bb)
  replace HT := Lib.hid (HT.out.below bb)
  have BM := Lib.hid (below_step BM.out BM.out.size bb)
  obtain ⟨w1, hw1⟩ : ∃ w1, wa.alloc (.cells #[.bool t1, .slice B1 m1 d1, .slice B1' m1' d1'] 60) = w1 := ⟨_, rfl⟩
  have hs1 : w1.heap.size = wa.heap.size + 1 := by rw [← hw1]; simp
  have HS1 := Lib.hid hs1
  have HSZ := Lib.hid hsz
  clear x1 x2 x3 ba bb f1 hs1 hsz
  go_upto_region 2 with (fail)
  rw [hw1] at HX HY HR H2 HT BM HF1 F1
  try rw [hw1]
  clear hw1
  obtain ⟨y1, y2, y3, _, _, _⟩ := HY.out.cells
  go_wp2_with fail
  refine (readV _ s2 X2 Y2 _ H2.out HT.out).mono ?_
  rw [HL2.out, Bool.not_true]
  rintro e wc ⟨t2, B2, m2, d2, B2', m2', d2', rfl, f2, bc⟩
  have bd := below_step bc bc.size (below_alloc wc (.cells #[.bool t2, .slice B2 m2 d2, .slice B2' m2' d2'] 60))
  have HF2 := Lib.hid (Box.new wc (.bool t2) (.slice B2 m2 d2) (.slice B2' m2' d2') 60)
  have F2 : Hid (largeB s2 X2 Y2 = false → IsF (wc.alloc (.cells #[.bool t2, .slice B2 m2 d2, .slice B2' m2' d2'] 60)) (.agg #[.bool t2, .slice B2 m2 d2, .slice B2' m2' d2']) (ratOf s2 X2 Y2)) := Lib.hid (fun h => absurd (HL2.out.symm.trans h) (by simp))
  have F1 : Hid (largeB s1 X1 Y1 = false → IsF (wc.alloc (.cells #[.bool t2, .slice B2 m2 d2, .slice B2' m2' d2'] 60)) (.agg #[.bool t1, .slice B1 m1 d1, .slice B1' m1' d1']) (ratOf s1 X1 Y1)) := Lib.hid (fun h => (F1.out h).below bd)
  have hsz2 : wa.heap.size + 1 ≤ wc.heap.size := by have := bc.size; have := HS1.out; omega
  replace HF1 := Lib.hid (HF1.out.below bd)
  replace HR := Lib.hid (HR.out.below bd)
  replace HT := Lib.hid (HT.out.below bd)
  have BM := Lib.hid (below_step BM.out BM.out.size bd)
  have HSZ2 := Lib.hid hsz2
  obtain ⟨w2, hw2⟩ : ∃ w2, wc.alloc (.cells #[.bool t2, .slice B2 m2 d2, .slice B2' m2' d2'] 60) = w2 := ⟨_, rfl⟩
  obtain ⟨gf, hgf⟩ : ∃ g, wa.heap.size = g := ⟨_, rfl⟩
  obtain ⟨gg, hgg⟩ : ∃ g, wc.heap.size = g := ⟨_, rfl⟩
  clear y1 y2 y3 bc bd f2 HS1 hsz2 HX HY H1 H2
  go_upto_region 3 with (fail)
  rw [hw2] at HF1 HF2 HR HT BM F1 F2
  try rw [hw2]
  rw [hgf] at HF1 HSZ HSZ2
  rw [hgg] at HF2 HSZ2
  try rw [hgf]
  try rw [hgg]
  clear hw2 hgf hgg
  obtain ⟨z1, z2, z3, hy1, hy2, hy3, f1, f2, f3⟩ := HR.out.cells
  obtain ⟨q0, q1, q2, hs, hb⟩ := OutIs.stored (o := .err 1) (k := 1) (s := false) (A1 := none) (A2 := none) (n1 := 0) (c1 := 0) (n2 := 0) (c2 := 0) ⟨rfl, rfl, by omega, by omega⟩ HR.out BM.out (by omega)
  have Q := Lib.hid (And.intro q0 (And.intro q1 q2))
  have HBB := Lib.hid hb
  clear q0 q1 q2 hs hb
  go_wp2_with fail
  obtain ⟨q0, q1, q2⟩ := Q.out
  refine bodyPost_ret (v := .tuple #[noRat, .int .i64 1]) (by simp [results, Tryd.results37, go_sem, q0, q1, q2, noRat]) rfl (OutPost.err rfl (by omega) (by omega) HBB.out)
set_option maxHeartbeats 2000000 in
set_option maxRecDepth 100000 in
theorem nDiv_zero (s1 : Bool) (X1 Y1 : Nat) (s2 : Bool) (X2 Y2 : Nat) (hz : ratOf s2 X2 Y2 = 0) (w : World) (v1 v2 : Value) (h1 : RawV w v1 s1 X1 Y1) (h2 : RawV w v2 s2 X2 Y2) (hT : Tab w) (a b : Rat) (ha : ratOf s1 X1 Y1 = a) (hb : ratOf s2 X2 Y2 = b) (hL1 : largeB s1 X1 Y1 = false) (hL2 : largeB s2 X2 Y2 = false) :
    Calls Tryd.prog 37 #[v1, v2] w (OutPost w (Out.err 10)) := by
  have H1 := Lib.hid h1
  have H2 := Lib.hid h2
  have HT := Lib.hid hT
  obtain ⟨A1, n1, c1, A1', n1', c1', rfl⟩ := h1.shape
  obtain ⟨A2, n2, c2, A2', n2', c2', rfl⟩ := h2.shape
  clear h1 h2 hT
  obtain ⟨M, hM, k1, k2, k3, bM⟩ := start2 w (.bool s1) (.slice A1 n1 c1) (.slice A1' n1' c1') (.bool s2) (.slice A2 n2 c2) (.slice A2' n2' c2') (.bool false) (.slice none 0 0) (.slice none 0 0) 24 24 24
  have HR := Lib.hid (show Res M (w.heap.size + 1 + 1) 24 from ⟨_, _, _, NI.bool _, NI.slice _ _ _, NI.slice _ _ _, k3⟩)
  have HX := Lib.hid k1
  have HY := Lib.hid k2
  have BM := Lib.hid bM
  replace H1 := Lib.hid (H1.out.below bM)
  replace H2 := Lib.hid (H2.out.below bM)
  replace HT := Lib.hid (HT.out.below bM)
  have HA := Lib.hid ha
  have HB := Lib.hid hb
  have HL1 := Lib.hid hL1
  have HL2 := Lib.hid hL2
  have HZ := Lib.hid (show b.num.natAbs = 0 by rw [← hb, hz]; rfl)
  clear hz
  clear ha hb hL1 hL2 k1 k2 k3 bM
  go_enter Tryd.func37, Tryd.ntmps37
  go_upto_region 1 with (fail)
  rw [← hM]
  clear hM
  obtain ⟨x1, x2, x3, _, _, _⟩ := HX.out.cells
  go_wp2_with fail
  refine (readV _ s1 X1 Y1 _ H1.out HT.out).mono ?_
  rw [HL1.out, Bool.not_false]
  rintro e wa ⟨t1, B1, m1, d1, B1', m1', d1', rfl, f1, ba⟩
  have bb := below_step ba ba.size (below_alloc wa (.cells #[.bool t1, .slice B1 m1 d1, .slice B1' m1' d1'] 60))
  have HF1 := Lib.hid (Box.new wa (.bool t1) (.slice B1 m1 d1) (.slice B1' m1' d1') 60)
  have F1 : Hid (largeB s1 X1 Y1 = false → IsF (wa.alloc (.cells #[.bool t1, .slice B1 m1 d1, .slice B1' m1' d1'] 60)) (.agg #[.bool t1, .slice B1 m1 d1, .slice B1' m1' d1']) (ratOf s1 X1 Y1)) := Lib.hid (fun h => (f1.out rfl).below (below_alloc _ _))
  have hsz : w.heap.size + 1 + 1 < wa.heap.size := Nat.lt_of_lt_of_le (by obtain ⟨_, _, _, _, _, _, hh⟩ := HR.out; exact hh.lt) ba.size
  replace HX := Lib.hid (HX.out.below bb)
  replace HY := Lib.hid (HY.out.below bb)
  replace HR := Lib.hid (HR.out.below bb)
  replace H2 := Lib.hid (H2.out.below bb)
  replace HT := Lib.hid (HT.out.below bb)
  have BM := Lib.hid (below_step BM.out BM.out.size bb)
  obtain ⟨w1, hw1⟩ : ∃ w1, wa.alloc (.cells #[.bool t1, .slice B1 m1 d1, .slice B1' m1' d1'] 60) = w1 := ⟨_, rfl⟩
  have hs1 : w1.heap.size = wa.heap.size + 1 := by rw [← hw1]; simp
  have HS1 := Lib.hid hs1
  have HSZ := Lib.hid hsz
  clear x1 x2 x3 ba bb f1 hs1 hsz
  go_upto_region 2 with (fail)
  rw [hw1] at HX HY HR H2 HT BM HF1 F1
  try rw [hw1]
  clear hw1
  obtain ⟨y1, y2, y3, _, _, _⟩ := HY.out.cells
  go_wp2_with fail
  refine (readV _ s2 X2 Y2 _ H2.out HT.out).mono ?_
  rw [HL2.out, Bool.not_false]
  rintro e wc ⟨t2, B2, m2, d2, B2', m2', d2', rfl, f2, bc⟩
  have bd := below_step bc bc.size (below_alloc wc (.cells #[.bool t2, .slice B2 m2 d2, .slice B2' m2' d2'] 60))
  have HF2 := Lib.hid (Box.new wc (.bool t2) (.slice B2 m2 d2) (.slice B2' m2' d2') 60)
  have F2 : Hid (largeB s2 X2 Y2 = false → IsF (wc.alloc (.cells #[.bool t2, .slice B2 m2 d2, .slice B2' m2' d2'] 60)) (.agg #[.bool t2, .slice B2 m2 d2, .slice B2' m2' d2']) (ratOf s2 X2 Y2)) := Lib.hid (fun h => (f2.out rfl).below (below_alloc _ _))
  have F1 : Hid (largeB s1 X1 Y1 = false → IsF (wc.alloc (.cells #[.bool t2, .slice B2 m2 d2, .slice B2' m2' d2'] 60)) (.agg #[.bool t1, .slice B1 m1 d1, .slice B1' m1' d1']) (ratOf s1 X1 Y1)) := Lib.hid (fun h => (F1.out h).below bd)
  have hsz2 : wa.heap.size + 1 ≤ wc.heap.size := by have := bc.size; have := HS1.out; omega
  replace HF1 := Lib.hid (HF1.out.below bd)
  replace HR := Lib.hid (HR.out.below bd)
  replace HT := Lib.hid (HT.out.below bd)
  have BM := Lib.hid (below_step BM.out BM.out.size bd)
  have HSZ2 := Lib.hid hsz2
  obtain ⟨w2, hw2⟩ : ∃ w2, wc.alloc (.cells #[.bool t2, .slice B2 m2 d2, .slice B2' m2' d2'] 60) = w2 := ⟨_, rfl⟩
  obtain ⟨gf, hgf⟩ : ∃ g, wa.heap.size = g := ⟨_, rfl⟩
  obtain ⟨gg, hgg⟩ : ∃ g, wc.heap.size = g := ⟨_, rfl⟩
  clear y1 y2 y3 bc bd f2 HS1 hsz2 HX HY H1 H2
  go_upto_region 3 with (fail)
  rw [hw2] at HF1 HF2 HR HT BM F1 F2
  try rw [hw2]
  rw [hgf] at HF1 HSZ HSZ2
  rw [hgg] at HF2 HSZ2
  try rw [hgf]
  try rw [hgg]
  clear hw2 hgf hgg
  have F1 := Lib.hid (F1.out HL1.out)
  have F2 := Lib.hid (F2.out HL2.out)
  rw [HA.out] at F1
  rw [HB.out] at F2
  obtain ⟨C1, u1, C2, u2, ev, ra, rb⟩ := F2.out
  simp only [Value.agg.injEq, Array.mk.injEq, List.cons.injEq, Value.bool.injEq, Value.slice.injEq, and_true] at ev
  obtain ⟨rfl, ⟨rfl, rfl, rfl⟩, rfl, rfl, rfl⟩ := ev
  have hw0 : decide (W b.num.natAbs = []) = true := by rw [HZ.out]; simp [W_zero]
  have HW0 := Lib.hid hw0
  clear ra rb hw0
  obtain ⟨x1, x2, x3, _⟩ := HF1.out.cells
  obtain ⟨y1, y2, y3, _⟩ := HF2.out.cells
  go_wp2_with fail
  refine (wZero _ _ _ _).mono ?_
  rw [HW0.out]
  rintro e we ⟨rfl, rfl⟩
  obtain ⟨z1, z2, z3, hy1, hy2, hy3, f1, f2, f3⟩ := HR.out.cells
  obtain ⟨q0, q1, q2, hs, hb⟩ := OutIs.stored (o := .err 10) (k := 10) (s := false) (A1 := none) (A2 := none) (n1 := 0) (c1 := 0) (n2 := 0) (c2 := 0) ⟨rfl, rfl, by omega, by omega⟩ HR.out BM.out (by omega)
  have Q := Lib.hid (And.intro q0 (And.intro q1 q2))
  have HBB := Lib.hid hb
  clear q0 q1 q2 hs hb
  go_wp2_with fail
  obtain ⟨q0, q1, q2⟩ := Q.out
  refine bodyPost_ret (v := .tuple #[noRat, .int .i64 10]) (by simp [results, Tryd.results37, go_sem, q0, q1, q2, noRat]) rfl (OutPost.err rfl (by omega) (by omega) HBB.out)
set_option maxHeartbeats 2000000 in
set_option maxRecDepth 100000 in
theorem nDiv_fit (s1 : Bool) (X1 Y1 : Nat) (s2 : Bool) (X2 Y2 : Nat) (hz : ratOf s2 X2 Y2 ≠ 0) (r : Rat) (hr : ratOf s1 X1 Y1 / ratOf s2 X2 Y2 = r) (w : World) (v1 v2 : Value) (h1 : RawV w v1 s1 X1 Y1) (h2 : RawV w v2 s2 X2 Y2) (hT : Tab w) (a b : Rat) (ha : ratOf s1 X1 Y1 = a) (hb : ratOf s2 X2 Y2 = b) (hL1 : largeB s1 X1 Y1 = false) (hL2 : largeB s2 X2 Y2 = false) :
    Calls Tryd.prog 37 #[v1, v2] w (OutPost w (give r)) := by
  have H1 := Lib.hid h1
  have H2 := Lib.hid h2
  have HT := Lib.hid hT
  obtain ⟨A1, n1, c1, A1', n1', c1', rfl⟩ := h1.shape
  obtain ⟨A2, n2, c2, A2', n2', c2', rfl⟩ := h2.shape
  clear h1 h2 hT
  obtain ⟨M, hM, k1, k2, k3, bM⟩ := start2 w (.bool s1) (.slice A1 n1 c1) (.slice A1' n1' c1') (.bool s2) (.slice A2 n2 c2) (.slice A2' n2' c2') (.bool false) (.slice none 0 0) (.slice none 0 0) 24 24 24
  have HR := Lib.hid (show Res M (w.heap.size + 1 + 1) 24 from ⟨_, _, _, NI.bool _, NI.slice _ _ _, NI.slice _ _ _, k3⟩)
  have HX := Lib.hid k1
  have HY := Lib.hid k2
  have BM := Lib.hid bM
  replace H1 := Lib.hid (H1.out.below bM)
  replace H2 := Lib.hid (H2.out.below bM)
  replace HT := Lib.hid (HT.out.below bM)
  have HA := Lib.hid ha
  have HB := Lib.hid hb
  have HL1 := Lib.hid hL1
  have HL2 := Lib.hid hL2
  have fa := (largeB_false hL1).2.2
  have fb := (largeB_false hL2).2.2
  rw [ha] at fa
  rw [hb] at fb
  have FA := Lib.hid fa
  have FB := Lib.hid fb
  clear fa fb
  rw [ha, hb, Rat.div_def] at hr
  rw [hb] at hz
  have HRR := Lib.hid hr
  have HBZ := Lib.hid hz
  have hnn : b.num ≠ 0 := fun h0 => hz (Rat.num_eq_zero.1 h0)
  have HNZ := Lib.hid (show b.num.natAbs ≠ 0 by omega)
  clear hr hz hnn
  clear ha hb hL1 hL2 k1 k2 k3 bM
  go_enter Tryd.func37, Tryd.ntmps37
  go_upto_region 1 with (fail)
  rw [← hM]
  clear hM
  obtain ⟨x1, x2, x3, _, _, _⟩ := HX.out.cells
  go_wp2_with fail
  refine (readV _ s1 X1 Y1 _ H1.out HT.out).mono ?_
  rw [HL1.out, Bool.not_false]
  rintro e wa ⟨t1, B1, m1, d1, B1', m1', d1', rfl, f1, ba⟩
  have bb := below_step ba ba.size (below_alloc wa (.cells #[.bool t1, .slice B1 m1 d1, .slice B1' m1' d1'] 60))
  have HF1 := Lib.hid (Box.new wa (.bool t1) (.slice B1 m1 d1) (.slice B1' m1' d1') 60)
  have F1 : Hid (largeB s1 X1 Y1 = false → IsF (wa.alloc (.cells #[.bool t1, .slice B1 m1 d1, .slice B1' m1' d1'] 60)) (.agg #[.bool t1, .slice B1 m1 d1, .slice B1' m1' d1']) (ratOf s1 X1 Y1)) := Lib.hid (fun h => (f1.out rfl).below (below_alloc _ _))
  have hsz : w.heap.size + 1 + 1 < wa.heap.size := Nat.lt_of_lt_of_le (by obtain ⟨_, _, _, _, _, _, hh⟩ := HR.out; exact hh.lt) ba.size
  replace HX := Lib.hid (HX.out.below bb)
  replace HY := Lib.hid (HY.out.below bb)
  replace HR := Lib.hid (HR.out.below bb)
  replace H2 := Lib.hid (H2.out.below bb)
  replace HT := Lib.hid (HT.out.below bb)
  have BM := Lib.hid (below_step BM.out BM.out.size bb)
  obtain ⟨w1, hw1⟩ : ∃ w1, wa.alloc (.cells #[.bool t1, .slice B1 m1 d1, .slice B1' m1' d1'] 60) = w1 := ⟨_, rfl⟩
  have hs1 : w1.heap.size = wa.heap.size + 1 := by rw [← hw1]; simp
  have HS1 := Lib.hid hs1
  have HSZ := Lib.hid hsz
  clear x1 x2 x3 ba bb f1 hs1 hsz
  go_upto_region 2 with (fail)
  rw [hw1] at HX HY HR H2 HT BM HF1 F1
  try rw [hw1]
  clear hw1
  obtain ⟨y1, y2, y3, _, _, _⟩ := HY.out.cells
  go_wp2_with fail
  refine (readV _ s2 X2 Y2 _ H2.out HT.out).mono ?_
  rw [HL2.out, Bool.not_false]
  rintro e wc ⟨t2, B2, m2, d2, B2', m2', d2', rfl, f2, bc⟩
  have bd := below_step bc bc.size (below_alloc wc (.cells #[.bool t2, .slice B2 m2 d2, .slice B2' m2' d2'] 60))
  have HF2 := Lib.hid (Box.new wc (.bool t2) (.slice B2 m2 d2) (.slice B2' m2' d2') 60)
  have F2 : Hid (largeB s2 X2 Y2 = false → IsF (wc.alloc (.cells #[.bool t2, .slice B2 m2 d2, .slice B2' m2' d2'] 60)) (.agg #[.bool t2, .slice B2 m2 d2, .slice B2' m2' d2']) (ratOf s2 X2 Y2)) := Lib.hid (fun h => (f2.out rfl).below (below_alloc _ _))
  have F1 : Hid (largeB s1 X1 Y1 = false → IsF (wc.alloc (.cells #[.bool t2, .slice B2 m2 d2, .slice B2' m2' d2'] 60)) (.agg #[.bool t1, .slice B1 m1 d1, .slice B1' m1' d1']) (ratOf s1 X1 Y1)) := Lib.hid (fun h => (F1.out h).below bd)
  have hsz2 : wa.heap.size + 1 ≤ wc.heap.size := by have := bc.size; have := HS1.out; omega
  replace HF1 := Lib.hid (HF1.out.below bd)
  replace HR := Lib.hid (HR.out.below bd)
  replace HT := Lib.hid (HT.out.below bd)
  have BM := Lib.hid (below_step BM.out BM.out.size bd)
  have HSZ2 := Lib.hid hsz2
  obtain ⟨w2, hw2⟩ : ∃ w2, wc.alloc (.cells #[.bool t2, .slice B2 m2 d2, .slice B2' m2' d2'] 60) = w2 := ⟨_, rfl⟩
  obtain ⟨gf, hgf⟩ : ∃ g, wa.heap.size = g := ⟨_, rfl⟩
  obtain ⟨gg, hgg⟩ : ∃ g, wc.heap.size = g := ⟨_, rfl⟩
  clear y1 y2 y3 bc bd f2 HS1 hsz2 HX HY H1 H2
  go_upto_region 3 with (fail)
  rw [hw2] at HF1 HF2 HR HT BM F1 F2
  try rw [hw2]
  rw [hgf] at HF1 HSZ HSZ2
  rw [hgg] at HF2 HSZ2
  try rw [hgf]
  try rw [hgg]
  clear hw2 hgf hgg
  have F1 := Lib.hid (F1.out HL1.out)
  have F2 := Lib.hid (F2.out HL2.out)
  rw [HA.out] at F1
  rw [HB.out] at F2
  have TN : Hid (N2 w w2 (w.heap.size + 1 + 1) gf gg t1 B1 m1 d1 B1' m1' d1' a t2 B2 m2 d2 B2' m2' d2' b) := Lib.hid ⟨HR.out, HF1.out, HF2.out, F1.out, F2.out, HT.out, BM.out, by omega, by have := HSZ.out; omega, by have := HSZ.out; have := HSZ2.out; omega, by omega⟩
  obtain ⟨C1, u1, C2, u2, ev, ra, rb⟩ := F2.out
  obtain ⟨rfl, ⟨rfl, rfl, rfl⟩, rfl, rfl, rfl⟩ : t2 = ng b ∧ (B2 = C1 ∧ m2 = (W b.num.natAbs).length ∧ d2 = u1) ∧ B2' = C2 ∧ m2' = (W b.den).length ∧ d2' = u2 := by simpa using ev
  have hw0 : decide (W b.num.natAbs = []) = false := by
    have := HNZ.out
    rw [decide_eq_false_iff_not]
    intro h0
    have h1 := val_W b.num.natAbs
    rw [h0] at h1
    have h2 : val B32 ([] : List Int) = 0 := rfl
    rw [h2] at h1
    omega
  have HW0 := Lib.hid hw0
  clear ra rb hw0 ev
  obtain ⟨n2, hn2⟩ : ∃ n, (W b.num.natAbs).length = n := ⟨_, rfl⟩
  have C0 := Lib.hid (fun w => wZero w B2 (W b.num.natAbs) d2)
  rw [HW0.out] at C0
  rw [hn2] at C0 TN HF2 F2
  try rw [hn2]
  obtain ⟨m2', hm2'⟩ : ∃ n, (W b.den).length = n := ⟨_, rfl⟩
  rw [hm2'] at TN HF2 F2
  try rw [hm2']
  obtain ⟨t2, ht2⟩ : ∃ n, ng b = n := ⟨_, rfl⟩
  rw [ht2] at TN HF2 F2
  try rw [ht2]
  clear hn2 hm2' ht2
  obtain ⟨y1, y2, y3, _⟩ := HF2.out.cells
  go_wp2_with fail
  refine (C0.out _).mono ?_
  rintro e we ⟨rfl, rfl⟩
  clear y1 y2 y3
  go_wp2_with fail
  go_region_held3 (fun W' => (World.cell? W' ⟨gf, 0, none⟩ = some (.bool t1) ∧ World.cell? W' ⟨gf, 1, none⟩ = some (.slice B1 m1 d1) ∧ World.cell? W' ⟨gf, 2, none⟩ = some (.slice B1' m1' d1') ∧ World.cell? W' ⟨gg, 0, none⟩ = some (.bool t2) ∧ World.cell? W' ⟨gg, 1, none⟩ = some (.slice B2 n2 d2) ∧ World.cell? W' ⟨gg, 2, none⟩ = some (.slice B2' m2' d2') ∧ Hid (N2 w W' (w.heap.size + 1 + 1) gf gg t1 B1 m1 d1 B1' m1' d1' a t2 B2 n2 d2 B2' m2' d2' b)))
    (with_reducible (first | assumption | exact TN.out.drew.cells | exact N2.next (by assumption) (by assumption) | exact N2.nextS (by assumption)))
    (first
     | (go_at_call 88
        refine (Calls.partsF (fInv b _ _ (N2.of (by assumption)).fb HBZ.out)).mono ?_
        rintro e wi ⟨t3, B3, m3, d3, B3', m3', d3', rfl, i3, bi⟩)
     | (go_at_call 90
        refine (Calls.partsF (fMul a b⁻¹ _ _ _ (N2.of (by assumption)).fa i3.out (fit_Wq FA.out (by omega)) (inv_Wq HBZ.out (fit_Wq FB.out (by omega))) (N2.of (by assumption)).tab)).mono ?_
        rw [HRR.out]
        rintro e wm ⟨t4, B4, m4, d4, B4', m4', d4', rfl, i4, bm⟩)
     | (go_at_call 80
        refine (giveF _ r _ i4.out).mono ?_
        rintro e we ⟨s9, A9, n9, c9, A9', n9', c9', k9, rfl, h9, b9⟩
        have hh := (N2.of (by assumption)).below b9
        obtain ⟨z1, z2, z3, hz1, hz2, hz3, k1, k2, k3⟩ := hh.res.cells))
  obtain ⟨q0, q1, q2, hs, hb⟩ := OutIs.stored h9 hh.res hh.bel hh.n3
  have Q := Lib.hid (And.intro q0 (And.intro q1 q2))
  have HS := Lib.hid hs
  have HBB := Lib.hid hb
  clear q0 q1 q2 hs hb h9
  go_wp2
  obtain ⟨q0, q1, q2⟩ := Q.out
  refine bodyPost_ret (v := .tuple #[.agg #[.bool s9, .slice A9 n9 c9, .slice A9' n9' c9'], .int .i64 k9]) (by simp [results, Tryd.results37, go_sem, q0, q1, q2]) rfl ?_
  exact ⟨_, _, _, _, _, _, _, _, rfl, HS.out, HBB.out⟩
/-- what Div returns -/
def divOut (L : Bool) (a b : Rat) : Out := if L = true then .err 1 else if b = 0 then .err 10 else give (a / b)
theorem nDiv (s1 : Bool) (X1 Y1 : Nat) (s2 : Bool) (X2 Y2 : Nat) (w : World) (v1 v2 : Value) (h1 : RawV w v1 s1 X1 Y1) (h2 : RawV w v2 s2 X2 Y2) (hT : Tab w) :
    Calls Tryd.prog 37 #[v1, v2] w (OutPost w (divOut (largeB s1 X1 Y1 || largeB s2 X2 Y2) (ratOf s1 X1 Y1) (ratOf s2 X2 Y2))) := by
  unfold divOut
  cases e1 : largeB s1 X1 Y1 <;> cases e2 : largeB s2 X2 Y2
  · rw [if_neg (by simp)]
    by_cases hz : ratOf s2 X2 Y2 = 0
    · rw [if_pos hz]; exact nDiv_zero s1 X1 Y1 s2 X2 Y2 hz w v1 v2 h1 h2 hT _ _ rfl rfl e1 e2
    · rw [if_neg hz]; exact nDiv_fit s1 X1 Y1 s2 X2 Y2 hz _ rfl w v1 v2 h1 h2 hT _ _ rfl rfl e1 e2
  · exact nDiv_false_true s1 X1 Y1 s2 X2 Y2 w v1 v2 h1 h2 hT _ _ rfl rfl e1 e2
  · exact nDiv_true_false s1 X1 Y1 s2 X2 Y2 w v1 v2 h1 h2 hT _ _ rfl rfl e1 e2
  · exact nDiv_true_true s1 X1 Y1 s2 X2 Y2 w v1 v2 h1 h2 hT _ _ rfl rfl e1 e2
end Go.Proofs.YtfmhplcpejmkhaaDoor

namespace Go.Proofs.YtfmhplcpejmkhaaDoor
open Go.RowKit Dig
set_option linter.unusedVariables false
set_option linter.unusedSimpArgs false
/-- a value: is it large, and its number -/
def Vl (w : World) (v : Value) (L : Bool) (q : Rat) : Prop := ∃ s N D, RawV w v s N D ∧ largeB s N D = L ∧ ratOf s N D = q
theorem Vl.below {w w' : World} {v : Value} {L : Bool} {q : Rat} (h : Vl w v L q) (hb : Below w.heap.size w w') : Vl w' v L q := by
  obtain ⟨s, N, D, h1, h2, h3⟩ := h
  exact ⟨s, N, D, h1.below hb, h2, h3⟩
theorem OutIs.vl {w : World} {o : Out} {u : Value} {k : Int} (h : OutIs w o u k) : Vl w u false (valO o) := ⟨_, _, _, h.rawV, large_self h.fit, ratOf_self _⟩
/-- an operation's post: a value, a code, and what the value is where the code is 0 -/
def VPost (w : World) (P : Rat → Prop) (e : Ending) (w' : World) : Prop :=
  ∃ s A n c A' n' c' k t, e = .returned (.tuple #[.agg #[.bool s, .slice A n c, .slice A' n' c'], .int .i64 k]) ∧ Hid (Vl w' (.agg #[.bool s, .slice A n c, .slice A' n' c']) false t) ∧ Hid (k = 0 → P t) ∧ Below w.heap.size w w'
theorem OutPost.vp {w : World} {o : Out} {P : Rat → Prop} {e : Ending} {w' : World} (h : OutPost w o e w') (hp : ∀ q, o = .ok q → P q) : VPost w P e w' := by
  obtain ⟨s, A, n, c, A', n', c', k, he, ho, hb⟩ := h
  refine ⟨s, A, n, c, A', n', c', k, valO o, he, ho.vl, fun hk => ?_, hb⟩
  cases o with
  | ok q => exact hp q rfl
  | err j =>
    obtain ⟨h1, _, h2, _⟩ := ho
    omega
theorem op_ok {L : Bool} {v q : Rat} (h : (if L = true then Out.err 1 else give v) = .ok q) : q = v := by
  cases L
  · simp only [Bool.false_eq_true, if_false] at h
    unfold give at h
    split at h
    · exact (Out.ok.inj h).symm
    · cases h
  · simp at h
theorem vAdd (L1 L2 : Bool) (q1 q2 : Rat) (w : World) (v1 v2 : Value) (h1 : Vl w v1 L1 q1) (h2 : Vl w v2 L2 q2) (hT : Tab w) : Calls Tryd.prog 19 #[v1, v2] w (VPost w (fun t => t = q1 + q2)) := by
  obtain ⟨s1, N1, D1, r1, rfl, rfl⟩ := h1
  obtain ⟨s2, N2, D2, r2, rfl, rfl⟩ := h2
  exact (nAdd _ _ _ _ _ _ w _ _ r1 r2 hT).mono fun e w' h => h.vp fun q hq => op_ok hq
theorem vSub (L1 L2 : Bool) (q1 q2 : Rat) (w : World) (v1 v2 : Value) (h1 : Vl w v1 L1 q1) (h2 : Vl w v2 L2 q2) (hT : Tab w) : Calls Tryd.prog 20 #[v1, v2] w (VPost w (fun t => t = q1 - q2)) := by
  obtain ⟨s1, N1, D1, r1, rfl, rfl⟩ := h1
  obtain ⟨s2, N2, D2, r2, rfl, rfl⟩ := h2
  exact (nSub _ _ _ _ _ _ w _ _ r1 r2 hT).mono fun e w' h => h.vp fun q hq => op_ok hq
theorem vMul (L1 L2 : Bool) (q1 q2 : Rat) (w : World) (v1 v2 : Value) (h1 : Vl w v1 L1 q1) (h2 : Vl w v2 L2 q2) (hT : Tab w) : Calls Tryd.prog 39 #[v1, v2] w (VPost w (fun t => t = q1 * q2)) := by
  obtain ⟨s1, N1, D1, r1, rfl, rfl⟩ := h1
  obtain ⟨s2, N2, D2, r2, rfl, rfl⟩ := h2
  exact (nMul _ _ _ _ _ _ w _ _ r1 r2 hT).mono fun e w' h => h.vp fun q hq => op_ok hq
theorem vDiv (L1 L2 : Bool) (q1 q2 : Rat) (w : World) (v1 v2 : Value) (h1 : Vl w v1 L1 q1) (h2 : Vl w v2 L2 q2) (hT : Tab w) : Calls Tryd.prog 37 #[v1, v2] w (VPost w (fun t => q2 ≠ 0 ∧ t = q1 / q2)) := by
  obtain ⟨s1, N1, D1, r1, rfl, rfl⟩ := h1
  obtain ⟨s2, N2, D2, r2, rfl, rfl⟩ := h2
  refine (nDiv _ _ _ _ _ _ w _ _ r1 r2 hT).mono fun e w' h => h.vp fun q hq => ?_
  unfold divOut at hq
  split at hq
  · cases hq
  · split at hq
    · cases hq
    · rename_i hz
      exact ⟨hz, op_ok (L := false) (by simpa using hq)⟩
theorem vEqual (L1 L2 : Bool) (q1 q2 : Rat) (w : World) (v1 v2 : Value) (h1 : Vl w v1 L1 q1) (h2 : Vl w v2 L2 q2) (hq : q1 = q2) : Calls Tryd.prog 32 #[v1, v2] w fun e w' => e = .returned (.bool true) ∧ Below w.heap.size w w' := by
  obtain ⟨s1, N1, D1, ⟨A1, c1, l1, A2, c2, l2, rfl, r1, r2, o1, o2, e1, e2, z1, z2⟩, rfl, rfl⟩ := h1
  obtain ⟨s2, N2, D2, ⟨A3, c3, l3, A4, c4, l4, rfl, r3, r4, o3, o4, e3, e4, z3, z4⟩, rfl, rfl⟩ := h2
  refine (rEqual s1 l1 l2 N1 D1 s2 l3 l4 N2 D2 w _ _ _ _ _ _ _ _ r1 r2 r3 r4 o1 o2 o3 o4 e1 e2 e3 e4 z1 z2 z3 z4).mono ?_
  rintro e w' ⟨rfl, hb⟩
  exact ⟨by rw [decide_eq_true hq], hb⟩
end Go.Proofs.YtfmhplcpejmkhaaDoor

namespace Go.Proofs.YtfmhplcpejmkhaaDoor
open Go.RowKit Dig
set_option linter.unusedVariables false
set_option linter.unusedSimpArgs false
theorem R_pow_len (a e : Nat) : (R (a ^ e)).length ≤ (R a).length * e + 1 := by
  rw [show R (a ^ e) = dig B16 (a ^ e) from rfl, dig_length_le B16_two]
  have h0 : a < B16 ^ (R a).length := (dig_length_le B16_two a (R a).length).1 (Nat.le_refl _)
  have h1 : a ^ e ≤ (B16 ^ (R a).length) ^ e := Nat.pow_le_pow_left (Nat.le_of_lt h0) e
  rw [← Nat.pow_mul] at h1
  exact Nat.lt_of_le_of_lt h1 (Nat.pow_lt_pow_right B16_two (Nat.lt_succ_self _))
end Go.Proofs.YtfmhplcpejmkhaaDoor

namespace Go.Proofs.YtfmhplcpejmkhaaDoor
open Go.RowKit Dig
set_option linter.unusedVariables false
set_option linter.unusedSimpArgs false
def powN (q : Rat) (p : Nat) : Rat := mkRat (sg (ng q && decide (p % 2 = 1)) (q.num.natAbs ^ p)) (q.den ^ p)
theorem powN_facts (q : Rat) (p : Nat) : ng (powN q p) = (ng q && decide (p % 2 = 1)) ∧ (powN q p).num.natAbs = q.num.natAbs ^ p ∧ (powN q p).den = q.den ^ p := by
  have hd : q.den ^ p ≠ 0 := Nat.ne_of_gt (Nat.pow_pos (Nat.pos_of_ne_zero q.den_nz))
  have hc : Nat.gcd (q.num.natAbs ^ p) (q.den ^ p) = 1 := Nat.Coprime.pow p p q.reduced
  refine ⟨?_, ?_, ?_⟩
  · by_cases hn : q.num.natAbs ^ p = 0
    · have h0 : q.num.natAbs = 0 := by
        rcases Nat.eq_zero_or_pos q.num.natAbs with h | h
        · exact h
        · exact absurd hn (Nat.ne_of_gt (Nat.pow_pos h))
      have hg : ng q = false := by
        cases h : ng q
        · rfl
        · exact absurd h0 (ng_nz h)
      unfold powN
      rw [hn, mk_zero, hg]
      rfl
    · unfold powN; rw [mk_sign _ hd hn]
  · unfold powN; rw [mk_abs _ _ hd, hc, Nat.div_one]
  · unfold powN; rw [mk_den _ _ hd, hc, Nat.div_one]
def powZ (q : Rat) (n : Int) : Rat := if n < 0 then powN q⁻¹ n.natAbs else powN q n.natAbs
/-- what Pow returns -/
def powOut (L : Bool) (n : Int) (q : Rat) : Out := if L = true then .err 1 else if n < -32 ∨ 32 < n then .err 2 else if n < 0 ∧ q = 0 then .err 10 else give (powZ q n)
/-- a rational number of the reference in a variable, and a variable for a result -/
structure XP (w M : World) (g1 g3 : Nat) (s1 : Bool) (A1 : Option Addr) (n1 c1 : Nat) (B1 : Option Addr) (m1 d1 : Nat) (q : Rat) : Prop where
  f : Box M g1 (.bool s1) (.slice A1 n1 c1) (.slice B1 m1 d1) 37
  res : Res M g3 37
  r1 : IsQ M (.agg #[.bool s1, .slice A1 n1 c1, .slice B1 m1 d1]) q
  bel : Below w.heap.size w M
  n3 : w.heap.size ≤ g3
  ne : g1 ≠ g3
section
variable {w M M' : World} {g1 g3 : Nat} {s1 : Bool} {A1 : Option Addr} {n1 c1 : Nat} {B1 : Option Addr} {m1 d1 : Nat} {q : Rat}
theorem XP.below (h : XP w M g1 g3 s1 A1 n1 c1 B1 m1 d1 q) (hb : Below M.heap.size M M') : XP w M' g1 g3 s1 A1 n1 c1 B1 m1 d1 q :=
  ⟨h.f.below hb, h.res.below hb, h.r1.below hb, below_step h.bel h.bel.size hb, h.n3, h.ne⟩
theorem XP.drew (h : XP w M g1 g3 s1 A1 n1 c1 B1 m1 d1 q) : XP w M.drew g1 g3 s1 A1 n1 c1 B1 m1 d1 q := h.below (Below.refl _ _).drew
theorem XP.cells (h : XP w M g1 g3 s1 A1 n1 c1 B1 m1 d1 q) : (World.cell? M ⟨g1, 0, none⟩ = some (.bool s1) ∧ World.cell? M ⟨g1, 1, none⟩ = some (.slice A1 n1 c1) ∧ World.cell? M ⟨g1, 2, none⟩ = some (.slice B1 m1 d1) ∧ Hid (XP w M g1 g3 s1 A1 n1 c1 B1 m1 d1 q)) := by
  obtain ⟨a1, a2, a3, _, _, _⟩ := h.f.cells
  exact ⟨a1, a2, a3, h⟩
theorem XP.of (h : (World.cell? M ⟨g1, 0, none⟩ = some (.bool s1) ∧ World.cell? M ⟨g1, 1, none⟩ = some (.slice A1 n1 c1) ∧ World.cell? M ⟨g1, 2, none⟩ = some (.slice B1 m1 d1) ∧ Hid (XP w M g1 g3 s1 A1 n1 c1 B1 m1 d1 q))) : XP w M g1 g3 s1 A1 n1 c1 B1 m1 d1 q := h.2.2.2.out
theorem XP.next (h : (World.cell? M ⟨g1, 0, none⟩ = some (.bool s1) ∧ World.cell? M ⟨g1, 1, none⟩ = some (.slice A1 n1 c1) ∧ World.cell? M ⟨g1, 2, none⟩ = some (.slice B1 m1 d1) ∧ Hid (XP w M g1 g3 s1 A1 n1 c1 B1 m1 d1 q))) (hb : Below M.heap.size M M') : (World.cell? M' ⟨g1, 0, none⟩ = some (.bool s1) ∧ World.cell? M' ⟨g1, 1, none⟩ = some (.slice A1 n1 c1) ∧ World.cell? M' ⟨g1, 2, none⟩ = some (.slice B1 m1 d1) ∧ Hid (XP w M' g1 g3 s1 A1 n1 c1 B1 m1 d1 q)) := ((XP.of h).below hb).cells
theorem XP.nextS (h : (World.cell? M ⟨g1, 0, none⟩ = some (.bool s1) ∧ World.cell? M ⟨g1, 1, none⟩ = some (.slice A1 n1 c1) ∧ World.cell? M ⟨g1, 2, none⟩ = some (.slice B1 m1 d1) ∧ Hid (XP w M g1 g3 s1 A1 n1 c1 B1 m1 d1 q))) {a : Bool} {B C : Option Addr} {b b' c c' : Nat} : (World.cell? (((M.setCell ⟨g3, 0, none⟩ (.bool a)).setCell ⟨g3, 1, none⟩ (.slice B b b')).setCell ⟨g3, 2, none⟩ (.slice C c c')) ⟨g1, 0, none⟩ = some (.bool s1) ∧ World.cell? (((M.setCell ⟨g3, 0, none⟩ (.bool a)).setCell ⟨g3, 1, none⟩ (.slice B b b')).setCell ⟨g3, 2, none⟩ (.slice C c c')) ⟨g1, 1, none⟩ = some (.slice A1 n1 c1) ∧ World.cell? (((M.setCell ⟨g3, 0, none⟩ (.bool a)).setCell ⟨g3, 1, none⟩ (.slice B b b')).setCell ⟨g3, 2, none⟩ (.slice C c c')) ⟨g1, 2, none⟩ = some (.slice B1 m1 d1) ∧ Hid (XP w (((M.setCell ⟨g3, 0, none⟩ (.bool a)).setCell ⟨g3, 1, none⟩ (.slice B b b')).setCell ⟨g3, 2, none⟩ (.slice C c c')) g1 g3 s1 A1 n1 c1 B1 m1 d1 q)) := by
  have h := XP.of h
  have hg := grown_set3 M g3 (.bool a) (.slice B b b') (.slice C c c')
  obtain ⟨x, y, z, hx, hy, hz, h4⟩ := h.res
  obtain ⟨E1, e1, E2, e2, e, r1, r2⟩ := h.r1
  exact XP.cells ⟨(hg.block g1 h.f.lt (fun e => h.ne (Option.some.inj e))).trans h.f, h.res.set3 (NI.bool _) (NI.slice _ _ _) (NI.slice _ _ _), ⟨E1, e1, E2, e2, e, r1.grown_box h4 hx hy hz hg, r2.grown_box h4 hx hy hz hg⟩, below_set3 h.bel h.n3 _ _ _, h.n3, h.ne⟩
end
end Go.Proofs.YtfmhplcpejmkhaaDoor

namespace Go.Proofs.YtfmhplcpejmkhaaDoor
open Go.RowKit Dig
set_option linter.unusedVariables false
set_option linter.unusedSimpArgs false
theorem IsF.len {w : World} {t : Bool} {A B : Option Addr} {n c m d : Nat} {q : Rat} (h : IsF w (.agg #[.bool t, .slice A n c, .slice B m d]) q) : (W q.num.natAbs).length = n := by
  obtain ⟨A1, c1, A2, c2, e, _, _⟩ := h
  simp only [Value.agg.injEq, Array.mk.injEq, List.cons.injEq, Value.bool.injEq, Value.slice.injEq, and_true] at e
  exact e.2.1.2.1.symm
theorem N1.setF {w M : World} {g3 g : Nat} {s : Bool} {A1 : Option Addr} {n1 c1 : Nat} {B1 : Option Addr} {m1 d1 : Nat} (h : N1 w M g3 g s A1 n1 c1 B1 m1 d1) {t : Bool} {A2 : Option Addr} {n2 c2 : Nat} {B2 : Option Addr} {m2 d2 : Nat} (hg : w.heap.size ≤ g) (h0 : g ≠ 0) :
    N1 w (((M.setCell ⟨g, 0, none⟩ (.bool t)).setCell ⟨g, 1, none⟩ (.slice A2 n2 c2)).setCell ⟨g, 2, none⟩ (.slice B2 m2 d2)) g3 g t A2 n2 c2 B2 m2 d2 := by
  have hgr := grown_set3 M g (.bool t) (.slice A2 n2 c2) (.slice B2 m2 d2)
  obtain ⟨x, y, z, hx, hy, hz, h4⟩ := h.res
  exact ⟨⟨x, y, z, hx, hy, hz, (hgr.block g3 h4.lt (fun e => h.ne (Option.some.inj e).symm)).trans h4⟩, h.box.set3 _ _ _, h.tab.grown hgr h0, below_set3 h.bel hg _ _ _, h.n3, h.ne⟩
theorem W_pow_len (a e : Nat) : (W (a ^ e)).length ≤ (W a).length * e + 1 := W_pow_length a e
theorem fPow (a : Rat) (p : Nat) (lp : p ≤ 32) (w : World) (v : Value) (h : IsF w v a) (k : Wq 1000 a) (hT : Tab w) (q : Rat) (hq : powN a p = q) :
    Calls Tryd.prog 89 #[v, .int .i64 p] w fun e w' => ∃ u, e = .returned u ∧ IsF w' u q ∧ Below w.heap.size w w' := by
  obtain ⟨A1, c1, A2, c2, rfl, r1, r2⟩ := h
  obtain ⟨f1, f2, f3⟩ := powN_facts a p
  have z1 : (W a.num.natAbs).length * p ≤ 1000 * 32 := Nat.mul_le_mul k.1 lp
  have z2 : (W a.den).length * p ≤ 1000 * 32 := Nat.mul_le_mul k.2 lp
  refine (fracPow _ _ _ p w _ _ _ _ r1 r2 (by omega) (by omega) (by omega) hT).mono ?_
  rintro e w' ⟨u, rfl, hu, hb⟩
  exact ⟨u, rfl, by unfold IsF; rw [← hq, f1, f2, f3]; exact hu, hb⟩
set_option maxHeartbeats 2000000 in
set_option maxRecDepth 100000 in
theorem nPow_large (s1 : Bool) (N1' D1' : Nat) (p : Int) (w : World) (v1 : Value) (h1 : RawV w v1 s1 N1' D1') (hT : Tab w) (q : Rat) (hq : ratOf s1 N1' D1' = q) (hL : largeB s1 N1' D1' = true) :
    Calls Tryd.prog 36 #[v1, .int .i64 p] w (OutPost w (Out.err 1)) := by
  have H1 := Lib.hid h1
  have HT := Lib.hid hT
  obtain ⟨A1, n1, c1, A1', n1', c1', rfl⟩ := h1.shape
  clear h1 hT
  obtain ⟨M, hM, k1, k3, bM⟩ := start1 w (.bool s1) (.slice A1 n1 c1) (.slice A1' n1' c1') (.bool false) (.slice none 0 0) (.slice none 0 0) 24 24
  have HX := Lib.hid k1
  have HR := Lib.hid (show Res M (w.heap.size + 1) 24 from ⟨_, _, _, NI.bool _, NI.slice _ _ _, NI.slice _ _ _, k3⟩)
  have BM := Lib.hid bM
  replace H1 := Lib.hid (H1.out.below bM)
  replace HT := Lib.hid (HT.out.below bM)
  have HQ := Lib.hid hq
  have HL := Lib.hid hL
  obtain ⟨o, ho⟩ : ∃ o, Out.err 1 = o := ⟨_, rfl⟩
  have HO := Lib.hid ho
  rw [ho]
  clear hq hL k1 k3 bM ho
  go_enter Tryd.func36, Tryd.ntmps36
  go_upto_region 1 with (fail)
  rw [← hM]
  clear hM
  obtain ⟨x1, x2, x3, _, _, _⟩ := HX.out.cells
  go_wp2_with fail
  refine (readV _ s1 N1' D1' _ H1.out HT.out).mono ?_
  rw [HL.out, Bool.not_true]
  rintro e wa ⟨t1, B1, m1, d1, B1', m1', d1', rfl, f1, ba⟩
  have bb := below_step ba ba.size (below_alloc wa (.cells #[.bool t1, .slice B1 m1 d1, .slice B1' m1' d1'] 60))
  have hf1 := Box.new wa (.bool t1) (.slice B1 m1 d1) (.slice B1' m1' d1') 60
  have szw : w.heap.size + 1 < wa.heap.size := Nat.lt_of_lt_of_le (by obtain ⟨_, _, _, _, _, _, hh⟩ := HR.out; exact hh.lt) ba.size
  have TA : Hid (N1 w (wa.alloc (.cells #[.bool t1, .slice B1 m1 d1, .slice B1' m1' d1'] 60)) (w.heap.size + 1) wa.heap.size t1 B1 m1 d1 B1' m1' d1') :=
    Lib.hid ⟨HR.out.below bb, hf1, HT.out.below bb, below_step BM.out BM.out.size bb, by omega, by omega⟩
  obtain ⟨w2, hw2⟩ : ∃ w2, wa.alloc (.cells #[.bool t1, .slice B1 m1 d1, .slice B1' m1' d1'] 60) = w2 := ⟨_, rfl⟩
  obtain ⟨gf, hgf⟩ : ∃ gf, wa.heap.size = gf := ⟨_, rfl⟩
  clear x1 x2 x3 ba bb f1 hf1 szw HR BM HX H1 HT
  go_upto_region 2 with (fail)
  rw [hw2] at TA
  try rw [hw2]
  rw [hgf] at TA
  try rw [hgf]
  clear hw2 hgf
  obtain ⟨y1, y2, y3, _⟩ := TA.out.box.cells
  obtain ⟨z1, z2, z3, hy1, hy2, hy3, f1, f2, f3⟩ := TA.out.res.cells
  obtain ⟨q0, q1, q2, hs, hb⟩ := OutIs.stored (o := .err 1) (k := 1) (s := false) (A1 := none) (A2 := none) (n1 := 0) (c1 := 0) (n2 := 0) (c2 := 0) ⟨rfl, rfl, by omega, by omega⟩ TA.out.res TA.out.bel TA.out.n3
  have Q := Lib.hid (And.intro q0 (And.intro q1 q2))
  have HBB := Lib.hid hb
  clear q0 q1 q2 hs hb
  go_wp2_with fail
  obtain ⟨q0, q1, q2⟩ := Q.out
  refine bodyPost_ret (v := .tuple #[noRat, .int .i64 1]) (by simp [results, Tryd.results36, go_sem, q0, q1, q2, noRat]) rfl ?_
  rw [← HO.out]
  exact OutPost.err rfl (by omega) (by omega) HBB.out
set_option maxHeartbeats 2000000 in
set_option maxRecDepth 100000 in
theorem nPow_low (s1 : Bool) (N1' D1' : Nat) (p : Int) (hp : p < -32) (w : World) (v1 : Value) (h1 : RawV w v1 s1 N1' D1') (hT : Tab w) (q : Rat) (hq : ratOf s1 N1' D1' = q) (hL : largeB s1 N1' D1' = false) :
    Calls Tryd.prog 36 #[v1, .int .i64 p] w (OutPost w (Out.err 2)) := by
  have H1 := Lib.hid h1
  have HT := Lib.hid hT
  obtain ⟨A1, n1, c1, A1', n1', c1', rfl⟩ := h1.shape
  clear h1 hT
  obtain ⟨M, hM, k1, k3, bM⟩ := start1 w (.bool s1) (.slice A1 n1 c1) (.slice A1' n1' c1') (.bool false) (.slice none 0 0) (.slice none 0 0) 24 24
  have HX := Lib.hid k1
  have HR := Lib.hid (show Res M (w.heap.size + 1) 24 from ⟨_, _, _, NI.bool _, NI.slice _ _ _, NI.slice _ _ _, k3⟩)
  have BM := Lib.hid bM
  replace H1 := Lib.hid (H1.out.below bM)
  replace HT := Lib.hid (HT.out.below bM)
  have HQ := Lib.hid hq
  have HL := Lib.hid hL
  have hp1 : decide (p < -32) = true := decide_eq_true hp
  clear hp
  obtain ⟨o, ho⟩ : ∃ o, Out.err 2 = o := ⟨_, rfl⟩
  have HO := Lib.hid ho
  rw [ho]
  clear hq hL k1 k3 bM ho
  go_enter Tryd.func36, Tryd.ntmps36
  go_upto_region 1 with (fail)
  rw [← hM]
  clear hM
  obtain ⟨x1, x2, x3, _, _, _⟩ := HX.out.cells
  go_wp2_with fail
  refine (readV _ s1 N1' D1' _ H1.out HT.out).mono ?_
  rw [HL.out, Bool.not_false]
  rintro e wa ⟨t1, B1, m1, d1, B1', m1', d1', rfl, f1, ba⟩
  have bb := below_step ba ba.size (below_alloc wa (.cells #[.bool t1, .slice B1 m1 d1, .slice B1' m1' d1'] 60))
  have hf1 := Box.new wa (.bool t1) (.slice B1 m1 d1) (.slice B1' m1' d1') 60
  have szw : w.heap.size + 1 < wa.heap.size := Nat.lt_of_lt_of_le (by obtain ⟨_, _, _, _, _, _, hh⟩ := HR.out; exact hh.lt) ba.size
  have TA : Hid (N1 w (wa.alloc (.cells #[.bool t1, .slice B1 m1 d1, .slice B1' m1' d1'] 60)) (w.heap.size + 1) wa.heap.size t1 B1 m1 d1 B1' m1' d1') :=
    Lib.hid ⟨HR.out.below bb, hf1, HT.out.below bb, below_step BM.out BM.out.size bb, by omega, by omega⟩
  have F1 : Hid (IsF (wa.alloc (.cells #[.bool t1, .slice B1 m1 d1, .slice B1' m1' d1'] 60)) (.agg #[.bool t1, .slice B1 m1 d1, .slice B1' m1' d1']) q) := Lib.hid (by rw [← HQ.out]; exact (f1.out rfl).below (below_alloc _ _))
  obtain ⟨w2, hw2⟩ : ∃ w2, wa.alloc (.cells #[.bool t1, .slice B1 m1 d1, .slice B1' m1' d1'] 60) = w2 := ⟨_, rfl⟩
  obtain ⟨gf, hgf⟩ : ∃ gf, wa.heap.size = gf := ⟨_, rfl⟩
  clear x1 x2 x3 ba bb f1 hf1 szw HR BM HX H1 HT
  go_upto_region 2 with (fail)
  rw [hw2] at TA F1
  try rw [hw2]
  rw [hgf] at TA
  try rw [hgf]
  clear hw2 hgf
  obtain ⟨y1, y2, y3, _⟩ := TA.out.box.cells
  obtain ⟨z1, z2, z3, hy1, hy2, hy3, f1, f2, f3⟩ := TA.out.res.cells
  obtain ⟨q0, q1, q2, hs, hb⟩ := OutIs.stored (o := .err 2) (k := 2) (s := false) (A1 := none) (A2 := none) (n1 := 0) (c1 := 0) (n2 := 0) (c2 := 0) ⟨rfl, rfl, by omega, by omega⟩ TA.out.res TA.out.bel TA.out.n3
  have Q := Lib.hid (And.intro q0 (And.intro q1 q2))
  have HBB := Lib.hid hb
  clear q0 q1 q2 hs hb
  go_wp2_with fail
  obtain ⟨q0, q1, q2⟩ := Q.out
  refine bodyPost_ret (v := .tuple #[noRat, .int .i64 2]) (by simp [results, Tryd.results36, go_sem, q0, q1, q2, noRat]) rfl ?_
  rw [← HO.out]
  exact OutPost.err rfl (by omega) (by omega) HBB.out
set_option maxHeartbeats 2000000 in
set_option maxRecDepth 100000 in
theorem nPow_high (s1 : Bool) (N1' D1' : Nat) (p : Int) (hp : 32 < p) (w : World) (v1 : Value) (h1 : RawV w v1 s1 N1' D1') (hT : Tab w) (q : Rat) (hq : ratOf s1 N1' D1' = q) (hL : largeB s1 N1' D1' = false) :
    Calls Tryd.prog 36 #[v1, .int .i64 p] w (OutPost w (Out.err 2)) := by
  have H1 := Lib.hid h1
  have HT := Lib.hid hT
  obtain ⟨A1, n1, c1, A1', n1', c1', rfl⟩ := h1.shape
  clear h1 hT
  obtain ⟨M, hM, k1, k3, bM⟩ := start1 w (.bool s1) (.slice A1 n1 c1) (.slice A1' n1' c1') (.bool false) (.slice none 0 0) (.slice none 0 0) 24 24
  have HX := Lib.hid k1
  have HR := Lib.hid (show Res M (w.heap.size + 1) 24 from ⟨_, _, _, NI.bool _, NI.slice _ _ _, NI.slice _ _ _, k3⟩)
  have BM := Lib.hid bM
  replace H1 := Lib.hid (H1.out.below bM)
  replace HT := Lib.hid (HT.out.below bM)
  have HQ := Lib.hid hq
  have HL := Lib.hid hL
  have hp1 : decide (p < -32) = false := decide_eq_false (by omega)
  have hp2 : decide (32 < p) = true := decide_eq_true hp
  clear hp
  obtain ⟨o, ho⟩ : ∃ o, Out.err 2 = o := ⟨_, rfl⟩
  have HO := Lib.hid ho
  rw [ho]
  clear hq hL k1 k3 bM ho
  go_enter Tryd.func36, Tryd.ntmps36
  go_upto_region 1 with (fail)
  rw [← hM]
  clear hM
  obtain ⟨x1, x2, x3, _, _, _⟩ := HX.out.cells
  go_wp2_with fail
  refine (readV _ s1 N1' D1' _ H1.out HT.out).mono ?_
  rw [HL.out, Bool.not_false]
  rintro e wa ⟨t1, B1, m1, d1, B1', m1', d1', rfl, f1, ba⟩
  have bb := below_step ba ba.size (below_alloc wa (.cells #[.bool t1, .slice B1 m1 d1, .slice B1' m1' d1'] 60))
  have hf1 := Box.new wa (.bool t1) (.slice B1 m1 d1) (.slice B1' m1' d1') 60
  have szw : w.heap.size + 1 < wa.heap.size := Nat.lt_of_lt_of_le (by obtain ⟨_, _, _, _, _, _, hh⟩ := HR.out; exact hh.lt) ba.size
  have TA : Hid (N1 w (wa.alloc (.cells #[.bool t1, .slice B1 m1 d1, .slice B1' m1' d1'] 60)) (w.heap.size + 1) wa.heap.size t1 B1 m1 d1 B1' m1' d1') :=
    Lib.hid ⟨HR.out.below bb, hf1, HT.out.below bb, below_step BM.out BM.out.size bb, by omega, by omega⟩
  have F1 : Hid (IsF (wa.alloc (.cells #[.bool t1, .slice B1 m1 d1, .slice B1' m1' d1'] 60)) (.agg #[.bool t1, .slice B1 m1 d1, .slice B1' m1' d1']) q) := Lib.hid (by rw [← HQ.out]; exact (f1.out rfl).below (below_alloc _ _))
  obtain ⟨w2, hw2⟩ : ∃ w2, wa.alloc (.cells #[.bool t1, .slice B1 m1 d1, .slice B1' m1' d1'] 60) = w2 := ⟨_, rfl⟩
  obtain ⟨gf, hgf⟩ : ∃ gf, wa.heap.size = gf := ⟨_, rfl⟩
  clear x1 x2 x3 ba bb f1 hf1 szw HR BM HX H1 HT
  go_upto_region 2 with (fail)
  rw [hw2] at TA F1
  try rw [hw2]
  rw [hgf] at TA
  try rw [hgf]
  clear hw2 hgf
  obtain ⟨y1, y2, y3, _⟩ := TA.out.box.cells
  obtain ⟨z1, z2, z3, hy1, hy2, hy3, f1, f2, f3⟩ := TA.out.res.cells
  obtain ⟨q0, q1, q2, hs, hb⟩ := OutIs.stored (o := .err 2) (k := 2) (s := false) (A1 := none) (A2 := none) (n1 := 0) (c1 := 0) (n2 := 0) (c2 := 0) ⟨rfl, rfl, by omega, by omega⟩ TA.out.res TA.out.bel TA.out.n3
  have Q := Lib.hid (And.intro q0 (And.intro q1 q2))
  have HBB := Lib.hid hb
  clear q0 q1 q2 hs hb
  go_wp2_with fail
  obtain ⟨q0, q1, q2⟩ := Q.out
  refine bodyPost_ret (v := .tuple #[noRat, .int .i64 2]) (by simp [results, Tryd.results36, go_sem, q0, q1, q2, noRat]) rfl ?_
  rw [← HO.out]
  exact OutPost.err rfl (by omega) (by omega) HBB.out
set_option maxHeartbeats 2000000 in
set_option maxRecDepth 100000 in
theorem nPow_zero (s1 : Bool) (N1' D1' : Nat) (p : Int) (hp : -32 ≤ p) (hn : p < 0) (hz : ratOf s1 N1' D1' = 0) (w : World) (v1 : Value) (h1 : RawV w v1 s1 N1' D1') (hT : Tab w) (q : Rat) (hq : ratOf s1 N1' D1' = q) (hL : largeB s1 N1' D1' = false) :
    Calls Tryd.prog 36 #[v1, .int .i64 p] w (OutPost w (Out.err 10)) := by
  have H1 := Lib.hid h1
  have HT := Lib.hid hT
  obtain ⟨A1, n1, c1, A1', n1', c1', rfl⟩ := h1.shape
  clear h1 hT
  obtain ⟨M, hM, k1, k3, bM⟩ := start1 w (.bool s1) (.slice A1 n1 c1) (.slice A1' n1' c1') (.bool false) (.slice none 0 0) (.slice none 0 0) 24 24
  have HX := Lib.hid k1
  have HR := Lib.hid (show Res M (w.heap.size + 1) 24 from ⟨_, _, _, NI.bool _, NI.slice _ _ _, NI.slice _ _ _, k3⟩)
  have BM := Lib.hid bM
  replace H1 := Lib.hid (H1.out.below bM)
  replace HT := Lib.hid (HT.out.below bM)
  have HQ := Lib.hid hq
  have HL := Lib.hid hL
  have hp1 : decide (p < -32) = false := decide_eq_false (by omega)
  have hp2 : decide (32 < p) = false := decide_eq_false (by omega)
  have hp3 : decide (p < 0) = true := decide_eq_true (by omega)
  have HZD := Lib.hid (show decide (W q.num.natAbs = []) = true by rw [← hq, hz]; simp [W_zero])
  clear hp hn hz
  obtain ⟨o, ho⟩ : ∃ o, Out.err 10 = o := ⟨_, rfl⟩
  have HO := Lib.hid ho
  rw [ho]
  clear hq hL k1 k3 bM ho
  go_enter Tryd.func36, Tryd.ntmps36
  go_upto_region 1 with (fail)
  rw [← hM]
  clear hM
  obtain ⟨x1, x2, x3, _, _, _⟩ := HX.out.cells
  go_wp2_with fail
  refine (readV _ s1 N1' D1' _ H1.out HT.out).mono ?_
  rw [HL.out, Bool.not_false]
  rintro e wa ⟨t1, B1, m1, d1, B1', m1', d1', rfl, f1, ba⟩
  have bb := below_step ba ba.size (below_alloc wa (.cells #[.bool t1, .slice B1 m1 d1, .slice B1' m1' d1'] 60))
  have hf1 := Box.new wa (.bool t1) (.slice B1 m1 d1) (.slice B1' m1' d1') 60
  have szw : w.heap.size + 1 < wa.heap.size := Nat.lt_of_lt_of_le (by obtain ⟨_, _, _, _, _, _, hh⟩ := HR.out; exact hh.lt) ba.size
  have TA : Hid (N1 w (wa.alloc (.cells #[.bool t1, .slice B1 m1 d1, .slice B1' m1' d1'] 60)) (w.heap.size + 1) wa.heap.size t1 B1 m1 d1 B1' m1' d1') :=
    Lib.hid ⟨HR.out.below bb, hf1, HT.out.below bb, below_step BM.out BM.out.size bb, by omega, by omega⟩
  have F1 : Hid (IsF (wa.alloc (.cells #[.bool t1, .slice B1 m1 d1, .slice B1' m1' d1'] 60)) (.agg #[.bool t1, .slice B1 m1 d1, .slice B1' m1' d1']) q) := Lib.hid (by rw [← HQ.out]; exact (f1.out rfl).below (below_alloc _ _))
  obtain ⟨w2, hw2⟩ : ∃ w2, wa.alloc (.cells #[.bool t1, .slice B1 m1 d1, .slice B1' m1' d1'] 60) = w2 := ⟨_, rfl⟩
  obtain ⟨gf, hgf⟩ : ∃ gf, wa.heap.size = gf := ⟨_, rfl⟩
  clear x1 x2 x3 ba bb f1 hf1 szw HR BM HX H1 HT
  go_upto_region 2 with (fail)
  rw [hw2] at TA F1
  try rw [hw2]
  rw [hgf] at TA
  try rw [hgf]
  clear hw2 hgf
  obtain ⟨y1, y2, y3, _⟩ := TA.out.box.cells
  have hm1 := F1.out.len
  have C0 := Lib.hid (fun w => wZero w B1 (W q.num.natAbs) d1)
  rw [HZD.out] at C0
  rw [hm1] at C0
  clear hm1
  go_wp2_with fail
  refine (C0.out _).mono ?_
  rintro e we ⟨rfl, rfl⟩
  obtain ⟨z1, z2, z3, hy1, hy2, hy3, f1, f2, f3⟩ := TA.out.res.cells
  obtain ⟨q0, q1, q2, hs, hb⟩ := OutIs.stored (o := .err 10) (k := 10) (s := false) (A1 := none) (A2 := none) (n1 := 0) (c1 := 0) (n2 := 0) (c2 := 0) ⟨rfl, rfl, by omega, by omega⟩ TA.out.res TA.out.bel TA.out.n3
  have Q := Lib.hid (And.intro q0 (And.intro q1 q2))
  have HBB := Lib.hid hb
  clear q0 q1 q2 hs hb
  go_wp2_with fail
  obtain ⟨q0, q1, q2⟩ := Q.out
  refine bodyPost_ret (v := .tuple #[noRat, .int .i64 10]) (by simp [results, Tryd.results36, go_sem, q0, q1, q2, noRat]) rfl ?_
  rw [← HO.out]
  exact OutPost.err rfl (by omega) (by omega) HBB.out
set_option maxHeartbeats 2000000 in
set_option maxRecDepth 100000 in
theorem nPow_nn (s1 : Bool) (N1' D1' : Nat) (k : Nat) (hp : k ≤ 32) (r : Rat) (hr : powN (ratOf s1 N1' D1') k = r) (w : World) (v1 : Value) (h1 : RawV w v1 s1 N1' D1') (hT : Tab w) (q : Rat) (hq : ratOf s1 N1' D1' = q) (hL : largeB s1 N1' D1' = false) :
    Calls Tryd.prog 36 #[v1, .int .i64 k] w (OutPost w (give r)) := by
  have H1 := Lib.hid h1
  have HT := Lib.hid hT
  obtain ⟨A1, n1, c1, A1', n1', c1', rfl⟩ := h1.shape
  clear h1 hT
  obtain ⟨M, hM, k1, k3, bM⟩ := start1 w (.bool s1) (.slice A1 n1 c1) (.slice A1' n1' c1') (.bool false) (.slice none 0 0) (.slice none 0 0) 24 24
  have HX := Lib.hid k1
  have HR := Lib.hid (show Res M (w.heap.size + 1) 24 from ⟨_, _, _, NI.bool _, NI.slice _ _ _, NI.slice _ _ _, k3⟩)
  have BM := Lib.hid bM
  replace H1 := Lib.hid (H1.out.below bM)
  replace HT := Lib.hid (HT.out.below bM)
  have HQ := Lib.hid hq
  have HL := Lib.hid hL
  have hf := (largeB_false hL).2.2
  rw [hq] at hf
  have HF := Lib.hid hf
  clear hf
  have hp1 : decide ((k : Int) < -32) = false := decide_eq_false (by omega)
  have hp2 : decide (32 < (k : Int)) = false := decide_eq_false (by omega)
  have hp4 : decide (32 < k) = false := decide_eq_false (by omega)
  have hp3 : decide ((k : Int) < 0) = false := decide_eq_false (by omega)
  rw [hq] at hr
  have HR2 := Lib.hid hr
  have HP := Lib.hid hp
  clear hr hp
  obtain ⟨o, ho⟩ : ∃ o, give r = o := ⟨_, rfl⟩
  have HO := Lib.hid ho
  rw [ho]
  clear hq hL k1 k3 bM ho
  go_enter Tryd.func36, Tryd.ntmps36
  go_upto_region 1 with (fail)
  rw [← hM]
  clear hM
  obtain ⟨x1, x2, x3, _, _, _⟩ := HX.out.cells
  go_wp2_with fail
  refine (readV _ s1 N1' D1' _ H1.out HT.out).mono ?_
  rw [HL.out, Bool.not_false]
  rintro e wa ⟨t1, B1, m1, d1, B1', m1', d1', rfl, f1, ba⟩
  have bb := below_step ba ba.size (below_alloc wa (.cells #[.bool t1, .slice B1 m1 d1, .slice B1' m1' d1'] 60))
  have hf1 := Box.new wa (.bool t1) (.slice B1 m1 d1) (.slice B1' m1' d1') 60
  have szw : w.heap.size + 1 < wa.heap.size := Nat.lt_of_lt_of_le (by obtain ⟨_, _, _, _, _, _, hh⟩ := HR.out; exact hh.lt) ba.size
  have TA : Hid (N1 w (wa.alloc (.cells #[.bool t1, .slice B1 m1 d1, .slice B1' m1' d1'] 60)) (w.heap.size + 1) wa.heap.size t1 B1 m1 d1 B1' m1' d1') :=
    Lib.hid ⟨HR.out.below bb, hf1, HT.out.below bb, below_step BM.out BM.out.size bb, by omega, by omega⟩
  have F1 : Hid (IsF (wa.alloc (.cells #[.bool t1, .slice B1 m1 d1, .slice B1' m1' d1'] 60)) (.agg #[.bool t1, .slice B1 m1 d1, .slice B1' m1' d1']) q) := Lib.hid (by rw [← HQ.out]; exact (f1.out rfl).below (below_alloc _ _))
  obtain ⟨w2, hw2⟩ : ∃ w2, wa.alloc (.cells #[.bool t1, .slice B1 m1 d1, .slice B1' m1' d1'] 60) = w2 := ⟨_, rfl⟩
  obtain ⟨gf, hgf⟩ : ∃ gf, wa.heap.size = gf := ⟨_, rfl⟩
  clear x1 x2 x3 ba bb f1 hf1 szw HR BM HX H1 HT
  go_upto_region 2 with (fail)
  rw [hw2] at TA F1
  try rw [hw2]
  rw [hgf] at TA
  try rw [hgf]
  clear hw2 hgf
  obtain ⟨y1, y2, y3, _⟩ := TA.out.box.cells
  go_wp2_with fail
  refine (Calls.partsF (fPow q k HP.out _ _ F1.out (fit_Wq HF.out (by omega)) TA.out.tab r HR2.out)).mono ?_
  rintro e wb ⟨t2, B2, m2, d2, B2', m2', d2', rfl, i1, bb⟩
  replace TA := Lib.hid (TA.out.below bb)
  clear bb
  go_wp2_with fail
  refine (giveF _ _ _ i1.out).mono ?_
  rintro e we ⟨s9, A9, n9, c9, A9', n9', c9', k9, rfl, h9, b9⟩
  replace TA := Lib.hid (TA.out.below b9)
  obtain ⟨z1, z2, z3, hz1, hz2, hz3, k1, k2, k3⟩ := TA.out.res.cells
  obtain ⟨q0, q1, q2, hs, hb⟩ := OutIs.stored h9 TA.out.res TA.out.bel TA.out.n3
  have Q := Lib.hid (And.intro q0 (And.intro q1 q2))
  have HS := Lib.hid hs
  have HBB := Lib.hid hb
  clear q0 q1 q2 hs hb h9 b9
  go_wp2
  obtain ⟨q0, q1, q2⟩ := Q.out
  refine bodyPost_ret (v := .tuple #[.agg #[.bool s9, .slice A9 n9 c9, .slice A9' n9' c9'], .int .i64 k9]) (by simp [results, Tryd.results36, go_sem, q0, q1, q2]) rfl ?_
  rw [← HO.out]
  exact ⟨_, _, _, _, _, _, _, _, rfl, HS.out, HBB.out⟩
set_option maxHeartbeats 2000000 in
set_option maxRecDepth 100000 in
theorem nPow_neg (s1 : Bool) (N1' D1' : Nat) (k : Nat) (hp : k ≤ 32) (hn : 0 < k) (hz : ratOf s1 N1' D1' ≠ 0) (r : Rat) (hr : powN (ratOf s1 N1' D1')⁻¹ k = r) (w : World) (v1 : Value) (h1 : RawV w v1 s1 N1' D1') (hT : Tab w) (q : Rat) (hq : ratOf s1 N1' D1' = q) (hL : largeB s1 N1' D1' = false) :
    Calls Tryd.prog 36 #[v1, .int .i64 (-(k : Int))] w (OutPost w (give r)) := by
  have H1 := Lib.hid h1
  have HT := Lib.hid hT
  obtain ⟨A1, n1, c1, A1', n1', c1', rfl⟩ := h1.shape
  clear h1 hT
  obtain ⟨M, hM, k1, k3, bM⟩ := start1 w (.bool s1) (.slice A1 n1 c1) (.slice A1' n1' c1') (.bool false) (.slice none 0 0) (.slice none 0 0) 24 24
  have HX := Lib.hid k1
  have HR := Lib.hid (show Res M (w.heap.size + 1) 24 from ⟨_, _, _, NI.bool _, NI.slice _ _ _, NI.slice _ _ _, k3⟩)
  have BM := Lib.hid bM
  replace H1 := Lib.hid (H1.out.below bM)
  replace HT := Lib.hid (HT.out.below bM)
  have HQ := Lib.hid hq
  have HL := Lib.hid hL
  have hf := (largeB_false hL).2.2
  rw [hq] at hf
  have HF := Lib.hid hf
  clear hf
  have hp1 : decide (-(k : Int) < -32) = false := decide_eq_false (by omega)
  have hp1' : decide (32 < k) = false := decide_eq_false (by omega)
  have hp1'' : decide (32 < (k : Int)) = false := decide_eq_false (by omega)
  have hp2 : decide (32 < -(k : Int)) = false := decide_eq_false (by omega)
  have hp3 : decide (-(k : Int) < 0) = true := decide_eq_true (by omega)
  have hp4 : decide (0 < k) = true := decide_eq_true (by omega)
  rw [hq] at hr hz
  have HR2 := Lib.hid hr
  have HZ := Lib.hid hz
  have HP := Lib.hid hp
  have hnn : q.num ≠ 0 := fun h0 => hz (Rat.num_eq_zero.1 h0)
  have HZD := Lib.hid (show decide (W q.num.natAbs = []) = false by
    rw [decide_eq_false_iff_not]
    intro h0
    have h1 := val_W q.num.natAbs
    rw [h0] at h1
    have h2 : val B32 ([] : List Int) = 0 := rfl
    rw [h2] at h1
    omega)
  have e3 : IntKind.i64.wrap (k : Int) = (k : Int) := wrap_i64 _ (by omega) (by omega)
  have e4 : wrap64 (k : Int) = (k : Int) := by unfold wrap64; omega
  clear hr hz hp hn hnn
  obtain ⟨o, ho⟩ : ∃ o, give r = o := ⟨_, rfl⟩
  have HO := Lib.hid ho
  rw [ho]
  clear hq hL k1 k3 bM ho
  go_enter Tryd.func36, Tryd.ntmps36
  go_upto_region 1 with (fail)
  rw [← hM]
  clear hM
  obtain ⟨x1, x2, x3, _, _, _⟩ := HX.out.cells
  go_wp2_with fail
  refine (readV _ s1 N1' D1' _ H1.out HT.out).mono ?_
  rw [HL.out, Bool.not_false]
  rintro e wa ⟨t1, B1, m1, d1, B1', m1', d1', rfl, f1, ba⟩
  have bb := below_step ba ba.size (below_alloc wa (.cells #[.bool t1, .slice B1 m1 d1, .slice B1' m1' d1'] 60))
  have hf1 := Box.new wa (.bool t1) (.slice B1 m1 d1) (.slice B1' m1' d1') 60
  have szw : w.heap.size + 1 < wa.heap.size := Nat.lt_of_lt_of_le (by obtain ⟨_, _, _, _, _, _, hh⟩ := HR.out; exact hh.lt) ba.size
  have TA : Hid (N1 w (wa.alloc (.cells #[.bool t1, .slice B1 m1 d1, .slice B1' m1' d1'] 60)) (w.heap.size + 1) wa.heap.size t1 B1 m1 d1 B1' m1' d1') :=
    Lib.hid ⟨HR.out.below bb, hf1, HT.out.below bb, below_step BM.out BM.out.size bb, by omega, by omega⟩
  have F1 : Hid (IsF (wa.alloc (.cells #[.bool t1, .slice B1 m1 d1, .slice B1' m1' d1'] 60)) (.agg #[.bool t1, .slice B1 m1 d1, .slice B1' m1' d1']) q) := Lib.hid (by rw [← HQ.out]; exact (f1.out rfl).below (below_alloc _ _))
  obtain ⟨w2, hw2⟩ : ∃ w2, wa.alloc (.cells #[.bool t1, .slice B1 m1 d1, .slice B1' m1' d1'] 60) = w2 := ⟨_, rfl⟩
  obtain ⟨gf, hgf⟩ : ∃ gf, wa.heap.size = gf := ⟨_, rfl⟩
  have HGF := Lib.hid (show w.heap.size ≤ gf ∧ gf ≠ 0 by omega)
  clear x1 x2 x3 ba bb f1 hf1 szw HR BM HX H1 HT
  go_upto_region 2 with (fail)
  rw [hw2] at TA F1
  try rw [hw2]
  rw [hgf] at TA
  try rw [hgf]
  clear hw2 hgf
  obtain ⟨y1, y2, y3, _⟩ := TA.out.box.cells
  have hm1 := F1.out.len
  have C0 := Lib.hid (fun w => wZero w B1 (W q.num.natAbs) d1)
  rw [HZD.out] at C0
  rw [hm1] at C0
  clear hm1
  go_wp2_with fail
  refine (C0.out _).mono ?_
  rintro e we ⟨rfl, rfl⟩
  go_wp2_with fail
  refine (Calls.partsF (fInv q _ _ F1.out HZ.out)).mono ?_
  rintro e wb ⟨t2, B2, m2, d2, B2', m2', d2', rfl, i1, bb⟩
  replace TA := Lib.hid (TA.out.below bb)
  have TB := Lib.hid (TA.out.setF (t := t2) (A2 := B2) (n2 := m2) (c2 := d2) (B2 := B2') (m2 := m2') (d2 := d2') HGF.out.1 HGF.out.2)
  have I2 := Lib.hid (i1.out.grown TA.out.box (NI.bool _) (NI.slice _ _ _) (NI.slice _ _ _) (grown_set3 _ _ (.bool t2) (.slice B2 m2 d2) (.slice B2' m2' d2')))
  obtain ⟨M2, hM2⟩ : ∃ M2, (((wb.setCell ⟨gf, 0, none⟩ (.bool t2)).setCell ⟨gf, 1, none⟩ (.slice B2 m2 d2)).setCell ⟨gf, 2, none⟩ (.slice B2' m2' d2')) = M2 := ⟨_, rfl⟩
  clear bb y1 y2 y3
  obtain ⟨y1, y2, y3, u1, u2, u3⟩ := TA.out.box.cells
  go_upto_region 10 with (fail)
  rw [hM2] at TB I2
  try rw [hM2]
  clear hM2 TA i1 y1 y2 y3 u1 u2 u3
  have TA := TB
  have i1 := I2
  obtain ⟨y1, y2, y3, _⟩ := TA.out.box.cells
  go_wp2_with fail
  refine (Calls.partsF (fPow q⁻¹ k HP.out _ _ i1.out (inv_Wq HZ.out (fit_Wq HF.out (by omega))) TA.out.tab r HR2.out)).mono ?_
  rintro e wb ⟨t3, B3, m3, d3, B3', m3', d3', rfl, i2, bb⟩
  replace TA := Lib.hid (TA.out.below bb)
  have F1 := i2
  clear bb
  go_wp2_with fail
  refine (giveF _ _ _ F1.out).mono ?_
  rintro e we ⟨s9, A9, n9, c9, A9', n9', c9', k9, rfl, h9, b9⟩
  replace TA := Lib.hid (TA.out.below b9)
  obtain ⟨z1, z2, z3, hz1, hz2, hz3, k1, k2, k3⟩ := TA.out.res.cells
  obtain ⟨q0, q1, q2, hs, hb⟩ := OutIs.stored h9 TA.out.res TA.out.bel TA.out.n3
  have Q := Lib.hid (And.intro q0 (And.intro q1 q2))
  have HS := Lib.hid hs
  have HBB := Lib.hid hb
  clear q0 q1 q2 hs hb h9 b9
  go_wp2
  obtain ⟨q0, q1, q2⟩ := Q.out
  refine bodyPost_ret (v := .tuple #[.agg #[.bool s9, .slice A9 n9 c9, .slice A9' n9' c9'], .int .i64 k9]) (by simp [results, Tryd.results36, go_sem, q0, q1, q2]) rfl ?_
  rw [← HO.out]
  exact ⟨_, _, _, _, _, _, _, _, rfl, HS.out, HBB.out⟩
theorem nPow (s1 : Bool) (N1' D1' : Nat) (p : Int) (w : World) (v1 : Value) (h1 : RawV w v1 s1 N1' D1') (hT : Tab w) :
    Calls Tryd.prog 36 #[v1, .int .i64 p] w (OutPost w (powOut (largeB s1 N1' D1') p (ratOf s1 N1' D1'))) := by
  unfold powOut
  by_cases h : largeB s1 N1' D1' = true
  · rw [if_pos h]; exact nPow_large s1 N1' D1' p w v1 h1 hT _ rfl h
  · rw [if_neg h]
    have h' : largeB s1 N1' D1' = false := by simpa using h
    by_cases hl : p < -32
    · rw [if_pos (Or.inl hl)]; exact nPow_low s1 N1' D1' p hl w v1 h1 hT _ rfl h'
    · by_cases hh : 32 < p
      · rw [if_pos (Or.inr hh)]; exact nPow_high s1 N1' D1' p hh w v1 h1 hT _ rfl h'
      · rw [if_neg (by omega)]
        by_cases hn : p < 0
        · obtain ⟨k, rfl⟩ : ∃ k : Nat, p = -(k : Int) := ⟨p.natAbs, by omega⟩
          by_cases hz : ratOf s1 N1' D1' = 0
          · rw [if_pos ⟨hn, hz⟩]; exact nPow_zero s1 N1' D1' _ (by omega) hn hz w v1 h1 hT _ rfl h'
          · rw [if_neg (fun h => hz h.2), powZ, if_pos hn]
            have e : (-(k : Int)).natAbs = k := by omega
            rw [e]
            exact nPow_neg s1 N1' D1' k (by omega) (by omega) hz _ rfl w v1 h1 hT _ rfl h'
        · obtain ⟨k, rfl⟩ : ∃ k : Nat, p = (k : Int) := ⟨p.natAbs, by omega⟩
          rw [if_neg (fun h => hn h.1), powZ, if_neg hn]
          have e : ((k : Int)).natAbs = k := by omega
          rw [e]
          exact nPow_nn s1 N1' D1' k (by omega) _ rfl w v1 h1 hT _ rfl h'
end Go.Proofs.YtfmhplcpejmkhaaDoor

namespace Go.Proofs.YtfmhplcpejmkhaaDoor
open Go.RowKit Dig
set_option linter.unusedVariables false
set_option linter.unusedSimpArgs false
/-- the slice of n words is the number a -/
def NatAt (w : World) (A : Option Addr) (n c a : Nat) : Prop := (W a).length = n ∧ Rd w A c (W a)
theorem NatAt.below {w w' : World} {A : Option Addr} {n c a : Nat} (h : NatAt w A n c a) (hb : Below w.heap.size w w') : NatAt w' A n c a := ⟨h.1, h.2.below hb⟩
theorem NatAt.grown {w w' : World} {A : Option Addr} {n c a g : Nat} {x y z : Value} {t : TypeId} (h : NatAt w A n c a) (hb : Box w g x y z t) (hx : NI x) (hy : NI y) (hz : NI z) (hg : w.grownBy w' (some g)) : NatAt w' A n c a := ⟨h.1, h.2.grown_box hb hx hy hz hg⟩
theorem NatAt.of {w : World} {A : Option Addr} {c a : Nat} (h : Rd w A c (W a)) : NatAt w A (W a).length c a := ⟨rfl, h⟩
theorem IsF.at_ {w : World} {t : Bool} {A B : Option Addr} {n c m d : Nat} {q : Rat} (h : IsF w (.agg #[.bool t, .slice A n c, .slice B m d]) q) : t = ng q ∧ NatAt w A n c q.num.natAbs ∧ NatAt w B m d q.den := by
  obtain ⟨A1, c1, A2, c2, e, h1, h2⟩ := h
  simp only [Value.agg.injEq, Array.mk.injEq, List.cons.injEq, Value.bool.injEq, Value.slice.injEq, and_true] at e
  obtain ⟨rfl, ⟨rfl, rfl, rfl⟩, rfl, rfl, rfl⟩ := e
  exact ⟨rfl, ⟨rfl, h1⟩, rfl, h2⟩
theorem IsF.mk_at {w : World} {t : Bool} {A B : Option Addr} {n c m d : Nat} {q : Rat} (h0 : t = ng q) (h1 : NatAt w A n c q.num.natAbs) (h2 : NatAt w B m d q.den) : IsF w (.agg #[.bool t, .slice A n c, .slice B m d]) q := by
  obtain ⟨rfl, r1⟩ := h1
  obtain ⟨rfl, r2⟩ := h2
  subst h0
  exact ⟨_, _, _, _, rfl, r1, r2⟩
theorem GrQ.zero (w : World) : GrQ w noRat 0 := by
  refine ⟨none, 0, none, 0, ?_, ?_, ?_⟩
  · rw [show ((0 : Rat).num.natAbs) = 0 from rfl, show ((0 : Rat).den) = 1 from rfl, W_zero]; rfl
  · rw [show ((0 : Rat).num.natAbs) = 0 from rfl, W_zero]; exact Rd.nil _ _ _ (by omega)
  · exact Rd.nil _ _ _ (by omega)
theorem OutIs.zero (w : World) : OutIs w (.ok 0) noRat 0 := ⟨rfl, GrQ.zero w, fit_zero⟩
theorem aRoot (a k : Nat) (w : World) (A : Option Addr) (n c : Nat) (h : NatAt w A n c a) (hs : (W a).length ≤ 2000) (h2 : 2 ≤ k) (h8 : k ≤ 12) :
    Calls Tryd.prog 94 #[.slice A n c, .int .i64 k] w fun e w' => ∃ A' n' c', e = .returned (.tuple #[.slice A' n' c', .bool (decide (irt k a ^ k = a))]) ∧ Hid (NatAt w' A' n' c' (irt k a)) ∧ Below w.heap.size w w' := by
  obtain ⟨m, rfl⟩ : ∃ m, k = m + 2 := ⟨k - 2, by omega⟩
  obtain ⟨rfl, hr⟩ := h
  refine (wRoot a m w A c hr hs (by omega)).mono ?_
  rintro e w' ⟨B, d, rfl, hB, hb⟩
  exact ⟨_, _, _, rfl, NatAt.of hB, hb⟩
theorem aShl (a k : Nat) (w : World) (A : Option Addr) (n c : Nat) (h : NatAt w A n c a) (hs : (W a).length ≤ 500000) (hk : k ≤ 1000000) :
    Calls Tryd.prog 59 #[.slice A n c, .int .i64 k] w fun e w' => ∃ A' n' c', e = .returned (.slice A' n' c') ∧ Hid (NatAt w' A' n' c' (a * 2 ^ k)) ∧ Below w.heap.size w w' := by
  obtain ⟨rfl, hr⟩ := h
  refine (wShl a k w A c hr (by omega) (by omega)).mono ?_
  rintro e w' ⟨B, d, rfl, hB, hb⟩
  exact ⟨_, _, _, rfl, NatAt.of hB, hb⟩
theorem aDiv (a b : Nat) (w : World) (A A' : Option Addr) (n c n' c' : Nat) (h : NatAt w A n c a) (h' : NatAt w A' n' c' b) (hs : (W a).length ≤ 1000000) (hb : 0 < b) :
    Calls Tryd.prog 114 #[.slice A n c, .slice A' n' c'] w fun e w' => ∃ B x y B' x' y', e = .returned (.tuple #[.slice B x y, .slice B' x' y']) ∧ Hid (NatAt w' B x y (a / b)) ∧ Hid (NatAt w' B' x' y' (a % b)) ∧ Below w.heap.size w w' := by
  obtain ⟨rfl, hr⟩ := h
  obtain ⟨rfl, hr'⟩ := h'
  refine (wDiv a b w A A' c c' hr hr' hs hb).mono ?_
  rintro e w' ⟨B, d, B', d', rfl, hB, hB', hbl⟩
  exact ⟨_, _, _, _, _, _, rfl, NatAt.of hB, NatAt.of hB', hbl⟩
theorem aAdd (a b : Nat) (w : World) (A A' : Option Addr) (n c n' c' : Nat) (h : NatAt w A n c a) (h' : NatAt w A' n' c' b) (hs : (W a).length ≤ 500000) (hs' : (W b).length ≤ 500000) :
    Calls Tryd.prog 107 #[.slice A n c, .slice A' n' c'] w fun e w' => ∃ B x y, e = .returned (.slice B x y) ∧ Hid (NatAt w' B x y (a + b)) ∧ Below w.heap.size w w' := by
  obtain ⟨rfl, hr⟩ := h
  obtain ⟨rfl, hr'⟩ := h'
  refine (wAdd a b w A A' c c' hr hr' (by omega) (by omega)).mono ?_
  rintro e w' ⟨B, d, rfl, hB, hbl⟩
  exact ⟨_, _, _, rfl, NatAt.of hB, hbl⟩
theorem aSmall1 (w : World) : Calls Tryd.prog 85 #[.int .u64 1] w fun e w' => ∃ B x y, e = .returned (.slice B x y) ∧ Hid (NatAt w' B x y 1) ∧ Below w.heap.size w w' := by
  refine (wSmall1 w).mono ?_
  rintro e w' ⟨B, d, rfl, hB, hbl⟩
  exact ⟨_, _, _, rfl, NatAt.of hB, hbl⟩
theorem W_nil_iff (a : Nat) : W a = [] ↔ a = 0 := dig_ne_nil B32_two
theorem aZero (a : Nat) (w : World) (A : Option Addr) (n c : Nat) (h : NatAt w A n c a) :
    Calls Tryd.prog 87 #[.slice A n c] w fun e w' => e = .returned (.bool (decide (a = 0))) ∧ w = w' := by
  obtain ⟨rfl, hr⟩ := h
  refine (wZero w A (W a) c).mono ?_
  rintro e w' ⟨rfl, rfl⟩
  refine ⟨ret_bool ?_, rfl⟩
  congr 1
  exact propext (W_nil_iff a)
theorem aReduce (s : Bool) (a d : Nat) (w : World) (A A' : Option Addr) (n c n' c' : Nat) (h : NatAt w A n c a) (h' : NatAt w A' n' c' d) (hd : d ≠ 0) (hs : (W a).length ≤ 500000) (hs' : (W d).length ≤ 500000) (hT : Tab w) (q : Rat) (hq : mkRat (sg s a) d = q) :
    Calls Tryd.prog 58 #[.bool s, .slice A n c, .slice A' n' c'] w fun e w' => ∃ t B1 m1 e1 B2 m2 e2, e = .returned (.agg #[.bool t, .slice B1 m1 e1, .slice B2 m2 e2]) ∧ Hid (IsF w' (.agg #[.bool t, .slice B1 m1 e1, .slice B2 m2 e2]) q) ∧ Below w.heap.size w w' := by
  obtain ⟨rfl, hr⟩ := h
  obtain ⟨rfl, hr'⟩ := h'
  subst hq
  exact Calls.partsF ((wReduce s a d w A A' c c' hr hr' hd (by omega) (by omega) hT).mono fun e w' hh => hh)
end Go.Proofs.YtfmhplcpejmkhaaDoor

namespace Go.Proofs.YtfmhplcpejmkhaaDoor
open Go.RowKit Dig
set_option linter.unusedVariables false
set_option linter.unusedSimpArgs false
theorem mk_sub (n m : Int) (d e : Nat) (hd : d ≠ 0) (he : e ≠ 0) : mkRat n d - mkRat m e = mkRat (n * e - m * d) (d * e) := by
  rw [Rat.sub_eq_add_neg, Rat.neg_mkRat, Rat.mkRat_add_mkRat _ _ hd he]
  congr 1
  grind
theorem cmp_mk (n m : Int) (d e : Nat) (hd : d ≠ 0) (he : e ≠ 0) : cmpQ (mkRat n d) (mkRat m e) = cmpZ (n * e) (m * d) := by
  unfold cmpQ
  rw [mk_sub n m d e hd he, sgnI_mk _ _ (Nat.mul_ne_zero hd he)]
  unfold cmpZ
  split <;> split <;> (try split) <;> (try split) <;> omega
theorem x_mk (x : Rat) : x = mkRat (sg (ng x) x.num.natAbs) x.den := by rw [sg_ng, Rat.mkRat_self]
theorem cmpZ_lt {a b : Int} (h : a < b) : cmpZ a b = -1 := by unfold cmpZ; rw [if_pos h]
/-- below, above, and how far apart -/
theorem grid_steps (x : Rat) (p : Nat) :
    (gridQ x p false = x ∧ gridQ x p true = x) ∨
    (cmpQ (gridQ x p false) x = -1 ∧ cmpQ x (gridQ x p true) = -1 ∧ cmpQ (gridQ x p false) (gridQ x p true) = -1 ∧ gridQ x p true - gridQ x p false = mkRat 1 (2 ^ p)) := by
  have hP : (2 ^ p : Nat) ≠ 0 := Nat.ne_of_gt (Nat.two_pow_pos p)
  have hd := x.den_nz
  have hx := x_mk x
  obtain ⟨s, hs⟩ : ∃ s, ng x = s := ⟨_, rfl⟩
  obtain ⟨n, hn⟩ : ∃ n, x.num.natAbs = n := ⟨_, rfl⟩
  obtain ⟨d, hdd⟩ : ∃ d, x.den = d := ⟨_, rfl⟩
  obtain ⟨P, hPP⟩ : ∃ P, (2 ^ p : Nat) = P := ⟨_, rfl⟩
  unfold gridQ gridN
  rw [hs, hn, hdd, hPP]
  rw [hs, hn, hdd] at hx
  rw [hdd] at hd
  rw [hPP] at hP
  have hm := Nat.div_add_mod (n * P) d
  have hr := Nat.mod_lt (n * P) (Nat.pos_of_ne_zero hd)
  obtain ⟨k, hk⟩ : ∃ k, n * P / d = k := ⟨_, rfl⟩
  obtain ⟨r, hrr⟩ : ∃ r, n * P % d = r := ⟨_, rfl⟩
  rw [hk, hrr] at hm ⊢
  rw [hrr] at hr
  have hmi : (d : Int) * k + r = n * P := by exact_mod_cast hm
  rw [hx]
  by_cases h0 : r = 0
  · left
    have e : ∀ b : Bool, (k + if (b != s) = true ∧ r ≠ 0 then 1 else 0) = k := by intro b; rw [if_neg (by simp [h0])]; rfl
    rw [e, e]
    have : mkRat (sg s k) P = mkRat (sg s n) d := by
      rw [Rat.mkRat_eq_iff hP hd]
      subst h0
      unfold sg
      cases s <;> simp <;> grind
    exact ⟨this, this⟩
  · right
    rw [cmp_mk _ _ _ _ hP hd, cmp_mk _ _ _ _ hd hP, cmp_mk _ _ _ _ hP hP, mk_sub _ _ _ _ hP hP]
    have hP0 : (0 : Int) < P := by omega
    have hr0 : 0 < r := by omega
    have hc : (k : Int) * d + r = n * P := by grind
    have m1 : (k : Int) * d < n * P := by omega
    have m2 : (n : Int) * P < ((k : Int) + 1) * d := by
      have : ((k : Int) + 1) * d = k * d + d := by grind
      omega
    have m3 : (k : Int) * P < ((k : Int) + 1) * P := by
      have : ((k : Int) + 1) * P = k * P + P := by grind
      omega
    have m4 : ((k : Int) + 1) * P - k * P = P := by grind
    have m5 : mkRat (P : Int) (P * P) = mkRat 1 P := by
      rw [Rat.mkRat_eq_iff (Nat.mul_ne_zero hP hP) hP]
      push_cast
      grind
    cases s
    · have e1 : (k + if (false != false) = true ∧ r ≠ 0 then 1 else 0) = k := by simp
      have e2 : (k + if (true != false) = true ∧ r ≠ 0 then 1 else 0) = k + 1 := by simp [h0]
      rw [e1, e2]
      simp only [sg, Bool.false_eq_true, if_false]
      push_cast
      refine ⟨cmpZ_lt m1, cmpZ_lt m2, cmpZ_lt m3, ?_⟩
      rw [m4, m5]
    · have e1 : (k + if (false != true) = true ∧ r ≠ 0 then 1 else 0) = k + 1 := by simp [h0]
      have e2 : (k + if (true != true) = true ∧ r ≠ 0 then 1 else 0) = k := by simp
      rw [e1, e2]
      simp only [sg, if_true]
      push_cast
      refine ⟨cmpZ_lt ?_, cmpZ_lt ?_, cmpZ_lt ?_, ?_⟩
      · rw [Int.neg_mul, Int.neg_mul]; omega
      · rw [Int.neg_mul, Int.neg_mul]; omega
      · rw [Int.neg_mul, Int.neg_mul]; omega
      · have m6 : -(k : Int) * P - -((k : Int) + 1) * P = P := by grind
        rw [m6, m5]
end Go.Proofs.YtfmhplcpejmkhaaDoor

namespace Go.Proofs.YtfmhplcpejmkhaaDoor
set_option linter.unusedVariables false
set_option linter.unusedSimpArgs false
theorem irt_pos {n a : Nat} (hn : 0 < n) (ha : 0 < a) : 0 < irt n a := le_irt hn (by rw [Nat.one_pow]; exact ha)
theorem irt_pow {n : Nat} (hn : 0 < n) (a : Nat) : irt n (a ^ n) = a := irt_unique hn (Nat.le_refl _) (Nat.pow_lt_pow_left (Nat.lt_succ_self a) (by omega))
theorem dvd_powS {a n : Nat} (hn : 0 < n) : a ∣ a ^ n := by
  obtain ⟨m, rfl⟩ : ∃ m, n = m + 1 := ⟨n - 1, by omega⟩
  exact ⟨a ^ m, by rw [Nat.pow_succ, Nat.mul_comm]⟩
/-- the rational root, where there is one -/
def rtQ (n : Nat) (q : Rat) : Rat := mkRat (sg (ng q) (irt n q.num.natAbs)) (irt n q.den)
def isRt (n : Nat) (q : Rat) : Bool := decide (irt n q.num.natAbs ^ n = q.num.natAbs) && decide (irt n q.den ^ n = q.den)
theorem isRt_iff {n : Nat} {q : Rat} : isRt n q = true ↔ irt n q.num.natAbs ^ n = q.num.natAbs ∧ irt n q.den ^ n = q.den := by
  unfold isRt
  rw [Bool.and_eq_true, decide_eq_true_eq, decide_eq_true_eq]
theorem irt_den {n : Nat} (hn : 0 < n) (q : Rat) : irt n q.den ≠ 0 := Nat.ne_of_gt (irt_pos hn (Nat.pos_of_ne_zero q.den_nz))
theorem rt_facts {n : Nat} {q : Rat} (hn : 0 < n) (h : isRt n q = true) : ng (rtQ n q) = ng q ∧ (rtQ n q).num.natAbs = irt n q.num.natAbs ∧ (rtQ n q).den = irt n q.den := by
  obtain ⟨h1, h2⟩ := isRt_iff.1 h
  have hd := irt_den hn q
  have hc : Nat.gcd (irt n q.num.natAbs) (irt n q.den) = 1 := by
    have := q.reduced
    rw [← h1, ← h2] at this
    have g1 : Nat.gcd (irt n q.num.natAbs) (irt n q.den) ∣ irt n q.num.natAbs ^ n := Nat.dvd_trans (Nat.gcd_dvd_left _ _) (dvd_powS hn)
    have g2 : Nat.gcd (irt n q.num.natAbs) (irt n q.den) ∣ irt n q.den ^ n := Nat.dvd_trans (Nat.gcd_dvd_right _ _) (dvd_powS hn)
    have g3 := Nat.dvd_gcd g1 g2
    rw [Nat.Coprime] at this
    rw [this] at g3
    exact Nat.dvd_one.1 g3
  refine ⟨?_, ?_, ?_⟩
  · unfold rtQ
    by_cases h0 : irt n q.num.natAbs = 0
    · have : q.num.natAbs = 0 := by rw [← h1, h0, Nat.zero_pow hn]
      rw [h0, mk_zero]
      cases e : ng q
      · rfl
      · exact absurd this (ng_nz e)
    · exact mk_sign _ hd h0
  · unfold rtQ; rw [mk_abs _ _ hd, hc, Nat.div_one]
  · unfold rtQ; rw [mk_den _ _ hd, hc, Nat.div_one]
theorem rat_ext {a b : Rat} (h1 : ng a = ng b) (h2 : a.num.natAbs = b.num.natAbs) (h3 : a.den = b.den) : a = b := by
  rw [← mk_ng a, ← mk_ng b, h1, h2, h3]
theorem rt_iff {n : Nat} {q : Rat} (hn : 0 < n) (hs : ng q = true → n % 2 = 1) : powN (rtQ n q) n = q ↔ isRt n q = true := by
  constructor
  · intro h
    obtain ⟨_, e2, e3⟩ := powN_facts (rtQ n q) n
    rw [h] at e2 e3
    have hd := irt_den hn q
    have m2 := mk_abs (ng q) (irt n q.num.natAbs) hd
    have m3 := mk_den (ng q) (irt n q.num.natAbs) hd
    have l1 := irt_le (a := q.num.natAbs) hn
    have l2 := irt_le (a := q.den) hn
    rw [isRt_iff]
    unfold rtQ at e2 e3
    rw [m2] at e2
    rw [m3] at e3
    have k1 := Nat.pow_le_pow_left (Nat.div_le_self (irt n q.num.natAbs) (Nat.gcd (irt n q.num.natAbs) (irt n q.den))) n
    have k2 := Nat.pow_le_pow_left (Nat.div_le_self (irt n q.den) (Nat.gcd (irt n q.num.natAbs) (irt n q.den))) n
    omega
  · intro h
    obtain ⟨e1, e2, e3⟩ := rt_facts hn h
    obtain ⟨f1, f2, f3⟩ := powN_facts (rtQ n q) n
    obtain ⟨h1, h2⟩ := isRt_iff.1 h
    refine rat_ext ?_ ?_ ?_
    · rw [f1, e1]
      cases e : ng q
      · rfl
      · rw [hs e]; rfl
    · rw [f2, e2, h1]
    · rw [f3, e3, h2]
theorem powN_pow (q : Rat) (n : Nat) : powN q n = q ^ n := by
  induction n with
  | zero => rw [Rat.pow_zero]; unfold powN; simp [sg]; rfl
  | succ n ih =>
    rw [Rat.pow_succ, ← ih]
    unfold powN
    conv => rhs; arg 2; rw [← mk_ng q]
    rw [Rat.mkRat_mul_mkRat, ← sg_xor, Nat.pow_succ, Nat.pow_succ]
    congr 2
    rcases Nat.mod_two_eq_zero_or_one n with h | h
    · have h2 : (n + 1) % 2 = 1 := by omega
      rw [h, h2]; cases ng q <;> rfl
    · have h2 : (n + 1) % 2 = 0 := by omega
      rw [h, h2]; cases ng q <;> rfl
theorem isRt_pow (q : Rat) {k : Nat} (hk : 0 < k) : isRt k (powN q k) = true := by
  obtain ⟨_, f2, f3⟩ := powN_facts q k
  rw [isRt_iff, f2, f3, irt_pow hk, irt_pow hk]
  exact ⟨rfl, rfl⟩
theorem rt_pow (q : Rat) {k : Nat} (hk : 0 < k) : rtQ k (powN q k) = if k % 2 = 1 then q else absQ q := by
  obtain ⟨f1, f2, f3⟩ := powN_facts q k
  unfold rtQ
  rw [f1, f2, f3, irt_pow hk, irt_pow hk]
  split
  · rename_i h; rw [h]
    conv => rhs; rw [← mk_ng q]
    simp
  · rename_i h
    rw [decide_eq_false h, Bool.and_false]
    obtain ⟨g1, g2, g3⟩ := absQ_facts q
    rw [← mk_ng (absQ q), g1, g2, g3]
theorem mk_pow (s : Bool) (a d k : Nat) : powN (mkRat (sg s a) d) k = mkRat (sg (s && decide (k % 2 = 1)) (a ^ k)) (d ^ k) := by
  rw [powN_pow]
  induction k with
  | zero => rw [Rat.pow_zero]; simp [sg]; rfl
  | succ k ih =>
    rw [Rat.pow_succ, ih, Rat.mkRat_mul_mkRat, ← sg_xor, Nat.pow_succ, Nat.pow_succ]
    congr 2
    rcases Nat.mod_two_eq_zero_or_one k with h | h
    · have h2 : (k + 1) % 2 = 1 := by omega
      rw [h, h2]; cases s <;> rfl
    · have h2 : (k + 1) % 2 = 0 := by omega
      rw [h, h2]; cases s <;> rfl
/-- the root on the grid: its numerator -/
def rootN (n d k p : Nat) (c : Bool) : Nat :=
  irt k (n * 2 ^ (p * k) / d) + if c = true ∧ ¬ (irt k (n * 2 ^ (p * k) / d) ^ k = n * 2 ^ (p * k) / d ∧ n * 2 ^ (p * k) % d = 0) then 1 else 0
/-- the root on the grid -/
def grtQ (q : Rat) (k p : Nat) (up : Bool) : Rat := mkRat (sg (ng q) (rootN q.num.natAbs q.den k p (up != ng q))) (2 ^ p)
def lowQ (q : Rat) (k p : Nat) : Rat := mkRat (irt k (q.num.natAbs * 2 ^ (p * k) / q.den) : Nat) (2 ^ p)
theorem exact_iff {r N D P : Nat} (k : Nat) (hD : 0 < D) (h : r ^ k ≤ N * P / D) : r ^ k * D = N * P ↔ (r ^ k = N * P / D ∧ N * P % D = 0) := by
  have hm := Nat.div_add_mod (N * P) D
  constructor
  · intro e
    have h1 : N * P / D = r ^ k := by rw [← e]; exact Nat.mul_div_cancel _ hD
    refine ⟨h1.symm, ?_⟩
    rw [← e]; exact Nat.mul_mod_left _ _
  · rintro ⟨e1, e2⟩
    rw [e2, Nat.add_zero] at hm
    rw [e1, Nat.mul_comm, hm]
theorem low_pow (q : Rat) {k p : Nat} (hk : 0 < k) (hs : ng q = false) : powN (lowQ q k p) k = q ↔ (irt k (q.num.natAbs * 2 ^ (p * k) / q.den) ^ k = q.num.natAbs * 2 ^ (p * k) / q.den ∧ q.num.natAbs * 2 ^ (p * k) % q.den = 0) := by
  have hd := q.den_nz
  have hl := irt_le (a := q.num.natAbs * 2 ^ (p * k) / q.den) hk
  rw [← exact_iff k (Nat.pos_of_ne_zero hd) hl]
  unfold lowQ
  have e : ∀ x : Nat, (x : Int) = sg false x := fun _ => rfl
  have hx := mk_ng q
  rw [hs] at hx
  rw [e, mk_pow, Bool.false_and, ← Nat.pow_mul]
  conv => lhs; rhs; rw [← hx]
  rw [Rat.mkRat_eq_iff (Nat.ne_of_gt (Nat.two_pow_pos _)) hd]
  show (_ : Int) * _ = _ * _ ↔ _
  simp only [sg, Bool.false_eq_true, if_false]
  exact_mod_cast Iff.rfl
theorem grt_down (q : Rat) (k p : Nat) (hs : ng q = false) : grtQ q k p false = lowQ q k p := by
  unfold grtQ lowQ rootN
  rw [hs]
  simp [sg]
theorem grt_up (q : Rat) {k p : Nat} (hk : 0 < k) (hs : ng q = false) : grtQ q k p true = if powN (lowQ q k p) k = q then lowQ q k p else lowQ q k p + mkRat 1 (2 ^ p) := by
  have h := low_pow q (p := p) hk hs
  unfold grtQ rootN
  rw [hs]
  have hP : (2 ^ p : Nat) ≠ 0 := Nat.ne_of_gt (Nat.two_pow_pos p)
  by_cases he : powN (lowQ q k p) k = q
  · rw [if_pos he, if_neg (by rw [← h]; simp [he])]
    unfold lowQ
    simp [sg]
  · rw [if_neg he, if_pos (by rw [← h]; simp [he])]
    unfold lowQ
    rw [Rat.mkRat_add_mkRat _ _ hP hP, Rat.mkRat_eq_iff hP (Nat.mul_ne_zero hP hP)]
    simp [sg]
    grind
theorem grt_neg (q : Rat) (k p : Nat) (up : Bool) (hs : ng q = true) : grtQ q k p up = -(grtQ (-q) k p (!up)) := by
  have h0 := ng_nz hs
  have e := ng_neg q
  rw [hs] at e
  unfold grtQ
  rw [neg_abs, neg_den, e, hs, Rat.neg_mkRat]
  congr 1
  simp only [sg, Bool.not_true, Bool.false_and, Bool.false_eq_true, if_false, if_true]
  cases up <;> rfl
/-- below and above -/
theorem grt_between (q : Rat) {k p : Nat} (hk : 0 < k) (hs : ng q = true → k % 2 = 1) : cmpQ (powN (grtQ q k p false) k) q ≤ 0 ∧ cmpQ q (powN (grtQ q k p true) k) ≤ 0 := by
  have hP : ((2 ^ p) ^ k : Nat) ≠ 0 := Nat.ne_of_gt (Nat.pow_pos (Nat.two_pow_pos p))
  have hd := q.den_nz
  have hx := x_mk q
  unfold grtQ
  rw [mk_pow, mk_pow]
  obtain ⟨s, hss⟩ : ∃ s, ng q = s := ⟨_, rfl⟩
  obtain ⟨n, hn⟩ : ∃ n, q.num.natAbs = n := ⟨_, rfl⟩
  obtain ⟨d, hdd⟩ : ∃ d, q.den = d := ⟨_, rfl⟩
  rw [hss] at hs
  have hsk : (s && decide (k % 2 = 1)) = s := by
    cases s
    · rfl
    · rw [hs rfl]; rfl
  rw [hss, hn, hdd] at hx ⊢
  rw [hdd] at hd
  rw [hsk]
  rw [hx]
  rw [cmp_mk _ _ _ _ hP hd, cmp_mk _ _ _ _ hd hP]
  have hPk : ((2 ^ p) ^ k : Nat) = 2 ^ (p * k) := by rw [← Nat.pow_mul]
  have l1 := irt_le (a := n * 2 ^ (p * k) / d) hk
  have l2 := irt_lt (a := n * 2 ^ (p * k) / d) hk
  have lo : ∀ c, c = false → rootN n d k p c ^ k * d ≤ n * 2 ^ (p * k) := by
    intro c hc
    unfold rootN
    rw [if_neg (by rw [hc]; simp), Nat.add_zero]
    exact Nat.le_trans (Nat.mul_le_mul_right d l1) (Nat.div_mul_le_self _ _)
  have hi : ∀ c, c = true → n * 2 ^ (p * k) ≤ rootN n d k p c ^ k * d := by
    intro c hc
    unfold rootN
    by_cases he : irt k (n * 2 ^ (p * k) / d) ^ k = n * 2 ^ (p * k) / d ∧ n * 2 ^ (p * k) % d = 0
    · rw [if_neg (by simp [he.1, he.2]), Nat.add_zero, (exact_iff k (Nat.pos_of_ne_zero hd) l1).2 he]
      exact Nat.le_refl _
    · rw [if_pos ⟨hc, he⟩]
      have h3 : n * 2 ^ (p * k) / d + 1 ≤ (irt k (n * 2 ^ (p * k) / d) + 1) ^ k := l2
      have h4 := Nat.mul_le_mul_right d h3
      have h5 := Nat.div_add_mod (n * 2 ^ (p * k)) d
      have h6 := Nat.mod_lt (n * 2 ^ (p * k)) (Nat.pos_of_ne_zero hd)
      rw [Nat.add_mul, Nat.mul_comm (n * 2 ^ (p * k) / d) d] at h4
      omega
  have cz : ∀ a b : Int, a ≤ b → cmpZ a b ≤ 0 := by
    intro a b h
    unfold cmpZ
    split
    · omega
    · rw [if_pos (by omega)]; omega
  rw [hPk]
  cases s
  · have a1 := lo (false != false) rfl
    have a2 := hi (true != false) rfl
    refine ⟨cz _ _ ?_, cz _ _ ?_⟩
    · simp only [sg, Bool.false_eq_true, if_false]; exact_mod_cast a1
    · simp only [sg, Bool.false_eq_true, if_false]; exact_mod_cast a2
  · have a1 := hi (false != true) rfl
    have a2 := lo (true != true) rfl
    refine ⟨cz _ _ ?_, cz _ _ ?_⟩
    · simp only [sg, if_true]
      rw [Int.neg_mul, Int.neg_mul]
      have : ((n * 2 ^ (p * k) : Nat) : Int) ≤ ((rootN n d k p (false != true) ^ k * d : Nat) : Int) := by exact_mod_cast a1
      push_cast at this ⊢
      omega
    · simp only [sg, if_true]
      rw [Int.neg_mul, Int.neg_mul]
      have : ((rootN n d k p (true != true) ^ k * d : Nat) : Int) ≤ ((n * 2 ^ (p * k) : Nat) : Int) := by exact_mod_cast a2
      push_cast at this ⊢
      omega
end Go.Proofs.YtfmhplcpejmkhaaDoor
